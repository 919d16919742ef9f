/- Part of the proof: R8, RC, RB, Y3, VK, RK, RL. -/
import Derived.Test.YtcbifofjjpfbcaaGreatDoorM32
set_option linter.unusedSimpArgs false
set_option linter.unusedVariables false
set_option maxHeartbeats 8000000
set_option maxRecDepth 16000
namespace Go.Proofs.YtcbifofjjpfbcaaGreatDoor
open Go Go.SL
open Go.RowKit (wrap64)
attribute [local go_sem] Nat.add_zero kC KT cH cz Int.toNat_natCast bU
theorem rR {st : St} {K : SV → St → Prop} {q : Prop} {os : List PV} (b k n w N : Nat) (f : Nat → Nat → PV) (s : Script) (m : Int) (e : PV) (o : Op) (src : Nat → Pixel) (x y : Int) (t : Fr)
  (hbk:b≠k) (hn:n<N) (hN:N≤1000) (hw0:w≤1000) (hw1:0<w) (hf:MJ w (f n) t) (hm:Full m) (P:PaintOk s m o x y w t) (hl:s.images.length≤1000) (hx : -1073741824≤x∧x≤1073741824) (hy : -1073741824≤y∧y≤1073741824) (hp:∀ j,j<w→PixV (src j) m) (hos:os=eA o) (hk:q)
  (hb:st.bx b=some (.fix (kC s m e (.own k (n+1)))):=by (first|(simp (maxSteps:=999999)(disch:=omega) only [go_sem];done)|(simp (maxSteps:=999999)(disch:=omega) only [go_sem];rfl)|rfl|fail)) (hkb:st.bx k=some (.arr 170 14 N f):=by (first|(simp (maxSteps:=999999)(disch:=omega) only [go_sem];done)|(simp (maxSteps:=999999)(disch:=omega) only [go_sem];rfl)|rfl|fail)) (hbn:b<st.nx:=by (first|(simp (maxSteps:=999999)(disch:=omega) only [go_sem];done)|(simp (maxSteps:=999999)(disch:=omega) only [go_sem];omega)|fail)) (hkn:k<st.nx:=by (first|(simp (maxSteps:=999999)(disch:=omega) only [go_sem];done)|(simp (maxSteps:=999999)(disch:=omega) only [go_sem];omega)|fail))
  (hwf:∀ i,st.nx≤i→st.bx i=none:=by (first|(intro iw hiw;(try simp (maxSteps:=999999)(disch:=omega) only [go_sem] at hiw ⊢);(repeat (refine Eq.trans (if_neg ?_) ?_;(focus omega)));apply_assumption;omega)|fail))
  (wk:q→K (.tup []) (st.turn (aN k (.arr 170 14 N (kG n w f fun j=>dI t.op.knockout o.operator o.mode m (aP m o (src j) (gB s o x y j)) (t.acc j) (t.back j))) st.bx) (st.nx+1)):=by (first|(intro h;first|(simp (maxSteps:=999999)(disch:=omega) only [go_sem];exact h)|exact h)|fail)) :
  eB Sg st 113 [.c (.ptr b 0),ag os, .c (.p (ra w src)),I x,I y] (Sl.of K):=by
 subst hos
 have p5:=P.mx
 have p6:=P.my
 refine eO (Cn st.bx st.nx b k n w N f s m e o src x y t hb hkb hbn hkn hbk hn hN hw0 hw1 hf hm P.op P.mode P.opac P.mask hl (by omega) (by omega) hp P.mv P.v P.ko) rfl (fun i hi => ?_) (by omega) (wk hk)
 unfold aN
 rw [if_neg (by omega)]
 exact hwf i (by omega)
theorem Db {st : St} {K : SV → St → Prop} {q : Prop} (b k n w N : Nat) (f : Nat → Nat → PV) (s : Script) (m : Int) (e : PV) (o : Op) (t : Fr)
  (hbk:b≠k) (hn:n<N) (hN:N≤1000) (hw0:w≤1000) (hw1:0<w) (hf:MJ w (f n) t) (hk:q)
  (hb:st.bx b=some (.fix (kC s m e (.own k (n+1)))):=by (first|(simp (maxSteps:=999999)(disch:=omega) only [go_sem];done)|(simp (maxSteps:=999999)(disch:=omega) only [go_sem];rfl)|rfl|fail)) (hkb:st.bx k=some (.arr 170 14 N f):=by (first|(simp (maxSteps:=999999)(disch:=omega) only [go_sem];done)|(simp (maxSteps:=999999)(disch:=omega) only [go_sem];rfl)|rfl|fail)) (hbn:b<st.nx:=by (first|(simp (maxSteps:=999999)(disch:=omega) only [go_sem];done)|(simp (maxSteps:=999999)(disch:=omega) only [go_sem];omega)|fail)) (hkn:k<st.nx:=by (first|(simp (maxSteps:=999999)(disch:=omega) only [go_sem];done)|(simp (maxSteps:=999999)(disch:=omega) only [go_sem];omega)|fail))
  (hwf:∀ i,st.nx≤i→st.bx i=none:=by (first|(intro iw hiw;(try simp (maxSteps:=999999)(disch:=omega) only [go_sem] at hiw ⊢);(repeat (refine Eq.trans (if_neg ?_) ?_;(focus omega)));apply_assumption;omega)|fail))
  (wk:q→K (.tup []) (st.turn (aN b (.fix (kC s m e (.own st.nx (n+2)))) (aN st.nx (.arr 170 14 (n+2) (rW n w f (iU o t))) (di k st.bx))) (st.nx+1)):=by (first|(intro h;first|(simp (maxSteps:=999999)(disch:=omega) only [go_sem];exact h)|exact h)|fail)) :
  eB Sg st 114 [.c (.ptr b 0),ag (eA o)] (Sl.of K):=by
 refine eO (Fv st.bx st.nx b k n w N f s m e o t hb hkb hbn hkn hbk hn hN hw0 hw1 hf) rfl (fun i hi => ?_) (by omega) (wk hk)
 unfold aN di
 rw [if_neg (by omega),if_neg (by omega),if_neg (by omega)]
 exact hwf i (by omega)
theorem LH {w:Nat}:∀ a,a<w→∀ j,j<6→PV.val (([.int .u16 0, .int .u16 0, .int .u16 0, .int .u16 0, .int .u16 0, .int .u16 0]:List Value).getD j undef)=nZ cH xB.acc a j:=fun a ha j hj=>by
 have hivl:j=0∨j=1∨j=2∨j=3∨j=4∨j=5:=by omega
 rcases hivl with rfl|rfl|rfl|rfl|rfl|rfl <;> rfl
theorem LX {w:Nat}:∀ a,a<w→∀ j,j<5→PV.val (([.int .u16 0, .int .u16 0, .int .u16 0, .int .u16 0, .int .u16 0]:List Value).getD j undef)=nZ aW xB.back a j:=fun a ha j hj=>by
 have hivl:j=0∨j=1∨j=2∨j=3∨j=4:=by omega
 rcases hivl with rfl|rfl|rfl|rfl|rfl <;> rfl
theorem rX {w:Nat} {f:Nat→Nat→PV} {t:Fr} {rr:List Fr} {pp:Nat→Acc} (h:mo w f (t :: rr)):mo w (kG rr.length w f pp) (⟨t.op,pp,t.back⟩ :: rr):=by
 refine ⟨fun j hj => ?_,lJ (fun a ha j => ?_) h.2⟩
 ·have h1:=h.1
  unfold kG
  rw [if_pos rfl]
  have hivl:j=0∨j=1∨j=2∨j=3∨j=4∨j=5∨j=6∨j=7∨j=8∨j=9∨j=10∨j=11∨j=12∨j=13:=by omega
  rcases hivl with rfl|rfl|rfl|rfl|rfl|rfl|rfl|rfl|rfl|rfl|rfl|rfl|rfl|rfl <;> first|rfl|exact h1 _ (by decide)
 ·unfold kG
  rw [if_neg (by omega)]
theorem CQ {w:Nat} {f:Nat→Nat→PV} {t t':Fr} {rr:List Fr} (h:mo w f (t :: rr)):mo w (rW rr.length w f t') (t' :: t :: rr):=by
 refine ⟨fun j hj => ?_,lJ (fun a ha j => ?_) h⟩
 ·unfold rW
  rw [List.length_cons,if_pos rfl];rfl
 ·unfold rW
  rw [List.length_cons] at ha
  rw [if_neg (by omega)]
theorem fx {k i:Nat} {bx:Nat→Option Bx} {x:Bx} (h:di k bx i=some x):i≠k:=fun e=>by
 unfold di at h
 rw [if_pos e] at h
 cases h
theorem dY {k i:Nat} {bx:Nat→Option Bx} {x:Bx} (h:di k bx i=some x):bx i=some x:=by
 have e:=fx h
 unfold di at h
 rw [if_neg e] at h
 exact h
theorem oz {st : St} {l : List (Nat × SV)} {b k n N n0 nx : Nat} {s : Script} {m : Int} {e : PV} {f' : Nat → Nat → PV} {base : Nat → Option Bx} {kf : Nat → SV} (hkf : st.kf = kf) (hkl : ∀ s, (kf s).lt n0) (hn0 : n0 ≤ nx) (hbn : b < n0) (hkn : k < nx) (hkb : n0 ≤ k)
  (hbase:∀ i x,base i=some x→i<n0∧x.lt n0) (h1:st.bx b=some (.fix (kC s m e (.own k n)))) (h2:∃ f,st.bx k=some (.arr 170 14 N f)∧(f=f'∨∀ i,i<N→∀ j,j<14→PV.le (f i j) (f' i j)))
  (hoth:∀ i x,i≠b→i<n0→base i=some x→st.bx i=some x) (hfr:nX (rG nx []) st (aN b (.fix (kC s m e (.own k n))) (aN k (.arr 170 14 N f') base)) nx l) :
  Le st (uV l (aN b (.fix (kC s m e (.own k n))) (aN k (.arr 170 14 N f') base)) nx kf) :=
 let ⟨_,h2,hf⟩:=h2
 Xe (cs:=Bz s m e) hkf hkl hn0 (by omega) (by omega) hkn (by omega) nR h1 h2 hf (fun i x e1 e2 hx=>by
  obtain ⟨q1,q2⟩:=hbase i x hx
  refine ⟨by omega,Bx.lt_mono hn0 q2,fY (by omega) (hoth i x e1 q1 hx) (pO (Bx.lt_mono hn0 q2))⟩) hfr
def qY (s:Script) (m:Int) (r:Rect) (x y:Int):Nat:=(fJ s m r (zR s x y) s.ops.length).st.length+(fJ s m r (zR s x y) s.ops.length).junk.length
def Pk (b:Nat) (x y:Int) (w:Nat) (s:Script) (r:Rect) (i:Int):List (Nat × SV):=[(0, .b (.c (.ptr b 0))),(1, .b (I x)),(2, .b (I y)),(3, .b (I w)),(4, .b (.c (.p (.lst 1 s.ops.length fun a _=>PB (eV s r a))))),(11, .b (I i))]
def vT (b k n N:Nat) (f:Nat→Nat→PV) (s:Script) (m:Int) (e:PV) (base:Nat→Option Bx):Nat→Option Bx:=aN b (.fix (kC s m e (.own k n))) (aN k (.arr 170 14 N f) base)
attribute [local go_sem] Pk vT
theorem JI (bx : Nat → Option Bx) (nx b k n0 N0 : Nat) (f0 : Nat → Nat → PV) (s : Script) (r : Rect) (m x y : Int) (w : Nat)
  (hb:bx b=some (.fix (kC s m (ee s.ops.length (aR s.ops)) (.own k n0)))) (hk:bx k=some (.arr 170 14 N0 f0)) (hbn:b<nx) (hkn:k<nx) (hbk:b≠k) (hn0:n0≤N0)
  (hw0:w≤1000) (hw1:0<w) (C:∀ j:Nat,j<w→Pt s m (x+j) y) (hr:aU r=false) (hin:∀ j:Nat,j<w→iO r (x+j) y) (hs:ScriptLen s) (hx : -1073741824≤x∧x≤1073741824) (hy : -1073741824≤y∧y≤1073741824) :
  nY Sg bx nx 75 [.c (.ptr b 0),I x,I y,I w, .c (.p (.lst 1 s.ops.length fun a _=>PB (eV s r a)))] (.b (.c (.p (ra w fun j=>dH s (x+j) y))))
   (aN b (.fix (kC s m (ee s.ops.length (aR s.ops)) (.own nx 1))) (aN nx (.arr 170 14 (qY s m r x y) (fun _ _ => .any)) (di k bx))) (nx+1):=by
 have ht:True:=trivial
 have C0:=C 0 hw1
 have V:=C0.V
 have W:=V.wf
 have hm:=C0.hm
 have hcnt:=V.cnt
 have him:=V.imgs
 generalize he:ee s.ops.length (aR s.ops)=e
 rw [he] at hb
 have eb:bx=aN b (.fix (kC s m e (.own k n0))) (aN k (.arr 170 14 N0 f0) bx):=by rw [← cR hk];exact cR hb
 refine tk Tryz.func75 rfl (rs:=[.tmp 10]) rfl rfl gp (by decide +kernel) (Nat.le_of_ble_eq_true rfl) ?_ (fun kf hkf hbl => ?_)
 ·intro v hv
  simp only [List.mem_cons,List.not_mem_nil,or_false] at hv
  rcases hv with rfl|rfl|rfl|rfl|rfl
  ·exact hbn
  ·trivial
  ·trivial
  ·trivial
  ·trivial
 have hw:∀ i,nx≤i→bx i=none:=fun i hi=>by
  cases h:bx i with
  | none=>rfl
  | some y=>exact absurd (hbl i y h).1 (by omega)
 have hbase:∀ i x,di k bx i=some x→i<nx∧x.lt nx:=fun i x h=>by
  unfold di at h
  split at h
  ·cases h
  ·exact hbl i x h
 rw [eb]
 repeat' (first|with_reducible exact aK|refine ak ht ?_|refine an ?_|((first|refine aj (fun K hK => ?_)|refine aY ?_);and_intros;all_goals first|(refine hK _ ?_;clear hK K)|try exact aa)|((first|apply aC|apply ay);(case hf=>rfl);(case hc=>exact aS);(all_goals first|(intro hb;(try simp only [bZ] at hb))|skip))|exact ao|(refine aH (fun hb => ?_) (fun hb => ?_);all_goals try exact ax)|refine ar (fun KB hB => ?_)|(refine hB _ ?_;clear hB KB)|refine aA (S:=Sg) (by assumption) ?_|(refine ai ?_;(try clear hB KB);(try clear hK K)))
 refine iN (id:=1) (.br 0 (.br 1 (.br 2 (.br 3 (.br 4 (.br 5 (.br 6 (.br 7 (.br 9 (.br 8 (.br 10 (.br 11 (.br 12 (.br 13 (.br 14 (.br 15 (.br 16 .leaf .nil) .nil) .nil) .nil) .nil) .nil) .nil) (.br 10 (.br 8 (.br 11 (.br 12 (.br 13 (.br 14 (.br 15 (.br 16 .leaf .nil) .nil) .nil) .nil) .nil) .nil) .nil) .nil)) .nil) .nil) .nil) .nil) .nil) .nil) .nil) .nil) .nil) (by decide +kernel) (by (first|(refine And.intro (fun iw hiw => ?_) ?_;(focus ((try simp (maxSteps:=999999)(disch:=omega) only [go_sem] at hiw ⊢);(repeat (refine Eq.trans (if_neg ?_) ?_;(focus omega)));(first|exact hw iw (by omega)|rfl)));(focus (first|exact Nat.zero_le _|(simp (maxSteps:=999999)(disch:=omega) only [go_sem];done)|(simp (maxSteps:=999999)(disch:=omega) only [go_sem];omega))))|exact cS)) (fun K0 hW => ?_)
 refine (fun (tl:∀ st,Le st (uV [(0, .b (.c (.ptr b 0))),(1, .b (I x)),(2, .b (I y)),(3, .b (I w)),(4, .b (.c (.p (.lst 1 s.ops.length fun a _=>PB (eV s r a)))))] (aN b (.fix (kC s m e (.own (nx+3) 1))) (aN (nx+3) (.arr 170 14 1 fun _ j=>(KT w xB).getD j .any) (di k bx))) (nx+4) kf)→K0 st) => ?_) (fun st hl=>hW st _ hl ?_)
 ·clear hW
  repeat' (first|exact cE|(refine dA (fun K' hK' => ?_) ?_)|(refine cj (tl _ ?_);clear tl)|(simp (maxSteps:=999999)(disch:=omega) only [go_sem];and_intros;(all_goals first|(refine hK' _ ?_;clear hK' K')|trivial|omega|exact Nat.le_of_ble_eq_true rfl|exact aa|skip)))
  all_goals
   refine oz rfl hkf (by omega) hbn (by omega) (by omega) hbase ?_ ?_ (fun i x e1 e2 hx => ?_) ?_
   ·(first|(simp (maxSteps:=999999)(disch:=omega) only [go_sem];done)|(simp (maxSteps:=999999)(disch:=omega) only [go_sem];rfl))
   ·apply Exists.intro
    refine And.intro ?_ (.inr fun a ha j hj => ?_)
    ·(first|(simp (maxSteps:=999999)(disch:=omega) only [go_sem];done)|(simp (maxSteps:=999999)(disch:=omega) only [go_sem];rfl))
    ·obtain rfl:a=0:=by omega
     unfold gh
     rw [if_neg (Nat.not_lt_zero _)]
     have hivl:j=0∨j=1∨j=2∨j=3∨j=4∨j=5∨j=6∨j=7∨j=8∨j=9∨j=10∨j=11∨j=12∨j=13:=by omega
     rcases hivl with rfl|rfl|rfl|rfl|rfl|rfl|rfl|rfl|rfl|rfl|rfl|rfl|rfl|rfl <;> (first|exact PV.le_refl _|exact gj LH|exact gj LX)
   ·have e3:=fx hx
    simp (maxSteps:=999999)(disch:=omega) only [go_sem]
    exact dY hx
   ·simp (maxSteps:=999999)(disch:=omega) only [go_sem]
    (first|done|(and_intros;all_goals first|omega|exact .inl rfl))
 clear hW
 obtain ⟨q,hq⟩:∃ q,q=fJ s m r (zR s x y):=⟨_,rfl⟩
 have hfin:∀ t',(q s.ops.length).st=[t']→(q s.ops.length).st.length+(q s.ops.length).junk.length=qY s m r x y:=fun t' _=>by rw [hq];rfl
 repeat' (first|with_reducible exact aK|refine ak ht ?_|refine an ?_|((first|refine aj (fun K hK => ?_)|refine aY ?_);and_intros;all_goals first|(refine hK _ ?_;clear hK K)|try exact aa)|((first|apply aC|apply ay);(case hf=>rfl);(case hc=>exact aS);(all_goals first|(intro hb;(try simp only [bZ] at hb))|skip))|exact ao|(refine aH (fun hb => ?_) (fun hb => ?_);all_goals try exact ax)|refine ar (fun KB hB => ?_)|(refine hB _ ?_;clear hB KB)|refine aA (S:=Sg) (by assumption) ?_|(refine ai ?_;(try clear hB KB);(try clear hK K)))
 refine aM (X:=Nat × Nat × (Nat→Nat→PV) × Nat) (fun z=>uV (Pk b x y w s r z.1) (vT b z.2.1 (q z.1).st.length ((q z.1).st.length+(q z.1).junk.length) z.2.2.1 s m e (di k bx)) z.2.2.2 kf)
  (fun z=>z.1≤s.ops.length∧Reach s r z.1∧rm s m x y w (q z.1) z.1∧mo w z.2.2.1 (q z.1).st∧(q z.1).st.length+(q z.1).junk.length≤1000∧nx≤z.2.1∧z.2.1<z.2.2.2) (fun z=>s.ops.length - z.1) (0,nx+3,fun _ j=>(KT w xB).getD j .any,nx+4) ?_ ?_ ?_
 ·subst hq
  dsimp only
  exact ⟨Nat.zero_le _,fun g hg=>(by cases hg),FI,⟨fun j hj=>rfl,trivial⟩,(by show 1+0≤1000;omega),by omega,by omega⟩
 ·subst hq
  show Le _ (uV (Pk b x y w s r 0) (vT b (nx+3) 1 1 (fun _ j=>(KT w xB).getD j .any) s m e (di k bx)) (nx+4) kf)
  refine oz rfl hkf (by omega) hbn (by omega) (by omega) hbase ?_ ?_ (fun i x e1 e2 hx => ?_) ?_
  ·(first|(simp (maxSteps:=999999)(disch:=omega) only [go_sem];done)|(simp (maxSteps:=999999)(disch:=omega) only [go_sem];rfl))
  ·apply Exists.intro
   refine And.intro ?_ (.inl rfl)
   (first|(simp (maxSteps:=999999)(disch:=omega) only [go_sem];done)|(simp (maxSteps:=999999)(disch:=omega) only [go_sem];rfl))
  ·have e3:=fx hx
   simp (maxSteps:=999999)(disch:=omega) only [go_sem]
   exact dY hx
  ·simp (maxSteps:=999999)(disch:=omega) only [go_sem]
   (first|done|(and_intros;all_goals first|omega|exact .inl rfl))
 rintro ⟨i,k1,f,n1⟩ ⟨hi,hR,hC,hH,hN,hk1,hk2⟩
 dsimp only at hi hR hC hH hN hk1 hk2 ⊢
 obtain ⟨st,jk,eq⟩:∃ st jk,q i=⟨st,jk⟩:=⟨_,_,rfl⟩
 rw [eq] at hC hH hN ⊢
 obtain ⟨t,rr,rfl,hrl⟩:=Og hw1 C hi hC
 simp only [List.length_cons] at hN ⊢
 rcases Nat.lt_or_ge i s.ops.length with hlt|hge
 ·have g0:decide ((i:Int)<s.ops.length)=true:=decide_eq_true (by omega)
  have hqn:eV s r i=true→q (i+1)=mf m (zR s x y) ⟨t :: rr,jk⟩ (aB s.ops i):=fun ha=>by rw [hq,Ai ha,← hq,eq]
  by_cases hk3:(aB s.ops i).kind=3
  ·have hk3':(s.ops.getD i default).kind=3:=hk3
   have ha:=wY W hlt hk3 hR
   have hqn:=hqn ha
   have hRn:=lG W hlt hR ha
   have hCn:=xd hlt ha (by rw [← hq,eq];exact hC)
   rw [← hq] at hCn
   obtain ⟨t',u,r',e',P,hv,hpv⟩:=QC hw1 C hlt hk3 hC
   cases e'
   simp only [List.length_cons] at hN hrl ⊢
   have hres:=uk w t.acc t.back m hm hw0 hv
   have hz:(fun j:Nat=>aP m t.op (bB (t.acc j) (t.back j) m) (zR s x y j t.op).2)=fun j:Nat=>aP m t.op (bB (t.acc j) (t.back j) m) (gB s t.op x y j):=by
    funext j
    rw [wI P.mask]
   obtain ⟨g,hg⟩:∃ g:Nat→Pixel,g=fun j=>bB (t.acc j) (t.back j) m:=⟨_,rfl⟩
   have hp:∀ j,j<w→PixV (g j) m:=fun j hj=>by rw [hg];exact hpv j hj
   obtain ⟨pp,hpp⟩:∃ pp:Nat→Acc,pp=fun j=>dI u.op.knockout t.op.operator t.op.mode m (aP m t.op (g j) (gB s t.op x y j)) (u.acc j) (u.back j):=⟨_,rfl⟩
   have hqn:q (i+1)=⟨⟨u.op,pp,u.back⟩ :: r',t :: jk⟩:=by
    rw [hqn]
    unfold mf
    dsimp only
    rw [if_neg (by omega),if_neg (by omega),hz,hpp,hg];rfl
   rw [hqn] at hCn
   have hH1:=hH.1
   have hos:[f (r'.length+1) 0,f (r'.length+1) 1,f (r'.length+1) 2,f (r'.length+1) 3,f (r'.length+1) 4,f (r'.length+1) 5,f (r'.length+1) 6,f (r'.length+1) 7,f (r'.length+1) 8,f (r'.length+1) 9,f (r'.length+1) 10,f (r'.length+1) 11]=eA t.op:=by
    rw [show f (r'.length+1) 0=_ from hH1 0 (by decide),show f (r'.length+1) 1=_ from hH1 1 (by decide),show f (r'.length+1) 2=_ from hH1 2 (by decide),show f (r'.length+1) 3=_ from hH1 3 (by decide),show f (r'.length+1) 4=_ from hH1 4 (by decide),show f (r'.length+1) 5=_ from hH1 5 (by decide),show f (r'.length+1) 6=_ from hH1 6 (by decide),show f (r'.length+1) 7=_ from hH1 7 (by decide),show f (r'.length+1) 8=_ from hH1 8 (by decide),show f (r'.length+1) 9=_ from hH1 9 (by decide),show f (r'.length+1) 10=_ from hH1 10 (by decide),show f (r'.length+1) 11=_ from hH1 11 (by decide)]
    rfl
   have hres:aF Sg 112 [.c (.p (f (r'.length+1) 12)), .c (.p (f (r'.length+1) 13)),U m] (fun r=>r = .tup [.c (.p (ra w g)),B true]):=by
    rw [show f (r'.length+1) 12=_ from hH1 12 (by decide),show f (r'.length+1) 13=_ from hH1 13 (by decide),hg]
    exact hres
   repeat' (first|with_reducible exact aK|((first|apply ft|apply jB);(case hc=>exact aS);(case ht=>(simp only [Int.toNat_natCast,Int.reduceBEq,Int.reduceBNe,Int.reduceLT,Int.reduceLE,decide_true,decide_false,oZ,g0,hk3'];done)))|((first|apply gZ|apply iz);(case hc=>exact aS);(case ht=>(simp only [Int.toNat_natCast,Int.reduceBEq,Int.reduceBNe,Int.reduceLT,Int.reduceLE,decide_true,decide_false,oZ,g0,hk3'];done)))|((first|((with_reducible refine bC (id:=8) [(84,2)] (by decide +kernel) (by decide +kernel) ?_ (fun K hK => ?_));(first|(refine And.intro (fun iw hiw => ?_) ?_;(focus ((try simp (maxSteps:=999999)(disch:=omega) only [go_sem] at hiw ⊢);(repeat (refine Eq.trans (if_neg ?_) ?_;(focus omega)));(first|exact hw iw (by omega)|rfl)));(focus (first|exact Nat.zero_le _|(simp (maxSteps:=999999)(disch:=omega) only [go_sem];done)|(simp (maxSteps:=999999)(disch:=omega) only [go_sem];omega))))|exact cS))|((with_reducible refine ch (id:=8) [(84,2)] (by decide +kernel) (by decide +kernel) ?_ (fun K hK => ?_));(first|(refine And.intro (fun iw hiw => ?_) ?_;(focus ((try simp (maxSteps:=999999)(disch:=omega) only [go_sem] at hiw ⊢);(repeat (refine Eq.trans (if_neg ?_) ?_;(focus omega)));(first|exact hw iw (by omega)|rfl)));(focus (first|exact Nat.zero_le _|(simp (maxSteps:=999999)(disch:=omega) only [go_sem];done)|(simp (maxSteps:=999999)(disch:=omega) only [go_sem];omega))))|exact cS)));(try simp (maxSteps:=999999)(disch:=omega) only [go_sem]);and_intros;(all_goals first|(refine hK _ (by simp (maxSteps:=999999)(disch:=omega) only [go_sem]) ?_;clear hK K)|exact aa|skip))|refine an ?_|((first|refine aj (fun K hK => ?_)|refine aY ?_|refine ae (hres) ?_|refine aq (fun hg=>hres) ?_|refine rR b k1 r'.length w (r'.length+1+1+jk.length) f s m e t.op g x y u (by omega) (by omega) hN hw0 hw1 hH.2.1 hm P (by omega) hx hy hp hos ?_);and_intros;all_goals first|(refine hK _ ?_;clear hK K)|try exact aa)|((first|apply aC|apply ay);(case hf=>rfl);(case hc=>exact aS);(all_goals first|(intro hb;(try simp only [bZ] at hb))|skip))|exact ao|(refine aH (fun hb => ?_) (fun hb => ?_);all_goals try exact ax)|refine ar (fun KB hB => ?_)|(refine hB _ ?_;clear hB KB)|refine aA (S:=Sg) (by assumption) ?_|(refine ai ?_;(try clear hB KB);(try clear hK K)))
   rw [← hpp,ah]
   refine au (i+1,k1,kG r'.length w f pp,n1) ?_ ?_ (by dsimp only;omega)
   ·dsimp only
    rw [hqn,show ((⟨u.op,pp,u.back⟩:Fr) :: r').length+(t :: jk).length=r'.length+1+1+jk.length by simp only [List.length_cons];omega]
    refine oz rfl hkf (by omega) hbn (by omega) (by omega) hbase ?_ ?_ (fun i x e1 e2 hx => ?_) ?_
    ·(first|(simp (maxSteps:=999999)(disch:=omega) only [go_sem];done)|(simp (maxSteps:=999999)(disch:=omega) only [go_sem];rfl))
    ·apply Exists.intro
     refine And.intro ?_ (.inl rfl)
     (first|(simp (maxSteps:=999999)(disch:=omega) only [go_sem];done)|(simp (maxSteps:=999999)(disch:=omega) only [go_sem];rfl))
    ·have e3:=fx hx
     simp (maxSteps:=999999)(disch:=omega) only [go_sem]
     exact dY hx
    ·simp (maxSteps:=999999)(disch:=omega) only [go_sem]
     (first|done|(and_intros;all_goals first|omega|exact .inl rfl))
   ·dsimp only
    rw [hqn]
    exact ⟨by omega,hRn,hCn,rX hH.2,(by simp only [List.length_cons];omega),hk1,hk2⟩
  cases ha:eV s r i with
  | false =>
   have hk3':((s.ops.getD i default).kind == 3)=false:=beq_eq_false_iff_ne.2 hk3
   have hn:eM s r i=false:=by rw [← pg hR];exact ha
   obtain ⟨q1,q2,q3,q4⟩:=uK (m:=m) (z:=zR s x y) W hlt hk3 hR hn
   have hCs:=Fj C hr hin W hlt hk3 hR hn (by rw [← hq,eq];exact hC)
   rw [← hq] at q4 hCs
   rw [eq] at q4
   rw [q4] at hCs
   subst he
   repeat' (first|with_reducible exact aK|((first|apply ft|apply jB);(case hc=>exact aS);(case ht=>(simp only [Int.toNat_natCast,Int.reduceBEq,Int.reduceBNe,Int.reduceLT,Int.reduceLE,decide_true,decide_false,oZ,g0,ha,hk3'];done)))|((first|apply gZ|apply iz);(case hc=>exact aS);(case ht=>(simp only [Int.toNat_natCast,Int.reduceBEq,Int.reduceBNe,Int.reduceLT,Int.reduceLE,decide_true,decide_false,oZ,g0,ha,hk3'];done)))|refine an ?_|((first|refine aj (fun K hK => ?_)|refine aY ?_);and_intros;all_goals first|(refine hK _ ?_;clear hK K)|try exact aa)|((first|apply aC|apply ay);(case hf=>rfl);(case hc=>exact aS);(all_goals first|(intro hb;(try simp only [bZ] at hb))|skip))|exact ao|(refine aH (fun hb => ?_) (fun hb => ?_);all_goals try exact ax)|refine ar (fun KB hB => ?_)|(refine hB _ ?_;clear hB KB)|refine aA (S:=Sg) (by assumption) ?_|(refine ai ?_;(try clear hB KB);(try clear hK K)))
   rw [ah]
   refine au (aR s.ops i+1,k1,f,n1) ?_ ?_ (by dsimp only;omega)
   ·dsimp only
    rw [q4]
    refine oz rfl hkf (by omega) hbn (by omega) (by omega) hbase ?_ ?_ (fun i x e1 e2 hx => ?_) ?_
    ·(first|(simp (maxSteps:=999999)(disch:=omega) only [go_sem];done)|(simp (maxSteps:=999999)(disch:=omega) only [go_sem];rfl))
    ·apply Exists.intro
     refine And.intro ?_ (.inl rfl)
     (first|(simp (maxSteps:=999999)(disch:=omega) only [go_sem];done)|(simp (maxSteps:=999999)(disch:=omega) only [go_sem];rfl))
    ·have e3:=fx hx
     simp (maxSteps:=999999)(disch:=omega) only [go_sem]
     exact dY hx
    ·simp (maxSteps:=999999)(disch:=omega) only [go_sem]
     (first|done|(and_intros;all_goals first|omega|exact .inl rfl))
   ·dsimp only
    rw [q4]
    exact ⟨by omega,q3,hCs,hH,(by simp only [List.length_cons];omega),hk1,hk2⟩
  | true =>
   have hqn:=hqn ha
   have hRn:=lG W hlt hR ha
   have hCn:=xd hlt ha (by rw [← hq,eq];exact hC)
   rw [← hq] at hCn
   rcases W.kinds i hlt with hk|hk|hk
   ·have hk2':(s.ops.getD i default).kind=1:=hk
    obtain ⟨P,hi1,hi2⟩:=MW hw1 C hlt hk hC
    have px:=P.ox
    have py:=P.oy
    have hpx:=uu s m e .any (aB s.ops i).image.toNat w (x - (aB s.ops i).x) (y - (aB s.ops i).y) (by omega) (by omega) hw0 (by omega)
    rw [show (((aB s.ops i).image.toNat:Nat):Int)=(aB s.ops i).image by omega] at hpx
    have hp:=fun j=>Ap hm C0.mx C0.im (aB s.ops i).image.toNat (x - (aB s.ops i).x+(j:Nat)) (y - (aB s.ops i).y)
    have hz:(fun j:Nat=>aP m (aB s.ops i) (zR s x y j (aB s.ops i)).1 (zR s x y j (aB s.ops i)).2)=fun j:Nat=>aP m (aB s.ops i) (cu (s.images.getD (aB s.ops i).image.toNat default) (x - (aB s.ops i).x+j) (y - (aB s.ops i).y)) (gB s (aB s.ops i) x y j):=by
     funext j
     rw [NU hk ⟨hi1,hi2⟩,wI P.mask]
    have hqn:q (i+1)=⟨yi m (aB s.ops i) (fun j:Nat=>aP m (aB s.ops i) (cu (s.images.getD (aB s.ops i).image.toNat default) (x - (aB s.ops i).x+j) (y - (aB s.ops i).y)) (gB s (aB s.ops i) x y j)) t :: rr,jk⟩:=by
     rw [hqn,← hz]
     unfold mf
     dsimp only
     rw [if_pos hk]
    generalize hg:(fun j:Nat=>cu (s.images.getD (aB s.ops i).image.toNat default) (x - (aB s.ops i).x+j) (y - (aB s.ops i).y))=g at hpx
    have hp:∀ j,j<w→PixV (g j) m:=fun j _=>by rw [← hg];exact hp j
    have hqn:q (i+1)=⟨yi m (aB s.ops i) (fun j:Nat=>aP m (aB s.ops i) (g j) (gB s (aB s.ops i) x y j)) t :: rr,jk⟩:=by rw [hqn,← hg]
    clear hz hg
    unfold aB at P hpx hqn px py
    obtain ⟨pp,hpp⟩:∃ pp:Nat→Acc,pp=fun j=>dI t.op.knockout (s.ops.getD i default).operator (s.ops.getD i default).mode m (aP m (s.ops.getD i default) (g j) (gB s (s.ops.getD i default) x y j)) (t.acc j) (t.back j):=⟨_,rfl⟩
    have hqn:q (i+1)=⟨⟨t.op,pp,t.back⟩ :: rr,jk⟩:=by rw [hqn,hpp];rfl
    rw [hqn] at hCn
    repeat' (first|with_reducible exact aK|((first|apply ft|apply jB);(case hc=>exact aS);(case ht=>(simp only [Int.toNat_natCast,Int.reduceBEq,Int.reduceBNe,Int.reduceLT,Int.reduceLE,decide_true,decide_false,oZ,g0,hk2',ha];done)))|((first|apply gZ|apply iz);(case hc=>exact aS);(case ht=>(simp only [Int.toNat_natCast,Int.reduceBEq,Int.reduceBNe,Int.reduceLT,Int.reduceLE,decide_true,decide_false,oZ,g0,hk2',ha];done)))|refine an ?_|((first|refine aj (fun K hK => ?_)|refine aY ?_);and_intros;all_goals first|(refine hK _ ?_;clear hK K)|try exact aa)|((first|apply aC|apply ay);(case hf=>rfl);(case hc=>exact aS);(all_goals first|(intro hb;(try simp only [bZ] at hb))|skip))|exact ao|(refine aH (fun hb => ?_) (fun hb => ?_);all_goals try exact ax)|refine ar (fun KB hB => ?_)|(refine hB _ ?_;clear hB KB)|refine aA (S:=Sg) (by assumption) ?_|(refine ai ?_;(try clear hB KB);(try clear hK K)))
    refine pD (id:=6) (.br 0 (.br 2 (.br 3 (.br 4 (.br 5 (.br 6 (.br 7 (.br 8 (.br 9 (.br 10 (.br 11 (.br 12 (.br 13 (.br 15 (.br 16 (.br 1 (.br 14 (.br 17 .leaf .nil) .nil) (.br 14 (.br 1 (.br 17 .leaf .nil) .nil) .nil)) .nil) .nil) .nil) .nil) .nil) .nil) .nil) .nil) .nil) .nil) .nil) .nil) .nil) .nil) .nil) (by decide +kernel) ?_ (fun K0 hW => ?_)
    ·refine ⟨?_,Nat.zero_le _⟩
     intro iw hiw
     (try simp (maxSteps:=999999)(disch:=omega) only [go_sem] at hiw ⊢)
     (repeat (refine Eq.trans (if_neg ?_) ?_;(focus omega)))
     exact hw iw (by omega)
    replace hW:=lQ hW
    repeat' (first|exact cE|(refine dA (fun K' hK' => ?_) ?_)|(refine cj (hW _ ?_);clear hW)|((first|refine EA (hpx) ?_|refine rR b k1 rr.length w (rr.length+1+jk.length) f s m e (s.ops.getD i default) g x y t (by omega) (by omega) hN hw0 hw1 hH.1 hm P (by omega) hx hy hp rfl ?_);(try simp (maxSteps:=999999)(disch:=omega) only [go_sem]);and_intros;(all_goals first|(refine hK' _ ?_;clear hK' K')|trivial|omega|exact Nat.le_of_ble_eq_true rfl|exact aa|skip))|(simp (maxSteps:=999999)(disch:=omega) only [go_sem];and_intros;(all_goals first|(refine hK' _ ?_;clear hK' K')|trivial|omega|exact Nat.le_of_ble_eq_true rfl|exact aa|skip)))
    all_goals
     refine ji ?_
     rw [← hpp]
     refine .inl ⟨uV (Pk b x y w s r i) (vT b k1 (rr.length+1) (rr.length+1+jk.length) (kG rr.length w f pp) s m e (di k bx)) n1 kf, ?_, ?_⟩
     ·refine oz rfl hkf (by omega) hbn (by omega) (by omega) hbase ?_ ?_ (fun i x e1 e2 hx => ?_) ?_
      ·(first|(simp (maxSteps:=999999)(disch:=omega) only [go_sem];done)|(simp (maxSteps:=999999)(disch:=omega) only [go_sem];rfl))
      ·apply Exists.intro
       refine And.intro ?_ (.inl rfl)
       (first|(simp (maxSteps:=999999)(disch:=omega) only [go_sem];done)|(simp (maxSteps:=999999)(disch:=omega) only [go_sem];rfl))
      ·have e3:=fx hx
       simp (maxSteps:=999999)(disch:=omega) only [go_sem]
       exact dY hx
      ·simp (maxSteps:=999999)(disch:=omega) only [go_sem]
       (first|done|(and_intros;all_goals first|omega|exact .inl rfl))
     repeat' (first|with_reducible exact aK|refine ak g0 ?_|refine an ?_|((first|refine aj (fun K hK => ?_)|refine aY ?_);and_intros;all_goals first|(refine hK _ ?_;clear hK K)|try exact aa)|((first|apply aC|apply ay);(case hf=>rfl);(case hc=>exact aS);(all_goals first|(intro hb;(try simp only [bZ] at hb))|skip))|exact ao|(refine aH (fun hb => ?_) (fun hb => ?_);all_goals try exact ax)|refine ar (fun KB hB => ?_)|(refine hB _ ?_;clear hB KB)|refine aA (S:=Sg) (by assumption) ?_|(refine ai ?_;(try clear hB KB);(try clear hK K)))
     rw [ah]
     refine au (i+1,k1,kG rr.length w f pp,n1) ?_ ?_ (by dsimp only;omega)
     ·dsimp only
      rw [hqn]
      refine oz rfl hkf (by omega) hbn (by omega) (by omega) hbase ?_ ?_ (fun i x e1 e2 hx => ?_) ?_
      ·(first|(simp (maxSteps:=999999)(disch:=omega) only [go_sem];done)|(simp (maxSteps:=999999)(disch:=omega) only [go_sem];rfl))
      ·apply Exists.intro
       refine And.intro ?_ (.inl rfl)
       (first|(simp (maxSteps:=999999)(disch:=omega) only [go_sem];done)|(simp (maxSteps:=999999)(disch:=omega) only [go_sem];rfl))
      ·have e3:=fx hx
       simp (maxSteps:=999999)(disch:=omega) only [go_sem]
       exact dY hx
      ·simp (maxSteps:=999999)(disch:=omega) only [go_sem]
       (first|done|(and_intros;all_goals first|omega|exact .inl rfl))
     ·dsimp only
      rw [hqn]
      exact ⟨by omega,hRn,hCn,rX hH,(by simp only [List.length_cons];omega),hk1,hk2⟩
   ·have hk2':(s.ops.getD i default).kind=2:=hk
    obtain ⟨t',r',e',hd⟩:=Oq hw1 C hlt hk hC
    cases e'
    have hqn:q (i+1)=⟨iU (s.ops.getD i default) t :: t :: rr,[]⟩:=by
     rw [hqn]
     unfold mf
     dsimp only
     rw [if_neg (by omega),if_pos hk];rfl
    rw [hqn] at hCn
    repeat' (first|with_reducible exact aK|((first|apply ft|apply jB);(case hc=>exact aS);(case ht=>(simp only [Int.toNat_natCast,Int.reduceBEq,Int.reduceBNe,Int.reduceLT,Int.reduceLE,decide_true,decide_false,oZ,g0,hk2',ha];done)))|((first|apply gZ|apply iz);(case hc=>exact aS);(case ht=>(simp only [Int.toNat_natCast,Int.reduceBEq,Int.reduceBNe,Int.reduceLT,Int.reduceLE,decide_true,decide_false,oZ,g0,hk2',ha];done)))|refine an ?_|((first|refine aj (fun K hK => ?_)|refine aY ?_|refine Db b k1 rr.length w (rr.length+1+jk.length) f s m e (s.ops.getD i default) t (by omega) (by omega) hN hw0 hw1 hH.1 ?_);and_intros;all_goals first|(refine hK _ ?_;clear hK K)|try exact aa)|((first|apply aC|apply ay);(case hf=>rfl);(case hc=>exact aS);(all_goals first|(intro hb;(try simp only [bZ] at hb))|skip))|exact ao|(refine aH (fun hb => ?_) (fun hb => ?_);all_goals try exact ax)|refine ar (fun KB hB => ?_)|(refine hB _ ?_;clear hB KB)|refine aA (S:=Sg) (by assumption) ?_|(refine ai ?_;(try clear hB KB);(try clear hK K)))
    rw [ah]
    refine au (i+1,n1+1,rW rr.length w f (iU (s.ops.getD i default) t),n1+2) ?_ ?_ (by dsimp only;omega)
    ·dsimp only
     rw [hqn]
     refine oz rfl hkf (by omega) hbn (by omega) (by omega) hbase ?_ ?_ (fun i x e1 e2 hx => ?_) ?_
     ·(first|(simp (maxSteps:=999999)(disch:=omega) only [go_sem];done)|(simp (maxSteps:=999999)(disch:=omega) only [go_sem];rfl))
     ·apply Exists.intro
      refine And.intro ?_ (.inl rfl)
      (first|(simp (maxSteps:=999999)(disch:=omega) only [go_sem];done)|(simp (maxSteps:=999999)(disch:=omega) only [go_sem];rfl))
     ·have e3:=fx hx
      simp (maxSteps:=999999)(disch:=omega) only [go_sem]
      exact dY hx
     ·simp (maxSteps:=999999)(disch:=omega) only [go_sem]
      (first|done|(and_intros;all_goals first|omega|exact .inl rfl))
    ·dsimp only
     rw [hqn]
     exact ⟨by omega,hRn,hCn,CQ hH,(by simp only [List.length_cons,List.length_nil];omega),by omega,by omega⟩
   ·exact absurd hk hk3
 ·have g0:decide ((i:Int)<s.ops.length)=false:=decide_eq_false (by omega)
  obtain rfl:i=s.ops.length:=by omega
  obtain ⟨t',et,hv⟩:=KD hw1 C hC
  cases et
  have hres:=uk w t.acc t.back m hm hw0 (fun j hj=>(hv j hj).1)
  have hH1:=hH.1
  have hres:aF Sg 112 [.c (.p (f 0 12)), .c (.p (f 0 13)),U m] (fun r=>r = .tup [.c (.p (ra w fun k=>bB (t.acc k) (t.back k) m)),B true]):=by
   rw [show f 0 12=_ from hH1 12 (by decide),show f 0 13=_ from hH1 13 (by decide)]
   exact hres
  have hNe:qY s m r x y=0+1+jk.length:=by unfold qY;rw [← hq,eq];rfl
  rw [hNe]
  simp only [List.length_nil] at hN ⊢
  repeat' (first|with_reducible exact aK|refine ak g0 ?_|refine an ?_|((first|refine aj (fun K hK => ?_)|refine aY ?_|refine ae (hres) ?_|refine aq (fun hg=>hres) ?_);and_intros;all_goals first|(refine hK _ ?_;clear hK K)|try exact aa)|((first|apply aC|apply ay);(case hf=>rfl);(case hc=>exact aS);(all_goals first|(intro hb;(try simp only [bZ] at hb))|skip))|exact ao|(refine aH (fun hb => ?_) (fun hb => ?_);all_goals try exact ax)|refine ar (fun KB hB => ?_)|(refine hB _ ?_;clear hB KB)|refine aA (S:=Sg) (by assumption) ?_|(refine ai ?_;(try clear hB KB);(try clear hK K)))
  refine ⟨_,Iu (l:=[(10, .b (.c (.p (ra w fun j=>dH s (x+j) y))))]) (b:=b) (q:=k1) (n:=1) (T:=170) (sz:=14) (N:=1+jk.length) (cs:=Bz s m e) (f := ?ff) (f':=fun _ _ => .any) (base:=di k (aN b (.fix (kC s m e (.own k n0))) (aN k (.arr 170 14 N0 f0) bx))) rfl hkf hbn hk1 nR ?h1 ?h2 (.inr fun _ _ _ _ _ _ _ _=>trivial) ?h4 ?h5,⟨trivial,trivial⟩,rfl,fun i y h=>h,rfl,rfl,trivial⟩
  case h1=>(first|(simp (maxSteps:=999999)(disch:=omega) only [go_sem];done)|(simp (maxSteps:=999999)(disch:=omega) only [go_sem];rfl))
  case h2=>(first|(simp (maxSteps:=999999)(disch:=omega) only [go_sem];done)|(simp (maxSteps:=999999)(disch:=omega) only [go_sem];rfl))
  case h4 =>
   intro i x e1 hx
   have hx:di k bx i=some x:=by rw [← eb] at hx;exact hx
   obtain ⟨q1,q2⟩:=hbase i x hx
   have e3:=fx hx
   refine ⟨q1,q2, ?_⟩
   simp (maxSteps:=999999)(disch:=omega) only [go_sem]
   exact dY hx
  case h5 =>
   simp (maxSteps:=999999)(disch:=omega) only [go_sem]
   refine .inr (gj fun a ha j hj => ?_)
   exact congrArg (fun p:Pixel=>(aW p).getD j .any) (hv a ha).2
end Go.Proofs.YtcbifofjjpfbcaaGreatDoor
set_option maxHeartbeats 4000000
set_option maxRecDepth 16000
namespace Go.Proofs.YtcbifofjjpfbcaaGreatDoor
open Go Go.SL
open Go.RowKit (wrap64)
attribute [local go_sem] Int.toNat_natCast oJ
def zd (s:Script) (r:Rect):PV := .lst 1 s.ops.length (fun a _=>PB (eV s r a))
def ri (s:Script) (r:Rect) (i:Nat):Nat→Nat→PV:=fun a _=>PB (decide (a<i) && eV s r a)
theorem uC {s:Script} {r:Rect} {i a:Nat} {v:Bool} (h:v=eV s r i):(if a=i then PB v else PB (decide (a<i) && eV s r a))=PB (decide (a<i+1) && eV s r a):=by
 by_cases e:a=i
 ·rw [if_pos e,decide_eq_true (by omega),Bool.true_and,h,e]
 ·rw [if_neg e]
  by_cases q:a<i
  ·rw [decide_eq_true q,decide_eq_true (by omega)]
  ·rw [decide_eq_false q,decide_eq_false (by omega)]
theorem Hg {s:Script} {r:Rect} {i e a:Nat} (hf:∀ j,i≤j→j≤e→eV s r j=false) (hi:i≤e):(if a=i then PB false else PB (decide (a<i) && eV s r a))=PB (decide (a<e+1) && eV s r a):=by
 by_cases q:a<i
 ·rw [if_neg (by omega),decide_eq_true q,decide_eq_true (by omega)]
 ·have h2:(decide (a<e+1) && eV s r a)=false:=by
   by_cases q2:a<e+1
   ·rw [hf a (by omega) (by omega),Bool.and_false]
   ·rw [decide_eq_false q2,Bool.false_and]
  rw [h2,decide_eq_false q,Bool.false_and]
  split <;> rfl
theorem Bp {s:Script} {r:Rect} {a:Nat} (h:a<s.ops.length):ri s r s.ops.length a 0=PB (eV s r a):=by
 unfold ri
 rw [decide_eq_true h,Bool.true_and]
theorem xr (s:Script) (r:Rect) (V:VOps s) (hs:ScriptLen s):aF Sg 55 [ag (aL s),ag (bc r)] (fun x=>x = .tup [.c (.p (zd s r)),I 0]):=by
 have ht:True:=trivial
 have hn:=V.cnt
 have W:=V.wf
 have h1:=CX s V hs
 have h2:=uJ s V
 refine fV ?_
 refine aI Tryz.func55 [.tmp 4, .tmp 5] ?_
 repeat' (first|with_reducible exact aK|refine ak ht ?_|refine an ?_|((first|refine aj (fun K hK => ?_)|refine aY ?_|refine ae (h1) ?_|refine aq (fun hg=>h1) ?_|refine ae (h2) ?_|refine aq (fun hg=>h2) ?_);and_intros;all_goals first|(refine hK _ ?_;clear hK K)|try exact aa)|((first|apply aC|apply ay);(case hf=>rfl);(case hc=>exact aS);(all_goals first|(intro hb;(try simp only [bZ] at hb))|skip))|exact ao|(refine aH (fun hb => ?_) (fun hb => ?_);all_goals try exact ax)|refine ar (fun KB hB => ?_)|(refine hB _ ?_;clear hB KB)|refine aA (S:=Sg) (by assumption) ?_|(refine ai ?_;(try clear hB KB);(try clear hK K)))
 refine aM (X:=Nat) (fun i=>bg [(2, .b (.c (.ptr 0 0))),(3, .b (.c (.ptr 1 0))),(4, .b (.c (.p (.val (.slice none 0 0))))),(5, .b (I 0)),(6, .b (.c (.p (oJ s.ops.length (bn s))))),(8, .b (.c (.p (ee s.ops.length (aR s.ops))))),(10, .b (.c (.own 2 s.ops.length))),(11, .b (I i))]
  [(0, .fix ((aL s).map CV.p)),(1, .fix ((bc r).map CV.p)),(2, .arr 4 1 s.ops.length (ri s r i))] 3) (fun i=>i≤s.ops.length∧Reach s r i) (fun i=>s.ops.length - i) 0 ?_ ?_ ?_
 ·exact ⟨Nat.zero_le _,fun g hg=>by cases hg⟩
 ·refine aE [(1,some 1),(2,some 2)] ?_ ?_
  and_intros
  all_goals first|exact aw|skip
  refine .inr fun a ha j hj => ?_
  obtain rfl:j=0:=by omega
  exact PV.le_refl _
 rintro i ⟨hi,hR⟩
 rcases Nat.lt_or_ge i s.ops.length with h|h
 ·have g1:decide ((i:Int)<s.ops.length)=true:=decide_eq_true (by omega)
  have h3:=lR (bn s i) r
  have h4:=cN (eS (bn s i) r)
  have hact:eV s r i = !aU (eS (bn s i) r):=pg hR
  by_cases hk:(aB s.ops i).kind=2
  ·have hk2:(s.ops.getD i default).kind=2:=hk
   cases hm:aU (eS (bn s i) r) with
   | true =>
    rw [hm] at h4 hact
    have hnm:eM s r i=false:=by unfold eM;rw [hm];rfl
    obtain ⟨e1,e2,e3,_⟩:=uK (m:=0) (z:=fun _ _=>(ba,0)) W h (by omega) hR hnm
    repeat' (first|with_reducible exact aK|refine ak (And.intro g1 hk2) ?_|refine an ?_|((first|refine aj (fun K hK => ?_)|refine aY ?_|refine ae (h3) ?_|refine aq (fun hg=>h3) ?_|refine ae (h4) ?_|refine aq (fun hg=>h4) ?_);and_intros;all_goals first|(refine hK _ ?_;clear hK K)|try exact aa)|((first|apply aC|apply ay);(case hf=>rfl);(case hc=>exact aS);(all_goals first|(intro hb;(try simp only [bZ] at hb))|skip))|exact ao|(refine aH (fun hb => ?_) (fun hb => ?_);all_goals try exact ax)|refine ar (fun KB hB => ?_)|(refine hB _ ?_;clear hB KB)|refine aA (S:=Sg) (by assumption) ?_|(refine ai ?_;(try clear hB KB);(try clear hK K)))
    rw [ah]
    refine au (aR s.ops i+1) ?_ ⟨by omega,e3⟩ (by omega)
    refine aE [(1,some 1),(2,some 2)] ?_ ?_
    and_intros
    all_goals first|exact aw|skip
    refine .inr fun a ha j hj => ?_
    obtain rfl:j=0:=by omega
    show PV.le _ (ri s r (aR s.ops i+1) a 0)
    unfold ri
    rw [← Hg (fun j h1 h2 => ?_) e1]
    ·exact PV.le_refl _
    ·by_cases e:j=i
     ·rw [e];exact hact
     ·exact KS W h hk hnm (by omega) h2
   | false =>
    rw [hm] at h4 hact
    repeat' (first|with_reducible exact aK|refine ak (And.intro g1 hk2) ?_|refine an ?_|((first|refine aj (fun K hK => ?_)|refine aY ?_|refine ae (h3) ?_|refine aq (fun hg=>h3) ?_|refine ae (h4) ?_|refine aq (fun hg=>h4) ?_);and_intros;all_goals first|(refine hK _ ?_;clear hK K)|try exact aa)|((first|apply aC|apply ay);(case hf=>rfl);(case hc=>exact aS);(all_goals first|(intro hb;(try simp only [bZ] at hb))|skip))|exact ao|(refine aH (fun hb => ?_) (fun hb => ?_);all_goals try exact ax)|refine ar (fun KB hB => ?_)|(refine hB _ ?_;clear hB KB)|refine aA (S:=Sg) (by assumption) ?_|(refine ai ?_;(try clear hB KB);(try clear hK K)))
    rw [ah]
    refine au (i+1) ?_ ⟨by omega,lG W h hR hact⟩ (by omega)
    refine aE [(1,some 1),(2,some 2)] ?_ ?_
    and_intros
    all_goals first|exact aw|skip
    refine .inr fun a ha j hj => ?_
    obtain rfl:j=0:=by omega
    show PV.le _ (ri s r (i+1) a 0)
    unfold ri
    rw [← uC hact.symm]
    exact PV.le_refl _
  ·have hk2:((s.ops.getD i default).kind == 2)=false:=beq_eq_false_iff_ne.2 hk
   have hRn:Reach s r (i+1):=by
    rcases W.kinds i h with k|k|k
    ·unfold Reach;rw [cr k];exact hR
    ·exact absurd k hk
    ·exact lG W h hR (wY W h k hR)
   generalize aU (eS (bn s i) r)=v at *
   repeat' (first|with_reducible exact aK|refine ak (And.intro g1 hk2) ?_|refine an ?_|((first|refine aj (fun K hK => ?_)|refine aY ?_|refine ae (h3) ?_|refine aq (fun hg=>h3) ?_|refine ae (h4) ?_|refine aq (fun hg=>h4) ?_);and_intros;all_goals first|(refine hK _ ?_;clear hK K)|try exact aa)|((first|apply aC|apply ay);(case hf=>rfl);(case hc=>exact aS);(all_goals first|(intro hb;(try simp only [bZ] at hb))|skip))|exact ao|(refine aH (fun hb => ?_) (fun hb => ?_);all_goals try exact ax)|refine ar (fun KB hB => ?_)|(refine hB _ ?_;clear hB KB)|refine aA (S:=Sg) (by assumption) ?_|(refine ai ?_;(try clear hB KB);(try clear hK K)))
   rw [ah]
   refine au (i+1) ?_ ⟨by omega,hRn⟩ (by omega)
   refine aE [(1,some 1),(2,some 2)] ?_ ?_
   and_intros
   all_goals first|exact aw|skip
   refine .inr fun a ha j hj => ?_
   obtain rfl:j=0:=by omega
   show PV.le _ (ri s r (i+1) a 0)
   unfold ri
   rw [← uC hact.symm]
   exact PV.le_refl _
 ·have g1:decide ((i:Int)<s.ops.length)=false:=decide_eq_false (by omega)
  obtain rfl:i=s.ops.length:=by omega
  repeat' (first|with_reducible exact aK|refine ak g1 ?_|refine an ?_|((first|refine aj (fun K hK => ?_)|refine aY ?_);and_intros;all_goals first|(refine hK _ ?_;clear hK K)|try exact aa)|((first|apply aC|apply ay);(case hf=>rfl);(case hc=>exact aS);(all_goals first|(intro hb;(try simp only [bZ] at hb))|skip))|exact ao|(refine aH (fun hb => ?_) (fun hb => ?_);all_goals try exact ax)|refine ar (fun KB hB => ?_)|(refine hB _ ?_;clear hB KB)|refine aA (S:=Sg) (by assumption) ?_|(refine ai ?_;(try clear hB KB);(try clear hK K)))
  refine fe ⟨oi (gj fun a ha j hj => ?_),ej trivial,trivial⟩
  obtain rfl:j=0:=by omega
  rw [Bp ha]
def zO (s:Script) (r:Rect) (i j:Nat):Bool:=eM s r i && (List.range j).all fun k => !(decide ((aB s.ops k).kind=2) && decide (i<aR s.ops k)) || eM s r k
def yH (s:Script) (r:Rect) (i k:Nat):Nat→Nat→PV:=fun a _=>if a=i then PB (zO s r i k) else PB (decide (a<i) && eV s r a)
theorem En {s:Script} {r:Rect} {i k j:Nat}:yH s r i k i j=PB (zO s r i k):=if_pos rfl
attribute [local go_sem] En
end Go.Proofs.YtcbifofjjpfbcaaGreatDoor
set_option maxHeartbeats 8000000
set_option maxRecDepth 16000
namespace Go.Proofs.YtcbifofjjpfbcaaGreatDoor
open Go Go.SL
open Go.RowKit (wrap64)
attribute [local go_sem] Int.toNat_natCast
def yY (w h:Int) (l:List Pixel) (x q:Nat):List PV:=if q<x then jD (bO w h l q) else jD gK
def FM (w h:Int) (l:List Pixel) (x:Nat):List PV:=[PI w,PI h,PB false,PU 0,PU 0,PU 0,PU 0,PU 0] ++ yY w h l x 0 ++ yY w h l x 1 ++ yY w h l x 2 ++ yY w h l x 3 ++ yY w h l x 4
def Jw (l:List Pixel) (q k:Nat):Nat→Nat→PV:=fun a _=>PU (if a<k then sD q (l.getD a default) else 0)
theorem Kq {l:List Pixel} {q k a:Nat}:(if a=k then PU (sD q (l.getD k default)) else PU (if a<k then sD q (l.getD a default) else 0))=PU (if a<k+1 then sD q (l.getD a default) else 0):=by
 by_cases e:a=k
 ·rw [if_pos e,if_pos (by omega),e]
 ·rw [if_neg e]
  by_cases h:a<k
  ·rw [if_pos h,if_pos (by omega)]
  ·rw [if_neg h,if_neg (by omega)]
theorem QO {w h:Int} {l:List Pixel} {q:Nat}:∀ a,a<l.length→∀ j,j<1→PV.le (Jw l q l.length a j) (dG Om (bO w h l q).s a j):=fun a ha j hj=>by
 obtain rfl:j=0:=by omega
 have e2:(bO w h l q).s.getD a default=sD q (l.getD a default):=by
  simp only [bO,List.getD_eq_getElem?_getD,List.getElem?_map,List.getElem?_eq_getElem ha,Option.map_some,Option.getD_some]
 rw [Jw,if_pos ha,dG,e2]
 exact PV.le_refl _
theorem DO {r:Nat→Option Nat} {bx B:Nat→Option Bx}:∀ (l:List PV),EX r bx B (l.map CV.p) (l.map CV.p)
 | []=>trivial
 | x :: l=>⟨tQ (n:=0) (x := .p x) (fun id hid=>absurd hid (Nat.not_lt_zero _)) trivial,DO l⟩
theorem Rd (w h : Int) (l : List Pixel) (hl : l.length ≤ 16777216) :
  aF Sg 43 [I w,I h, .c (.p (sF l))] (fun r=>r = .tup [ag (bl (fh w h l)),B (dg w h l.length)]):=by
 have ht:True:=trivial
 have hsz:=ur w h
 cases hf:cl w h with
 | false =>
  have hok:dg w h l.length=false:=by rw [dg,hf];rfl
  rw [hok,fh,if_neg (by rw [hok];simp)]
  rw [hf] at hsz
  refine fV ?_
  refine aI Tryz.func43 [.cell 6 43, .tmp 7] ?_
  repeat' (first|with_reducible exact aK|refine ak ht ?_|refine an ?_|((first|refine aj (fun K hK => ?_)|refine aY ?_|refine ae (hsz) ?_|refine aq (fun hg=>hsz) ?_);and_intros;all_goals first|(refine hK _ ?_;clear hK K)|try exact aa)|((first|apply aC|apply ay);(case hf=>rfl);(case hc=>exact aS);(all_goals first|(intro hb;(try simp only [bZ] at hb))|skip))|exact ao|(refine aH (fun hb => ?_) (fun hb => ?_);all_goals try exact ax)|refine ar (fun KB hB => ?_)|(refine hB _ ?_;clear hB KB)|refine aA (S:=Sg) (by assumption) ?_|(refine ai ?_;(try clear hB KB);(try clear hK K)))
  refine fe ⟨lS ?_,ej trivial,trivial⟩
  simp only [List.map_cons,List.map_nil,gm,jR]
  and_intros
  all_goals first|exact .inl rfl|exact .inl trivial|exact .inr fq|trivial|skip
 | true =>
  have hb2:=ed hf
  have hw:IntKind.i64.wrap (w * h)=w * h:=fA (by omega) (by omega)
  rw [hf] at hsz
  by_cases hn:(l.length:Int)=w * h
  ·have hok:dg w h l.length=true:=by rw [dg,hf,decide_eq_true hn];rfl
   have g0:((l.length:Int) != w * h)=false:=by rw [bne_eq_false_iff_eq];exact hn
   rw [hok,fh,if_pos hok]
   refine fV ?_
   refine aI Tryz.func43 [.cell 6 43, .tmp 7] ?_
   repeat' (first|with_reducible exact aK|refine ak g0 ?_|refine an ?_|((first|refine aj (fun K hK => ?_)|refine aY ?_|refine ae (hsz) ?_|refine aq (fun hg=>hsz) ?_);and_intros;all_goals first|(refine hK _ ?_;clear hK K)|try exact aa)|((first|apply aC|apply ay);(case hf=>rfl);(case hc=>exact aS);(all_goals first|(intro hb;(try simp only [bZ] at hb))|skip))|exact ao|(refine aH (fun hb => ?_) (fun hb => ?_);all_goals try exact ax)|refine ar (fun KB hB => ?_)|(refine hB _ ?_;clear hB KB)|refine aA (S:=Sg) (by assumption) ?_|(refine ai ?_;(try clear hB KB);(try clear hK K)))
   refine aM (X:=Nat) (fun x=>bg [(0, .b (I w)),(1, .b (I h)),(2, .b (.c (.p (sF l)))),(6, .b (.c (.ptr 0 0))),(8, .b (.c (.ptr 1 0))),(29, .b (I x))] [(0, .fix ((bl jY).map CV.p)),(1, .fix ((FM w h l x).map CV.p))] 2) (fun x=>x≤5) (fun x=>5 - x) 0 ?_ ?_ ?_
   ·omega
   ·simp only [FM,yY]
    refine aE [(1,some 1)] ?_ ?_
    and_intros
    all_goals first|exact aw|skip
    all_goals exact fq
   ·intro q hq
    rcases Nat.lt_or_ge q 5 with h5|h5
    ·have g1:decide ((q:Int)<5)=true:=decide_eq_true (by omega)
     obtain ⟨q1,hq1⟩:∃ q1,q1=q+1:=⟨_,rfl⟩
     have hq5:q=0∨q=1∨q=2∨q=3∨q=4:=by omega
     repeat' (first|with_reducible exact aK|refine ak g1 ?_|refine an ?_|((first|refine aj (fun K hK => ?_)|refine aY ?_);and_intros;all_goals first|(refine hK _ ?_;clear hK K)|try exact aa)|((first|apply aC|apply ay);(case hf=>rfl);(case hc=>exact aS);(all_goals first|(intro hb;(try simp only [bZ] at hb))|skip))|exact ao|(refine aH (fun hb => ?_) (fun hb => ?_);all_goals try exact ax)|refine ar (fun KB hB => ?_)|(refine hB _ ?_;clear hB KB)|refine aA (S:=Sg) (by assumption) ?_|(refine ai ?_;(try clear hB KB);(try clear hK K)))
     refine aM (X:=Nat) (fun k=>bg [(0, .b (I w)),(1, .b (I h)),(2, .b (.c (.p (sF l)))),(6, .b (.c (.ptr 0 0))),(8, .b (.c (.ptr 1 0))),(9, .b (I q)),(10, .b (.c (.own 2 l.length))),(29, .b (I q)),(35, .b (.c (.p (sF l)))),(36, .b (I l.length)),(37, .b (I k))] [(0, .fix ((bl jY).map CV.p)),(1, .fix ((FM w h l q).map CV.p)),(2, .arr 34 1 l.length (Jw l q k))] 3) (fun k=>k≤l.length) (fun k=>l.length - k) 0 ?_ ?_ ?_
     ·exact Nat.zero_le _
     ·refine aE [(1,some 1),(2,some 2)] ?_ ?_
      and_intros
      all_goals first|exact aw|skip
      ·exact DO _
      ·refine .inr fun a ha j hj => ?_
       obtain rfl:j=0:=by omega
       exact PV.le_refl _
     intro k hk
     rcases Nat.lt_or_ge k l.length with h6|h6
     ·have g2:decide ((k:Int)<l.length)=true:=decide_eq_true (by omega)
      have st:∀ a,(if a=k then PU (sD q (l.getD k default)) else Jw l q k a 0)=Jw l q (k+1) a 0:=fun a=>Kq
      rcases hq5 with rfl|rfl|rfl|rfl|rfl
      all_goals
       simp only [FM,yY]
       repeat' (first|with_reducible exact aK|refine ak g2 ?_|refine an ?_|((first|refine aj (fun K hK => ?_)|refine aY ?_);and_intros;all_goals first|(refine hK _ ?_;clear hK K)|try exact aa)|((first|apply aC|apply ay);(case hf=>rfl);(case hc=>exact aS);(all_goals first|(intro hb;(try simp only [bZ] at hb))|skip))|exact ao|(refine aH (fun hb => ?_) (fun hb => ?_);all_goals try exact ax)|refine ar (fun KB hB => ?_)|(refine hB _ ?_;clear hB KB)|refine aA (S:=Sg) (by assumption) ?_|(refine ai ?_;(try clear hB KB);(try clear hK K)))
       rw [ah]
       refine au (k+1) ?_ (by omega) (by omega)
       refine aE [(1,some 1),(2,some 2)] ?_ ?_
       and_intros
       all_goals first|exact aw|skip
       refine .inr fun a ha j hj => ?_
       obtain rfl:j=0:=by omega
       rw [← st a]
       by_cases e:a=k
       ·rw [if_pos e,if_pos e]
        exact PV.le_refl _
       ·rw [if_neg e,if_neg e]
        exact PV.le_refl _
     ·have g2:decide ((k:Int)<l.length)=false:=decide_eq_false (by omega)
      obtain rfl:k=l.length:=by omega
      rcases hq5 with rfl|rfl|rfl|rfl|rfl
      all_goals
       simp only [FM,yY]
       repeat' (first|with_reducible exact aK|refine ak g2 ?_|refine an ?_|((first|refine aj (fun K hK => ?_)|refine aY ?_);and_intros;all_goals first|(refine hK _ ?_;clear hK K)|try exact aa)|((first|apply aC|apply ay);(case hf=>rfl);(case hc=>exact aS);(all_goals first|(intro hb;(try simp only [bZ] at hb))|skip))|exact ao|(refine aH (fun hb => ?_) (fun hb => ?_);all_goals try exact ax)|refine ar (fun KB hB => ?_)|(refine hB _ ?_;clear hB KB)|refine aA (S:=Sg) (by assumption) ?_|(refine ai ?_;(try clear hB KB);(try clear hK K)))
       rw [ah]
       refine au q1 ?_ (by omega) (by omega)
       subst hq1
       refine aE [(1,some 1)] ?_ ?_
       and_intros
       all_goals first|exact aw|skip
       all_goals first|exact QO|(simp only [bO,List.length_map];done)|skip
    ·obtain rfl:q=5:=by omega
     simp only [FM,yY]
     have g1:decide (((5:Nat):Int)<5)=false:=by decide
     repeat' (first|with_reducible exact aK|refine ak g1 ?_|refine an ?_|((first|refine aj (fun K hK => ?_)|refine aY ?_);and_intros;all_goals first|(refine hK _ ?_;clear hK K)|try exact aa)|((first|apply aC|apply ay);(case hf=>rfl);(case hc=>exact aS);(all_goals first|(intro hb;(try simp only [bZ] at hb))|skip))|exact ao|(refine aH (fun hb => ?_) (fun hb => ?_);all_goals try exact ax)|refine ar (fun KB hB => ?_)|(refine hB _ ?_;clear hB KB)|refine aA (S:=Sg) (by assumption) ?_|(refine ai ?_;(try clear hB KB);(try clear hK K)))
     refine fe ⟨lS ?_,ej trivial,trivial⟩
     simp only [List.map_cons,List.map_nil,gm,jR]
     and_intros
     all_goals first|exact .inl rfl|exact .inl trivial|exact .inr fq|trivial|skip
  ·have hok:dg w h l.length=false:=by rw [dg,hf,decide_eq_false hn];rfl
   have g0:((l.length:Int) != w * h)=true:=by rw [bne_iff_ne];exact hn
   rw [hok,fh,if_neg (by rw [hok];simp)]
   refine fV ?_
   refine aI Tryz.func43 [.cell 6 43, .tmp 7] ?_
   repeat' (first|with_reducible exact aK|refine ak g0 ?_|refine an ?_|((first|refine aj (fun K hK => ?_)|refine aY ?_|refine ae (hsz) ?_|refine aq (fun hg=>hsz) ?_);and_intros;all_goals first|(refine hK _ ?_;clear hK K)|try exact aa)|((first|apply aC|apply ay);(case hf=>rfl);(case hc=>exact aS);(all_goals first|(intro hb;(try simp only [bZ] at hb))|skip))|exact ao|(refine aH (fun hb => ?_) (fun hb => ?_);all_goals try exact ax)|refine ar (fun KB hB => ?_)|(refine hB _ ?_;clear hB KB)|refine aA (S:=Sg) (by assumption) ?_|(refine ai ?_;(try clear hB KB);(try clear hK K)))
   refine fe ⟨lS ?_,ej trivial,trivial⟩
   simp only [List.map_cons,List.map_nil,gm,jR]
   and_intros
   all_goals first|exact .inl rfl|exact .inl trivial|exact .inr fq|trivial|skip
def zJ (l:List Rect):PV := .lst 4 l.length (dG bc l)
theorem xl (s:Script) (hF:FrOk s) (hs:ScriptLen s):aF Sg 41 [ag (aL s)] (fun r=>r = .b (.c (.p (zJ (cU s))))):=by
 have ht:True:=trivial
 have hN:=hF.n
 have hlen:=hF.len
 have h1:=lV s.canvas s.tileW s.tileH
 have h2:=jK s.order (dN s) (by have:=hs.order;omega)
 have ho:kS s.order (dN s)=cZ s.order (dN s):=by unfold kS;rw [if_pos hF.o]
 rw [ho] at h2
 have hw0:dN s=IntKind.i64.wrap (aX s.canvas s.tileW s.tileH * bz s.canvas s.tileW s.tileH):=(fu _ _ _).1.symm
 have h2:aF Sg 73 [.c (.p (eZ s.order)),I (IntKind.i64.wrap (aX s.canvas s.tileW s.tileH * bz s.canvas s.tileW s.tileH))] (fun r=>r = .tup [.c (.p (eZ (cZ s.order (dN s)))),B (dt s.order (dN s))]):=by rw [← hw0];exact h2
 have hok:=lj hF.c hF.t
 have htl:∀ i,i<(cZ s.order (dN s)).length→aF Sg 74 [ag (bc s.canvas),I s.tileW,I s.tileH,I ((cZ s.order (dN s)).getD i 0)] (fun x=>x = .tup [ag (bc ((cU s).getD i default)),B true]):=fun i hi=>by
  obtain ⟨q1,q2,q3⟩:=hF.tile hi
  rw [q2]
  exact Mw s.canvas s.tileW s.tileH _ hF.c hF.t q1
 have hlt:(cU s).length=(cZ s.order (dN s)).length:=by omega
 generalize cZ s.order (dN s)=L at *
 generalize cU s=T at *
 refine aI Tryz.func41 [.tmp 2] ?_
 repeat' (first|with_reducible exact aK|refine ak ht ?_|refine an ?_|((first|refine aj (fun K hK => ?_)|refine aY ?_|refine ae (h1) ?_|refine aq (fun hg=>h1) ?_|refine ae (h2) ?_|refine aq (fun hg=>h2) ?_);and_intros;all_goals first|(refine hK _ ?_;clear hK K)|try exact aa)|((first|apply aC|apply ay);(case hf=>rfl);(case hc=>exact aS);(all_goals first|(intro hb;(try simp only [bZ] at hb))|skip))|exact ao|(refine aH (fun hb => ?_) (fun hb => ?_);all_goals try exact ax)|refine ar (fun KB hB => ?_)|(refine hB _ ?_;clear hB KB)|refine aA (S:=Sg) (by assumption) ?_|(refine ai ?_;(try clear hB KB);(try clear hK K)))
 refine aM (X:=Nat) (fun i=>bg [(1, .b (.c (.ptr 0 0))),(2, .b (.c (.p (.val (.slice none 0 0))))),(8, .b (.c (.own 1 i))),(33, .b (.c (.p (eZ L)))),(34, .b (I L.length)),(35, .b (I i))] [(0, .fix ((aL s).map CV.p)),(1, .arr 28 4 i (dG bc (T.take i)))] 2) (fun i=>i≤L.length) (fun i=>L.length - i) 0 ?_ ?_ ?_
 ·exact Nat.zero_le _
 ·refine aE [(1,none)] ?_ ?_
  and_intros
  all_goals first|exact aw|skip
 intro i hi
 have hL20:L.length≤20:=by omega
 rcases Nat.lt_or_ge i L.length with h|h
 ·have g1:decide ((i:Int)<L.length)=true:=decide_eq_true (by omega)
  have hv:=htl i h
  repeat' (first|with_reducible exact aK|refine ak g1 ?_|refine an ?_|((first|refine aj (fun K hK => ?_)|refine aY ?_|refine ae (hv) ?_|refine aq (fun hg=>hv) ?_);and_intros;all_goals first|(refine hK _ ?_;clear hK K)|try exact aa)|((first|apply aC|apply ay);(case hf=>rfl);(case hc=>exact aS);(all_goals first|(intro hb;(try simp only [bZ] at hb))|skip))|exact ao|(refine aH (fun hb => ?_) (fun hb => ?_);all_goals try exact ax)|refine ar (fun KB hB => ?_)|(refine hB _ ?_;clear hB KB)|refine aA (S:=Sg) (by assumption) ?_|(refine ai ?_;(try clear hB KB);(try clear hK K)))
  rw [ah]
  refine au (i+1) ?_ (by omega) (by omega)
  have e:T.take (i+1)=T.take i ++ [T.getD i default]:=by
   rw [List.take_add_one,List.getElem?_eq_getElem (by omega),List.getD_eq_getElem?_getD,List.getElem?_eq_getElem (by omega)];rfl
  have key:=fun g hg=>fy (enc:=bc) (xs:=T.take i) (x:=T.getD i default) (s:=4) (g:=g) hg
  have hl:(T.take i).length=i:=by rw [List.length_take];omega
  rw [hl] at key
  refine aE [(1,some 4)] ?_ ?_
  and_intros
  all_goals first|exact aw|skip
  refine .inr fun a ha j hj => ?_
  rw [e]
  refine key _ (fun j hj => ?_) a ha j hj
  have hivl:j=0∨j=1∨j=2∨j=3:=by omega
  rcases hivl with rfl|rfl|rfl|rfl <;> rfl
 ·have g1:decide ((i:Int)<L.length)=false:=decide_eq_false (by omega)
  obtain rfl:i=L.length:=by omega
  repeat' (first|with_reducible exact aK|refine ak g1 ?_|refine an ?_|((first|refine aj (fun K hK => ?_)|refine aY ?_);and_intros;all_goals first|(refine hK _ ?_;clear hK K)|try exact aa)|((first|apply aC|apply ay);(case hf=>rfl);(case hc=>exact aS);(all_goals first|(intro hb;(try simp only [bZ] at hb))|skip))|exact ao|(refine aH (fun hb => ?_) (fun hb => ?_);all_goals try exact ax)|refine ar (fun KB hB => ?_)|(refine hB _ ?_;clear hB KB)|refine aA (S:=Sg) (by assumption) ?_|(refine ai ?_;(try clear hB KB);(try clear hK K)))
  have hl:T.take L.length=T:=by rw [← hlt,List.take_length]
  rw [hl,← hlt]
  rfl
end Go.Proofs.YtcbifofjjpfbcaaGreatDoor
set_option maxHeartbeats 4000000
set_option maxRecDepth 16000
namespace Go.Proofs.YtcbifofjjpfbcaaGreatDoor
open Go Go.SL
open Go.RowKit (wrap64)
theorem CA (m:Image) (mx:Int) (hm:Full mx) (h:Ci m mx):aF Sg 69 [ag (bl m),U mx] (fun r=>r = .b (I (dJ m mx))):=by
 cases hf:bp m with
 | false=>exact Dd m mx hf
 | true =>
  cases hs:m.solid with
  | true=>exact yI m mx hs hf
  | false =>
   rcases h with h|h|h
   ·rw [uf h];exact Dk m mx hm hs h
   ·rw [hf] at h;cases h
   ·rw [hs] at h;cases h
theorem oX (s:Script) (hs:ScriptLen s) (hT:bD s=0→Full (bA s.bits)∧∀ m ∈ s.images,Ci m (bA s.bits)):aF Sg 39 [ag (aL s)] (fun r=>r = .tup [I (bQ s).1,I (bQ s).2]):=by
 have h1:=uq s hs
 have h2:=wz s hs
 have h3:aF Sg 68 [I s.bits] (fun x=>x = .tup [U (bA s.bits),B (decide (s.bits=8∨s.bits=16))]):=fv s.bits
 unfold bQ
 by_cases hf:bD s=0
 ·obtain ⟨hm,hi⟩:=hT hf
  rw [if_neg (by rw [Decidable.not_not];exact hf)]
  rw [hf] at h1
  have ht:True:=trivial
  obtain ⟨R,hR⟩:∃ R,(if (dW (bA s.bits) 0 s.images).1≠0 then dW (bA s.bits) 0 s.images else jh s)=R:=⟨_,rfl⟩
  rw [hR]
  refine aI Tryz.func39 [.tmp 2, .tmp 3] ?_
  repeat' (first|refine ak ht ?_|refine an ?_|((first|refine aj (fun K hK => ?_)|refine ae (h1) ?_|refine ae (h3) ?_);and_intros;all_goals first|(refine hK _ ?_;clear hK K)|try exact aa))
  refine aM (X:=Nat) (fun i=>bg [(1, .b (.c (.ptr 0 0))),(5, .b (U (bA s.bits))),(22, .b (.c (.p (vL s.images)))),(23, .b (I s.images.length)),(24, .b (I i))] [(0, .fix ((aL s).map CV.p))] 1) (fun i=>i≤s.images.length∧dW (bA s.bits) 0 s.images=dW (bA s.bits) i (s.images.drop i)) (fun i=>s.images.length - i) 0 ?_ ?_ ?_
  ·exact ⟨Nat.zero_le _,by rw [List.drop_zero]⟩
  ·refine aE [] ?_ ?_
   and_intros
   all_goals first|exact aw|skip
  ·rintro i ⟨hil,hgo⟩
   have hlen:=hs.images
   rcases Nat.lt_or_ge i s.images.length with h|h
   ·rw [rv h] at hgo
    have hmem:s.images.getD i default ∈ s.images:=by
     rw [List.getD_eq_getElem?_getD,List.getElem?_eq_getElem h]
     exact List.getElem_mem _
    have hv:=CA (s.images.getD i default) (bA s.bits) hm (hi _ hmem)
    by_cases h0:dJ (s.images.getD i default) (bA s.bits)=0
    ·rw [if_pos h0] at hgo
     rw [h0] at hv
     repeat' (first|refine ak ht ?_|refine an ?_|((first|refine aj (fun K hK => ?_)|refine ae (hv) ?_);and_intros;all_goals first|(refine hK _ ?_;clear hK K)|try exact aa)|(refine aH (fun hb => ?_) (fun hb => ?_);all_goals try exact ax))
     rw [ah]
     refine au (i+1) ?_ ⟨by omega,hgo⟩ (by omega)
     refine aE [] ?_ ?_
     and_intros
     all_goals first|exact aw|skip
    ·rw [if_neg h0] at hgo
     have g0:(dJ (s.images.getD i default) (bA s.bits) != 0)=true:=by rw [bne_iff_ne];exact h0
     have hR2:R=(dJ (s.images.getD i default) (bA s.bits),(i:Int)):=by rw [← hR,hgo,if_pos h0]
     rw [hR2]
     repeat' (first|with_reducible exact aK|refine ak g0 ?_|refine an ?_|((first|refine aj (fun K hK => ?_)|refine ae (hv) ?_);and_intros;all_goals first|(refine hK _ ?_;clear hK K)|try exact aa)|(refine aH (fun hb => ?_) (fun hb => ?_);all_goals try exact ax)|(refine ai ?_;(try clear hB KB);(try clear hK K)))
   ·have e:s.images.drop i=[]:=List.drop_eq_nil_of_le h
    rw [e] at hgo
    have hR2:R=jh s:=by rw [← hR,hgo,if_neg (by simp [dW])]
    rw [← hR2] at h2
    repeat' (first|with_reducible exact aK|refine an ?_|((first|refine aj (fun K hK => ?_)|refine ae (h2) ?_);and_intros;all_goals first|(refine hK _ ?_;clear hK K)|try exact aa)|(refine aH (fun hb => ?_) (fun hb => ?_);all_goals try exact ax)|(refine ai ?_;(try clear hB KB);(try clear hK K)))
 ·rw [if_pos hf]
  have g0:(bD s != 0)=true:=by rw [bne_iff_ne];exact hf
  refine aI Tryz.func39 [.tmp 2, .tmp 3] ?_
  repeat' (first|with_reducible exact aK|refine ak g0 ?_|refine an ?_|((first|refine aj (fun K hK => ?_)|refine ae (h1) ?_);and_intros;all_goals first|(refine hK _ ?_;clear hK K)|try exact aa)|(refine ai ?_;(try clear hB KB);(try clear hK K)))
end Go.Proofs.YtcbifofjjpfbcaaGreatDoor
set_option maxHeartbeats 4000000
namespace Go.Proofs.YtcbifofjjpfbcaaGreatDoor
open Go Go.SL
open Go.RowKit (wrap64)
theorem Of.small {c:Scene} {s:Script} (h:Of c s):Small s.canvas:=by rw [h.cv];exact cY c
end Go.Proofs.YtcbifofjjpfbcaaGreatDoor
set_option maxHeartbeats 1000000
namespace Go.Proofs.YtcbifofjjpfbcaaGreatDoor
def mq (s:Script) (r:Rect):Image:=fh (r.x1 - r.x0) (r.y1 - r.y0) (gE s r ((r.x1 - r.x0) * (r.y1 - r.y0)).toNat)
theorem yK {s:Script} {r:Rect} (hr:Small r):mq s r=fD (r.x1 - r.x0) (r.y1 - r.y0) (gE s r ((r.x1 - r.x0) * (r.y1 - r.y0)).toNat)∧cl (r.x1 - r.x0) (r.y1 - r.y0)=true∧(((gE s r ((r.x1 - r.x0) * (r.y1 - r.y0)).toNat).length:Nat):Int)=(r.x1 - r.x0) * (r.y1 - r.y0):=by
 obtain ⟨x0,x1,y0,y1,hw,hh⟩:=hr
 have h0:1≤(r.x1 - r.x0) * (r.y1 - r.y0):=by
  have:=Int.mul_le_mul hw.1 hh.1 (by omega) (by omega)
  omega
 have hok:dg (r.x1 - r.x0) (r.y1 - r.y0) (gE s r ((r.x1 - r.x0) * (r.y1 - r.y0)).toNat).length=true:=by
  rw [mS]
  exact nW hw hh rfl
 have h2:=hok
 unfold dg at h2
 rw [Bool.and_eq_true,decide_eq_true_eq] at h2
 refine ⟨?_,h2.1,h2.2⟩
 unfold mq fh
 rw [if_pos hok]
theorem sU {s:Script} {r:Rect} (hr:Small r) {x y:Int} (h:iO r x y):cu (mq s r) (x - r.x0) (y - r.y0)=dH s x y:=by
 obtain ⟨e,hf,hl⟩:=yK (s:=s) hr
 obtain ⟨x0,x1,y0,y1,hw,hh⟩:=hr
 obtain ⟨p1,p2,p3,p4⟩:=h
 rw [e]
 unfold cu
 rw [xJ hf hl]
 have hn:¬ (true=false∨x - r.x0<0∨(fD (r.x1 - r.x0) (r.y1 - r.y0) (gE s r ((r.x1 - r.x0) * (r.y1 - r.y0)).toNat)).w≤x - r.x0∨y - r.y0<0∨(fD (r.x1 - r.x0) (r.y1 - r.y0) (gE s r ((r.x1 - r.x0) * (r.y1 - r.y0)).toNat)).h≤y - r.y0):=by
  show ¬ (true=false∨x - r.x0<0∨r.x1 - r.x0≤x - r.x0∨y - r.y0<0∨r.y1 - r.y0≤y - r.y0)
  simp only [Bool.true_eq_false,false_or]
  omega
 rw [if_neg hn]
 obtain ⟨hi,e2⟩:=JJ hl (x:=x - r.x0) (y:=y - r.y0) (by omega) (by omega) (by omega) (by omega)
 rw [e2]
 rw [mS] at hi
 rw [pI hi]
 obtain ⟨W,hW⟩:∃ W:Nat,(W:Int)=r.x1 - r.x0:=⟨(r.x1 - r.x0).toNat,by omega⟩
 obtain ⟨X,hX⟩:∃ X:Nat,x - r.x0=X:=⟨(x - r.x0).toNat,by omega⟩
 obtain ⟨Y,hY⟩:∃ Y:Nat,y - r.y0=Y:=⟨(y - r.y0).toNat,by omega⟩
 have ei:((y - r.y0) * (r.x1 - r.x0)+(x - r.x0)).toNat=Y * W+X:=by
  rw [hX,hY,← hW,← Int.natCast_mul,← Int.natCast_add,Int.toNat_natCast]
 rw [ei,yf hW (by omega),← hX,← hY]
 rw [show r.x0+(x - r.x0)=x by omega,show r.y0+(y - r.y0)=y by omega]
theorem OQ {s:Script} {r:Rect} (hr:Small r):(mq s r).w=r.x1 - r.x0∧(mq s r).h=r.y1 - r.y0:=by
 rw [(yK hr).1];exact ⟨rfl,rfl⟩
end Go.Proofs.YtcbifofjjpfbcaaGreatDoor
set_option maxRecDepth 8000
set_option maxHeartbeats 8000000
namespace Go.Proofs.YtcbifofjjpfbcaaGreatDoor
open Go Go.SL
open Go.RowKit (wrap64)
theorem Of.sl {c:Scene} {s:Script} (h:Of c s):ScriptLen s:=by
 have h1:=(Ae c).order
 exact ⟨by rw [h.o];exact h1,Nat.le_trans h.n2 (by decide),Nat.le_trans h.V.cnt (by decide)⟩
theorem RV {m:Image} {mx:Int} (h:ImgV m mx):Ix m:=by
 cases hs:m.solid with
 | true=>have p:=qF h hs;exact ⟨p.n0,p.n1,p.n2⟩
 | false =>
  have hf:=h.f
  unfold bp at hf
  simp only [hs,Bool.and_eq_true,Bool.false_or,decide_eq_true_eq] at hf
  have e:m.color=ba:=by simp_all
  unfold Ix
  rw [e]
  exact ⟨by decide,by decide,by decide⟩
theorem Of.ev {c:Scene} {s:Script} (h:Of c s):EvOk s:=⟨h.sl,h.op,fun _ m hm=>by
 obtain ⟨i,hi,rfl⟩:=List.mem_iff_getElem.1 hm
 have:=h.im i (by omega) (by omega)
 unfold gQ at this
 rw [Int.toNat_natCast,List.getD_eq_getElem?_getD,List.getElem?_eq_getElem hi] at this
 exact ⟨.inl this,RV this⟩⟩
def Uz:Pixel:=⟨1,2,3,255,255⟩
def XL:Image := { w:=1,h:=1,solid:=true,color:=Uz,p0:=⟨0,0,0,[]⟩,p1:=⟨0,0,0,[]⟩,p2:=⟨0,0,0,[]⟩,p3:=⟨0,0,0,[]⟩,p4:=⟨0,0,0,[]⟩ }
def XQ:Op := { kind:=1,image:=0,x:=1,y:=0,mask:=0,maskX:=0,maskY:=0,opacity:=255,operator:=4,mode:=1,isolated:=false,knockout:=false }
def CD:Script := { bits:=8,canvas:=⟨0,0,2,1⟩,tileW:=1,tileH:=1,order:=[],images:=[XL],ops:=[XQ] }
theorem Va:EvOk CD:=⟨⟨by decide,by decide,by decide⟩,fun o ho=>by rw [List.mem_singleton.1 ho];decide,fun _ m hm=>by rw [List.mem_singleton.1 hm];exact ⟨.inr (.inr rfl),by decide,by decide,by decide⟩⟩
end Go.Proofs.YtcbifofjjpfbcaaGreatDoor
