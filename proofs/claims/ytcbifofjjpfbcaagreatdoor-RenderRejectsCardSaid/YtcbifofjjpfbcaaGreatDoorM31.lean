/- Part of the proof: R8, RB. -/
import Derived.Test.YtcbifofjjpfbcaaGreatDoorM30
set_option linter.unusedSimpArgs false
set_option linter.unusedVariables false
set_option maxHeartbeats 8000000
set_option maxRecDepth 16000
namespace Go.Proofs.YtcbifofjjpfbcaaGreatDoor
open Go Go.SL
open Go.RowKit (wrap64)
section
attribute [local go_sem] Nat.add_zero lq Nx cO fX Int.toNat_natCast cA
theorem ub {st : St} {K : SV → St → Prop} {q : Prop} {os : List PV} (b k n w N : Nat) (f : Nat → Nat → PV) (s : Script) (m : Int) (e : PV) (o : Op) (src : Nat → Pixel) (x y : Int) (t : Fr)
  (hbk:b≠k) (hn:n<N) (hN:N≤1000) (hw0:w≤1000) (hw1:0<w) (hf:Ol w (f n) t) (hm:Full m) (P:PaintOk s m o x y w t) (hl:s.images.length≤1000) (hx : -1073741824≤x∧x≤1073741824) (hy : -1073741824≤y∧y≤1073741824) (hp:∀ j,j<w→PixV (src j) m) (hos:os=fZ o) (hk:q)
  (hb:st.bx b=some (.fix (lq s m e (.own k (n+1)))):=by (first|(simp (maxSteps:=999999)(disch:=omega) only [go_sem];done)|(simp (maxSteps:=999999)(disch:=omega) only [go_sem];rfl)|rfl|fail)) (hkb:st.bx k=some (.arr 170 14 N f):=by (first|(simp (maxSteps:=999999)(disch:=omega) only [go_sem];done)|(simp (maxSteps:=999999)(disch:=omega) only [go_sem];rfl)|rfl|fail)) (hbn:b<st.nx:=by (first|(simp (maxSteps:=999999)(disch:=omega) only [go_sem];done)|(simp (maxSteps:=999999)(disch:=omega) only [go_sem];omega)|fail)) (hkn:k<st.nx:=by (first|(simp (maxSteps:=999999)(disch:=omega) only [go_sem];done)|(simp (maxSteps:=999999)(disch:=omega) only [go_sem];omega)|fail))
  (hwf:∀ i,st.nx≤i→st.bx i=none:=by (first|(intro iw hiw;(try simp (maxSteps:=999999)(disch:=omega) only [go_sem] at hiw ⊢);(repeat (refine Eq.trans (if_neg ?_) ?_;(focus omega)));apply_assumption;omega)|fail))
  (wk:q→K (.tup []) (st.turn (aJ k (.arr 170 14 N (me n w f fun j=>cT t.op.knockout o.operator o.mode m (aM m o (src j) (ja s o x y j)) (t.acc j) (t.back j))) st.bx) (st.nx+1)):=by (first|(intro h;first|(simp (maxSteps:=999999)(disch:=omega) only [go_sem];exact h)|exact h)|fail)) :
  en Sg st 113 [.c (.ptr b 0),ag os, .c (.p (sW w src)),I x,I y] (Sl.of K):=by
 subst hos;have p5:=P.mx;have p6:=P.my;refine eT (EY st.bx st.nx b k n w N f s m e o src x y t hb hkb hbn hkn hbk hn hN hw0 hw1 hf hm P.op P.mode P.opac P.mask hl (by omega) (by omega) hp P.mv P.v P.ko) rfl (fun i hi => ?_) (by omega) (wk hk);unfold aJ;rw [if_neg (by omega)];exact hwf i (by omega)
theorem Fq {st : St} {K : SV → St → Prop} {q : Prop} (b k n w N : Nat) (f : Nat → Nat → PV) (s : Script) (m : Int) (e : PV) (o : Op) (t : Fr)
  (hbk:b≠k) (hn:n<N) (hN:N≤1000) (hw0:w≤1000) (hw1:0<w) (hf:Ol w (f n) t) (hk:q)
  (hb:st.bx b=some (.fix (lq s m e (.own k (n+1)))):=by (first|(simp (maxSteps:=999999)(disch:=omega) only [go_sem];done)|(simp (maxSteps:=999999)(disch:=omega) only [go_sem];rfl)|rfl|fail)) (hkb:st.bx k=some (.arr 170 14 N f):=by (first|(simp (maxSteps:=999999)(disch:=omega) only [go_sem];done)|(simp (maxSteps:=999999)(disch:=omega) only [go_sem];rfl)|rfl|fail)) (hbn:b<st.nx:=by (first|(simp (maxSteps:=999999)(disch:=omega) only [go_sem];done)|(simp (maxSteps:=999999)(disch:=omega) only [go_sem];omega)|fail)) (hkn:k<st.nx:=by (first|(simp (maxSteps:=999999)(disch:=omega) only [go_sem];done)|(simp (maxSteps:=999999)(disch:=omega) only [go_sem];omega)|fail))
  (hwf:∀ i,st.nx≤i→st.bx i=none:=by (first|(intro iw hiw;(try simp (maxSteps:=999999)(disch:=omega) only [go_sem] at hiw ⊢);(repeat (refine Eq.trans (if_neg ?_) ?_;(focus omega)));apply_assumption;omega)|fail))
  (wk:q→K (.tup []) (st.turn (aJ b (.fix (lq s m e (.own st.nx (n+2)))) (aJ st.nx (.arr 170 14 (n+2) (uw n w f (jW o t))) (dr k st.bx))) (st.nx+1)):=by (first|(intro h;first|(simp (maxSteps:=999999)(disch:=omega) only [go_sem];exact h)|exact h)|fail)) :
  en Sg st 114 [.c (.ptr b 0),ag (fZ o)] (Sl.of K):=by
 refine eT (Ji st.bx st.nx b k n w N f s m e o t hb hkb hbn hkn hbk hn hN hw0 hw1 hf) rfl (fun i hi => ?_) (by omega) (wk hk);unfold aJ dr;rw [if_neg (by omega),if_neg (by omega),if_neg (by omega)];exact hwf i (by omega)
theorem NW {w:Nat}:∀ a,a<w→∀ j,j<6→PV.val (([.int .u16 0, .int .u16 0, .int .u16 0, .int .u16 0, .int .u16 0, .int .u16 0]:List Value).getD j undef)=oq cO yE.acc a j:=fun a ha j hj=>by
 have hivl:j=0∨j=1∨j=2∨j=3∨j=4∨j=5:=by omega
 rcases hivl with rfl|rfl|rfl|rfl|rfl|rfl <;> rfl
theorem Ry {w:Nat}:∀ a,a<w→∀ j,j<5→PV.val (([.int .u16 0, .int .u16 0, .int .u16 0, .int .u16 0, .int .u16 0]:List Value).getD j undef)=oq aS yE.back a j:=fun a ha j hj=>by
 have hivl:j=0∨j=1∨j=2∨j=3∨j=4:=by omega
 rcases hivl with rfl|rfl|rfl|rfl|rfl <;> rfl
theorem tV {w:Nat} {f:Nat→Nat→PV} {t:Fr} {rr:List Fr} {pp:Nat→Acc} (h:oC w f (t :: rr)):oC w (me rr.length w f pp) (⟨t.op,pp,t.back⟩ :: rr):=by
 refine ⟨fun j hj => ?_,nF (fun a ha j => ?_) h.2⟩
 ·have h1:=h.1;unfold me;rw [if_pos rfl];have hivl:j=0∨j=1∨j=2∨j=3∨j=4∨j=5∨j=6∨j=7∨j=8∨j=9∨j=10∨j=11∨j=12∨j=13:=by omega
  rcases hivl with rfl|rfl|rfl|rfl|rfl|rfl|rfl|rfl|rfl|rfl|rfl|rfl|rfl|rfl <;> first|rfl|exact h1 _ (by decide)
 ·unfold me;rw [if_neg (by omega)]
theorem DY {w:Nat} {f:Nat→Nat→PV} {t t':Fr} {rr:List Fr} (h:oC w f (t :: rr)):oC w (uw rr.length w f t') (t' :: t :: rr):=by
 refine ⟨fun j hj => ?_,nF (fun a ha j => ?_) h⟩
 ·unfold uw;rw [List.length_cons,if_pos rfl];rfl
 ·unfold uw;rw [List.length_cons] at ha;rw [if_neg (by omega)]
theorem gB {k i:Nat} {bx:Nat→Option Bx} {x:Bx} (h:dr k bx i=some x):i≠k:=fun e=>by
 unfold dr at h;rw [if_pos e] at h;cases h
theorem fC {k i:Nat} {bx:Nat→Option Bx} {x:Bx} (h:dr k bx i=some x):bx i=some x:=by
 have e:=gB h;unfold dr at h;rw [if_neg e] at h;exact h
theorem qu {st : St} {l : List (Nat × SV)} {b k n N n0 nx : Nat} {s : Script} {m : Int} {e : PV} {f' : Nat → Nat → PV} {base : Nat → Option Bx} {kf : Nat → SV} (hkf : st.kf = kf) (hkl : ∀ s, (kf s).lt n0) (hn0 : n0 ≤ nx) (hbn : b < n0) (hkn : k < nx) (hkb : n0 ≤ k)
  (hbase:∀ i x,base i=some x→i<n0∧x.lt n0) (h1:st.bx b=some (.fix (lq s m e (.own k n)))) (h2:∃ f,st.bx k=some (.arr 170 14 N f)∧(f=f'∨∀ i,i<N→∀ j,j<14→PV.le (f i j) (f' i j)))
  (hoth:∀ i x,i≠b→i<n0→base i=some x→st.bx i=some x) (hfr:ou (rG nx []) st (aJ b (.fix (lq s m e (.own k n))) (aJ k (.arr 170 14 N f') base)) nx l) :
  Le st (vk l (aJ b (.fix (lq s m e (.own k n))) (aJ k (.arr 170 14 N f') base)) nx kf) :=
 let ⟨_,h2,hf⟩:=h2
 Zt (cs:=yb s m e) hkf hkl hn0 (by omega) (by omega) hkn (by omega) nD h1 h2 hf (fun i x e1 e2 hx=>by
  obtain ⟨q1,q2⟩:=hbase i x hx
  refine ⟨by omega,Bx.lt_mono hn0 q2,iF (by omega) (hoth i x e1 q1 hx) (rI (Bx.lt_mono hn0 q2))⟩) hfr
def tc (s:Script) (m:Int) (r:Rect) (x y:Int):Nat:=(gS s m r (zR s x y) s.ops.length).st.length+(gS s m r (zR s x y) s.ops.length).junk.length
def Pq (b:Nat) (x y:Int) (w:Nat) (s:Script) (r:Rect) (i:Int):List (Nat × SV):=[(0, .b (.c (.ptr b 0))),(1, .b (I x)),(2, .b (I y)),(3, .b (I w)),(4, .b (.c (.p (.lst 1 s.ops.length fun a _=>PB (gn s r a))))),(11, .b (I i))]
def xS (b k n N:Nat) (f:Nat→Nat→PV) (s:Script) (m:Int) (e:PV) (base:Nat→Option Bx):Nat→Option Bx:=aJ b (.fix (lq s m e (.own k n))) (aJ k (.arr 170 14 N f) base)
attribute [local go_sem] Pq xS
theorem Kf (bx : Nat → Option Bx) (nx b k n0 N0 : Nat) (f0 : Nat → Nat → PV) (s : Script) (r : Rect) (m x y : Int) (w : Nat)
  (hb:bx b=some (.fix (lq s m (eR s.ops.length (aN s.ops)) (.own k n0)))) (hk:bx k=some (.arr 170 14 N0 f0)) (hbn:b<nx) (hkn:k<nx) (hbk:b≠k) (hn0:n0≤N0)
  (hw0:w≤1000) (hw1:0<w) (C:∀ j:Nat,j<w→Pt s m (x+j) y) (hr:aP r=false) (hin:∀ j:Nat,j<w→ic r (x+j) y) (hs:ScriptLen s) (hx : -1073741824≤x∧x≤1073741824) (hy : -1073741824≤y∧y≤1073741824) :
  lU Sg bx nx 75 [.c (.ptr b 0),I x,I y,I w, .c (.p (.lst 1 s.ops.length fun a _=>PB (gn s r a)))] (.b (.c (.p (sW w fun j=>dS s (x+j) y))))
   (aJ b (.fix (lq s m (eR s.ops.length (aN s.ops)) (.own nx 1))) (aJ nx (.arr 170 14 (tc s m r x y) (fun _ _ => .any)) (dr k bx))) (nx+1):=by
 have ht:True:=trivial;have C0:=C 0 hw1;have V:=C0.V;have W:=V.wf;have hm:=C0.hm;have hcnt:=V.cnt;have him:=V.imgs;generalize he:eR s.ops.length (aN s.ops)=e;rw [he] at hb;have eb:bx=aJ b (.fix (lq s m e (.own k n0))) (aJ k (.arr 170 14 N0 f0) bx):=by rw [← dv hk];exact dv hb
 refine rR Tryz.func75 rfl (rs:=[.tmp 10]) rfl rfl fG (by decide +kernel) (Nat.le_of_ble_eq_true rfl) ?_ (fun kf hkf hbl => ?_)
 ·intro v hv;simp only [List.mem_cons,List.not_mem_nil,or_false] at hv;rcases hv with rfl|rfl|rfl|rfl|rfl
  ·exact hbn
  ·trivial
  ·trivial
  ·trivial
  ·trivial
 have hw:∀ i,nx≤i→bx i=none:=fun i hi=>by
  cases h:bx i with
  | none=>rfl
  | some y=>exact absurd (hbl i y h).1 (by omega)
 have hbase:∀ i x,dr k bx i=some x→i<nx∧x.lt nx:=fun i x h=>by
  unfold dr at h;split at h
  ·cases h
  ·exact hbl i x h
 rw [eb];repeat' (refine an (fun K hK => ?_);and_intros;all_goals first|(refine hK _ ?_;clear hK K)|try exact ai)
 refine fw (id:=1) (.br 0 (.br 1 (.br 2 (.br 3 (.br 4 (.br 5 (.br 6 (.br 7 (.br 9 (.br 8 (.br 10 (.br 11 (.br 12 (.br 13 (.br 14 (.br 15 (.br 16 .leaf .nil) .nil) .nil) .nil) .nil) .nil) .nil) (.br 10 (.br 8 (.br 11 (.br 12 (.br 13 (.br 14 (.br 15 (.br 16 .leaf .nil) .nil) .nil) .nil) .nil) .nil) .nil) .nil)) .nil) .nil) .nil) .nil) .nil) .nil) .nil) .nil) .nil) (by decide +kernel) (by (first|(refine And.intro (fun iw hiw => ?_) ?_;(focus ((try simp (maxSteps:=999999)(disch:=omega) only [go_sem] at hiw ⊢);(repeat (refine Eq.trans (if_neg ?_) ?_;(focus omega)));(first|exact hw iw (by omega)|rfl)));(focus (first|exact Nat.zero_le _|(simp (maxSteps:=999999)(disch:=omega) only [go_sem];done)|(simp (maxSteps:=999999)(disch:=omega) only [go_sem];omega))))|exact FD)) (fun K0 hW => ?_);refine (fun (tl:∀ st,Le st (vk [(0, .b (.c (.ptr b 0))),(1, .b (I x)),(2, .b (I y)),(3, .b (I w)),(4, .b (.c (.p (.lst 1 s.ops.length fun a _=>PB (gn s r a)))))] (aJ b (.fix (lq s m e (.own (nx+3) 1))) (aJ (nx+3) (.arr 170 14 1 fun _ j=>(Nx w yE).getD j .any) (dr k bx))) (nx+4) kf)→K0 st) => ?_) (fun st hl=>hW st _ hl ?_)
 ·clear hW;repeat' (first|exact cg|(refine cH (fun K' hK' => ?_) ?_)|(refine bJ (tl _ ?_);clear tl)|(simp (maxSteps:=999999)(disch:=omega) only [go_sem];and_intros;(all_goals first|(refine hK' _ ?_;clear hK' K')|trivial|omega|exact Nat.le_of_ble_eq_true rfl|exact ai|skip)))
  all_goals
   refine qu rfl hkf (by omega) hbn (by omega) (by omega) hbase ?_ ?_ (fun i x e1 e2 hx => ?_) ?_
   ·(first|(simp (maxSteps:=999999)(disch:=omega) only [go_sem];done)|(simp (maxSteps:=999999)(disch:=omega) only [go_sem];rfl))
   ·apply Exists.intro;refine And.intro ?_ (.inr fun a ha j hj => ?_)
    ·(first|(simp (maxSteps:=999999)(disch:=omega) only [go_sem];done)|(simp (maxSteps:=999999)(disch:=omega) only [go_sem];rfl))
    ·obtain rfl:a=0:=by omega
     unfold gY;rw [if_neg (Nat.not_lt_zero _)];have hivl:j=0∨j=1∨j=2∨j=3∨j=4∨j=5∨j=6∨j=7∨j=8∨j=9∨j=10∨j=11∨j=12∨j=13:=by omega
     rcases hivl with rfl|rfl|rfl|rfl|rfl|rfl|rfl|rfl|rfl|rfl|rfl|rfl|rfl|rfl <;> (first|exact PV.le_refl _|exact gX NW|exact gX Ry)
   ·have e3:=gB hx;simp (maxSteps:=999999)(disch:=omega) only [go_sem];exact fC hx
   ·simp (maxSteps:=999999)(disch:=omega) only [go_sem]
    (first|done|(and_intros;all_goals first|omega|exact .inl rfl))
 clear hW;obtain ⟨q,hq⟩:∃ q,q=gS s m r (zR s x y):=⟨_,rfl⟩
 have hfin:∀ t',(q s.ops.length).st=[t']→(q s.ops.length).st.length+(q s.ops.length).junk.length=tc s m r x y:=fun t' _=>by rw [hq];rfl
 repeat' (first|refine bU ?_|(refine an (fun K hK => ?_);and_intros;all_goals first|(refine hK _ ?_;clear hK K)|try exact ai))
 refine aH (X:=Nat × Nat × (Nat→Nat→PV) × Nat) (fun z=>vk (Pq b x y w s r z.1) (xS b z.2.1 (q z.1).st.length ((q z.1).st.length+(q z.1).junk.length) z.2.2.1 s m e (dr k bx)) z.2.2.2 kf)
  (fun z=>z.1≤s.ops.length∧Reach s r z.1∧sw s m x y w (q z.1) z.1∧oC w z.2.2.1 (q z.1).st∧(q z.1).st.length+(q z.1).junk.length≤1000∧nx≤z.2.1∧z.2.1<z.2.2.2) (fun z=>s.ops.length - z.1) (0,nx+3,fun _ j=>(Nx w yE).getD j .any,nx+4) ?_ ?_ ?_
 ·subst hq;dsimp only;exact ⟨Nat.zero_le _,fun g hg=>(by cases hg),Ix,⟨fun j hj=>rfl,trivial⟩,(by show 1+0≤1000;omega),by omega,by omega⟩
 ·subst hq;show Le _ (vk (Pq b x y w s r 0) (xS b (nx+3) 1 1 (fun _ j=>(Nx w yE).getD j .any) s m e (dr k bx)) (nx+4) kf);refine qu rfl hkf (by omega) hbn (by omega) (by omega) hbase ?_ ?_ (fun i x e1 e2 hx => ?_) ?_
  ·(first|(simp (maxSteps:=999999)(disch:=omega) only [go_sem];done)|(simp (maxSteps:=999999)(disch:=omega) only [go_sem];rfl))
  ·apply Exists.intro;refine And.intro ?_ (.inl rfl)
   (first|(simp (maxSteps:=999999)(disch:=omega) only [go_sem];done)|(simp (maxSteps:=999999)(disch:=omega) only [go_sem];rfl))
  ·have e3:=gB hx;simp (maxSteps:=999999)(disch:=omega) only [go_sem];exact fC hx
  ·simp (maxSteps:=999999)(disch:=omega) only [go_sem]
   (first|done|(and_intros;all_goals first|omega|exact .inl rfl))
 rintro ⟨i,k1,f,n1⟩ ⟨hi,hR,hC,hH,hN,hk1,hk2⟩;dsimp only at hi hR hC hH hN hk1 hk2 ⊢;obtain ⟨st,jk,eq⟩:∃ st jk,q i=⟨st,jk⟩:=⟨_,_,rfl⟩
 rw [eq] at hC hH hN ⊢;obtain ⟨t,rr,rfl,hrl⟩:=Px hw1 C hi hC;simp only [List.length_cons] at hN ⊢;rcases Nat.lt_or_ge i s.ops.length with hlt|hge
 ·have g0:decide ((i:Int)<s.ops.length)=true:=decide_eq_true (by omega);have hqn:gn s r i=true→q (i+1)=nS m (zR s x y) ⟨t :: rr,jk⟩ (aB s.ops i):=fun ha=>by rw [hq,Cm ha,← hq,eq]
  by_cases hk3:(aB s.ops i).kind=3
  ·have hk3':(s.ops.getD i default).kind=3:=hk3;have ha:=zp W hlt hk3 hR;have hqn:=hqn ha;have hRn:=nC W hlt hR ha;have hCn:=zj hlt ha (by rw [← hq,eq];exact hC);rw [← hq] at hCn;obtain ⟨t',u,r',e',P,hv,hpv⟩:=SN hw1 C hlt hk3 hC;cases e';simp only [List.length_cons] at hN hrl ⊢;have hres:=wD w t.acc t.back m hm hw0 hv;have hz:(fun j:Nat=>aM m t.op (bI (t.acc j) (t.back j) m) (zR s x y j t.op).2)=fun j:Nat=>aM m t.op (bI (t.acc j) (t.back j) m) (ja s t.op x y j):=by
    funext j;rw [yk P.mask]
   obtain ⟨g,hg⟩:∃ g:Nat→Pixel,g=fun j=>bI (t.acc j) (t.back j) m:=⟨_,rfl⟩
   have hp:∀ j,j<w→PixV (g j) m:=fun j hj=>by rw [hg];exact hpv j hj
   obtain ⟨pp,hpp⟩:∃ pp:Nat→Acc,pp=fun j=>cT u.op.knockout t.op.operator t.op.mode m (aM m t.op (g j) (ja s t.op x y j)) (u.acc j) (u.back j):=⟨_,rfl⟩
   have hqn:q (i+1)=⟨⟨u.op,pp,u.back⟩ :: r',t :: jk⟩:=by
    rw [hqn];unfold nS;dsimp only;rw [if_neg (by omega),if_neg (by omega),hz,hpp,hg];rfl
   rw [hqn] at hCn;have hH1:=hH.1;have hos:[f (r'.length+1) 0,f (r'.length+1) 1,f (r'.length+1) 2,f (r'.length+1) 3,f (r'.length+1) 4,f (r'.length+1) 5,f (r'.length+1) 6,f (r'.length+1) 7,f (r'.length+1) 8,f (r'.length+1) 9,f (r'.length+1) 10,f (r'.length+1) 11]=fZ t.op:=by
    rw [show f (r'.length+1) 0=_ from hH1 0 (by decide),show f (r'.length+1) 1=_ from hH1 1 (by decide),show f (r'.length+1) 2=_ from hH1 2 (by decide),show f (r'.length+1) 3=_ from hH1 3 (by decide),show f (r'.length+1) 4=_ from hH1 4 (by decide),show f (r'.length+1) 5=_ from hH1 5 (by decide),show f (r'.length+1) 6=_ from hH1 6 (by decide),show f (r'.length+1) 7=_ from hH1 7 (by decide),show f (r'.length+1) 8=_ from hH1 8 (by decide),show f (r'.length+1) 9=_ from hH1 9 (by decide),show f (r'.length+1) 10=_ from hH1 10 (by decide),show f (r'.length+1) 11=_ from hH1 11 (by decide)];rfl
   have hres:aA Sg 112 [.c (.p (f (r'.length+1) 12)), .c (.p (f (r'.length+1) 13)),U m] (fun r=>r = .tup [.c (.p (sW w g)),B true]):=by
    rw [show f (r'.length+1) 12=_ from hH1 12 (by decide),show f (r'.length+1) 13=_ from hH1 13 (by decide),hg];exact hres
   repeat' (first|((first|apply gw|apply nY);(case hc=>exact bM);(case ht=>(simp only [Int.toNat_natCast,Int.reduceBEq,Int.reduceBNe,Int.reduceLT,Int.reduceLE,decide_true,decide_false,ss,g0,hk3'];done)))|(((with_reducible refine bT (id:=8) [(84,2)] (by decide +kernel) (by decide +kernel) ?_ (fun K hK => ?_));(first|(refine And.intro (fun iw hiw => ?_) ?_;(focus ((try simp (maxSteps:=999999)(disch:=omega) only [go_sem] at hiw ⊢);(repeat (refine Eq.trans (if_neg ?_) ?_;(focus omega)));(first|exact hw iw (by omega)|rfl)));(focus (first|exact Nat.zero_le _|(simp (maxSteps:=999999)(disch:=omega) only [go_sem];done)|(simp (maxSteps:=999999)(disch:=omega) only [go_sem];omega))))|exact FD));(try simp (maxSteps:=999999)(disch:=omega) only [go_sem]);and_intros;(all_goals first|(refine hK _ (by simp (maxSteps:=999999)(disch:=omega) only [go_sem]) ?_;clear hK K)|exact ai|skip))|refine bU ?_|((first|refine an (fun K hK => ?_)|refine aa (hres) ?_|refine ub b k1 r'.length w (r'.length+1+1+jk.length) f s m e t.op g x y u (by omega) (by omega) hN hw0 hw1 hH.2.1 hm P (by omega) hx hy hp hos ?_);and_intros;all_goals first|(refine hK _ ?_;clear hK K)|try exact ai))
   rw [← hpp,ae];refine ak (i+1,k1,me r'.length w f pp,n1) ?_ ?_ (by dsimp only;omega)
   ·dsimp only;rw [hqn,show ((⟨u.op,pp,u.back⟩:Fr) :: r').length+(t :: jk).length=r'.length+1+1+jk.length by simp only [List.length_cons];omega];refine qu rfl hkf (by omega) hbn (by omega) (by omega) hbase ?_ ?_ (fun i x e1 e2 hx => ?_) ?_
    ·(first|(simp (maxSteps:=999999)(disch:=omega) only [go_sem];done)|(simp (maxSteps:=999999)(disch:=omega) only [go_sem];rfl))
    ·apply Exists.intro;refine And.intro ?_ (.inl rfl)
     (first|(simp (maxSteps:=999999)(disch:=omega) only [go_sem];done)|(simp (maxSteps:=999999)(disch:=omega) only [go_sem];rfl))
    ·have e3:=gB hx;simp (maxSteps:=999999)(disch:=omega) only [go_sem];exact fC hx
    ·simp (maxSteps:=999999)(disch:=omega) only [go_sem]
     (first|done|(and_intros;all_goals first|omega|exact .inl rfl))
   ·dsimp only;rw [hqn];exact ⟨by omega,hRn,hCn,tV hH.2,(by simp only [List.length_cons];omega),hk1,hk2⟩
  cases ha:gn s r i with
  | false =>
   have hk3':((s.ops.getD i default).kind == 3)=false:=beq_eq_false_iff_ne.2 hk3;have hn:fT s r i=false:=by rw [← rf hR];exact ha
   obtain ⟨q1,q2,q3,q4⟩:=vS (m:=m) (z:=zR s x y) W hlt hk3 hR hn;have hCs:=Jc C hr hin W hlt hk3 hR hn (by rw [← hq,eq];exact hC);rw [← hq] at q4 hCs;rw [eq] at q4;rw [q4] at hCs;subst he;repeat' (first|((first|apply gw|apply nY);(case hc=>exact bM);(case ht=>(simp only [Int.toNat_natCast,Int.reduceBEq,Int.reduceBNe,Int.reduceLT,Int.reduceLE,decide_true,decide_false,ss,g0,ha,hk3'];done)))|(apply oB;(case hc=>exact bM);(case ht=>(simp only [Int.toNat_natCast,Int.reduceBEq,Int.reduceBNe,Int.reduceLT,Int.reduceLE,decide_true,decide_false,ss,g0,ha,hk3'];done)))|refine bU ?_|(refine an (fun K hK => ?_);and_intros;all_goals first|(refine hK _ ?_;clear hK K)|try exact ai))
   rw [ae];refine ak (aN s.ops i+1,k1,f,n1) ?_ ?_ (by dsimp only;omega)
   ·dsimp only;rw [q4];refine qu rfl hkf (by omega) hbn (by omega) (by omega) hbase ?_ ?_ (fun i x e1 e2 hx => ?_) ?_
    ·(first|(simp (maxSteps:=999999)(disch:=omega) only [go_sem];done)|(simp (maxSteps:=999999)(disch:=omega) only [go_sem];rfl))
    ·apply Exists.intro;refine And.intro ?_ (.inl rfl)
     (first|(simp (maxSteps:=999999)(disch:=omega) only [go_sem];done)|(simp (maxSteps:=999999)(disch:=omega) only [go_sem];rfl))
    ·have e3:=gB hx;simp (maxSteps:=999999)(disch:=omega) only [go_sem];exact fC hx
    ·simp (maxSteps:=999999)(disch:=omega) only [go_sem]
     (first|done|(and_intros;all_goals first|omega|exact .inl rfl))
   ·dsimp only;rw [q4];exact ⟨by omega,q3,hCs,hH,(by simp only [List.length_cons];omega),hk1,hk2⟩
  | true =>
   have hqn:=hqn ha;have hRn:=nC W hlt hR ha;have hCn:=zj hlt ha (by rw [← hq,eq];exact hC);rw [← hq] at hCn;rcases W.kinds i hlt with hk|hk|hk
   ·have hk2':(s.ops.getD i default).kind=1:=hk;obtain ⟨P,hi1,hi2⟩:=OT hw1 C hlt hk hC;have px:=P.ox;have py:=P.oy;have hpx:=vQ s m e .any (aB s.ops i).image.toNat w (x - (aB s.ops i).x) (y - (aB s.ops i).y) (by omega) (by omega) hw0 (by omega);rw [show (((aB s.ops i).image.toNat:Nat):Int)=(aB s.ops i).image by omega] at hpx;have hp:=fun j=>DP hm C0.mx C0.im (aB s.ops i).image.toNat (x - (aB s.ops i).x+(j:Nat)) (y - (aB s.ops i).y)
    have hz:(fun j:Nat=>aM m (aB s.ops i) (zR s x y j (aB s.ops i)).1 (zR s x y j (aB s.ops i)).2)=fun j:Nat=>aM m (aB s.ops i) (cU (s.images.getD (aB s.ops i).image.toNat default) (x - (aB s.ops i).x+j) (y - (aB s.ops i).y)) (ja s (aB s.ops i) x y j):=by
     funext j;rw [Rf hk ⟨hi1,hi2⟩,yk P.mask]
    have hqn:q (i+1)=⟨Aq m (aB s.ops i) (fun j:Nat=>aM m (aB s.ops i) (cU (s.images.getD (aB s.ops i).image.toNat default) (x - (aB s.ops i).x+j) (y - (aB s.ops i).y)) (ja s (aB s.ops i) x y j)) t :: rr,jk⟩:=by
     rw [hqn,← hz];unfold nS;dsimp only;rw [if_pos hk]
    generalize hg:(fun j:Nat=>cU (s.images.getD (aB s.ops i).image.toNat default) (x - (aB s.ops i).x+j) (y - (aB s.ops i).y))=g at hpx;have hp:∀ j,j<w→PixV (g j) m:=fun j _=>by rw [← hg];exact hp j
    have hqn:q (i+1)=⟨Aq m (aB s.ops i) (fun j:Nat=>aM m (aB s.ops i) (g j) (ja s (aB s.ops i) x y j)) t :: rr,jk⟩:=by rw [hqn,← hg]
    clear hz hg;unfold aB at P hpx hqn px py;obtain ⟨pp,hpp⟩:∃ pp:Nat→Acc,pp=fun j=>cT t.op.knockout (s.ops.getD i default).operator (s.ops.getD i default).mode m (aM m (s.ops.getD i default) (g j) (ja s (s.ops.getD i default) x y j)) (t.acc j) (t.back j):=⟨_,rfl⟩
    have hqn:q (i+1)=⟨⟨t.op,pp,t.back⟩ :: rr,jk⟩:=by rw [hqn,hpp];rfl
    rw [hqn] at hCn;repeat' (first|((first|apply gw|apply nY);(case hc=>exact bM);(case ht=>(simp only [Int.toNat_natCast,Int.reduceBEq,Int.reduceBNe,Int.reduceLT,Int.reduceLE,decide_true,decide_false,ss,g0,hk2',ha];done)))|(apply oB;(case hc=>exact bM);(case ht=>(simp only [Int.toNat_natCast,Int.reduceBEq,Int.reduceBNe,Int.reduceLT,Int.reduceLE,decide_true,decide_false,ss,g0,hk2',ha];done)))|refine bU ?_|(refine an (fun K hK => ?_);and_intros;all_goals first|(refine hK _ ?_;clear hK K)|try exact ai))
    refine rQ (id:=6) (.br 0 (.br 2 (.br 3 (.br 4 (.br 5 (.br 6 (.br 7 (.br 8 (.br 9 (.br 10 (.br 11 (.br 12 (.br 13 (.br 15 (.br 16 (.br 1 (.br 14 (.br 17 .leaf .nil) .nil) (.br 14 (.br 1 (.br 17 .leaf .nil) .nil) .nil)) .nil) .nil) .nil) .nil) .nil) .nil) .nil) .nil) .nil) .nil) .nil) .nil) .nil) .nil) .nil) (by decide +kernel) ?_ (fun K0 hW => ?_)
    ·refine ⟨?_,Nat.zero_le _⟩;intro iw hiw
     (try simp (maxSteps:=999999)(disch:=omega) only [go_sem] at hiw ⊢)
     (repeat (refine Eq.trans (if_neg ?_) ?_;(focus omega)))
     exact hw iw (by omega)
    replace hW:=iS hW;repeat' (first|exact cg|(refine cH (fun K' hK' => ?_) ?_)|(refine bJ (hW _ ?_);clear hW)|((first|refine Gh (hpx) ?_|refine ub b k1 rr.length w (rr.length+1+jk.length) f s m e (s.ops.getD i default) g x y t (by omega) (by omega) hN hw0 hw1 hH.1 hm P (by omega) hx hy hp rfl ?_);(try simp (maxSteps:=999999)(disch:=omega) only [go_sem]);and_intros;(all_goals first|(refine hK' _ ?_;clear hK' K')|trivial|omega|exact Nat.le_of_ble_eq_true rfl|exact ai|skip))|(simp (maxSteps:=999999)(disch:=omega) only [go_sem];and_intros;(all_goals first|(refine hK' _ ?_;clear hK' K')|trivial|omega|exact Nat.le_of_ble_eq_true rfl|exact ai|skip)))
    all_goals
     refine dJ ?_;rw [← hpp];refine .inl ⟨vk (Pq b x y w s r i) (xS b k1 (rr.length+1) (rr.length+1+jk.length) (me rr.length w f pp) s m e (dr k bx)) n1 kf, ?_, ?_⟩
     ·refine qu rfl hkf (by omega) hbn (by omega) (by omega) hbase ?_ ?_ (fun i x e1 e2 hx => ?_) ?_
      ·(first|(simp (maxSteps:=999999)(disch:=omega) only [go_sem];done)|(simp (maxSteps:=999999)(disch:=omega) only [go_sem];rfl))
      ·apply Exists.intro;refine And.intro ?_ (.inl rfl)
       (first|(simp (maxSteps:=999999)(disch:=omega) only [go_sem];done)|(simp (maxSteps:=999999)(disch:=omega) only [go_sem];rfl))
      ·have e3:=gB hx;simp (maxSteps:=999999)(disch:=omega) only [go_sem];exact fC hx
      ·simp (maxSteps:=999999)(disch:=omega) only [go_sem]
       (first|done|(and_intros;all_goals first|omega|exact .inl rfl))
     repeat' (refine an (fun K hK => ?_);and_intros;all_goals first|(refine hK _ ?_;clear hK K)|try exact ai)
     rw [ae];refine ak (i+1,k1,me rr.length w f pp,n1) ?_ ?_ (by dsimp only;omega)
     ·dsimp only;rw [hqn];refine qu rfl hkf (by omega) hbn (by omega) (by omega) hbase ?_ ?_ (fun i x e1 e2 hx => ?_) ?_
      ·(first|(simp (maxSteps:=999999)(disch:=omega) only [go_sem];done)|(simp (maxSteps:=999999)(disch:=omega) only [go_sem];rfl))
      ·apply Exists.intro;refine And.intro ?_ (.inl rfl)
       (first|(simp (maxSteps:=999999)(disch:=omega) only [go_sem];done)|(simp (maxSteps:=999999)(disch:=omega) only [go_sem];rfl))
      ·have e3:=gB hx;simp (maxSteps:=999999)(disch:=omega) only [go_sem];exact fC hx
      ·simp (maxSteps:=999999)(disch:=omega) only [go_sem]
       (first|done|(and_intros;all_goals first|omega|exact .inl rfl))
     ·dsimp only;rw [hqn];exact ⟨by omega,hRn,hCn,tV hH,(by simp only [List.length_cons];omega),hk1,hk2⟩
   ·have hk2':(s.ops.getD i default).kind=2:=hk;obtain ⟨t',r',e',hd⟩:=Ot hw1 C hlt hk hC;cases e';have hqn:q (i+1)=⟨jW (s.ops.getD i default) t :: t :: rr,[]⟩:=by
     rw [hqn];unfold nS;dsimp only;rw [if_neg (by omega),if_pos hk];rfl
    rw [hqn] at hCn;repeat' (first|((first|apply gw|apply nY);(case hc=>exact bM);(case ht=>(simp only [Int.toNat_natCast,Int.reduceBEq,Int.reduceBNe,Int.reduceLT,Int.reduceLE,decide_true,decide_false,ss,g0,hk2',ha];done)))|(apply oB;(case hc=>exact bM);(case ht=>(simp only [Int.toNat_natCast,Int.reduceBEq,Int.reduceBNe,Int.reduceLT,Int.reduceLE,decide_true,decide_false,ss,g0,hk2',ha];done)))|refine bU ?_|((first|refine an (fun K hK => ?_)|refine Fq b k1 rr.length w (rr.length+1+jk.length) f s m e (s.ops.getD i default) t (by omega) (by omega) hN hw0 hw1 hH.1 ?_);and_intros;all_goals first|(refine hK _ ?_;clear hK K)|try exact ai))
    rw [ae];refine ak (i+1,n1+1,uw rr.length w f (jW (s.ops.getD i default) t),n1+2) ?_ ?_ (by dsimp only;omega)
    ·dsimp only;rw [hqn];refine qu rfl hkf (by omega) hbn (by omega) (by omega) hbase ?_ ?_ (fun i x e1 e2 hx => ?_) ?_
     ·(first|(simp (maxSteps:=999999)(disch:=omega) only [go_sem];done)|(simp (maxSteps:=999999)(disch:=omega) only [go_sem];rfl))
     ·apply Exists.intro;refine And.intro ?_ (.inl rfl)
      (first|(simp (maxSteps:=999999)(disch:=omega) only [go_sem];done)|(simp (maxSteps:=999999)(disch:=omega) only [go_sem];rfl))
     ·have e3:=gB hx;simp (maxSteps:=999999)(disch:=omega) only [go_sem];exact fC hx
     ·simp (maxSteps:=999999)(disch:=omega) only [go_sem]
      (first|done|(and_intros;all_goals first|omega|exact .inl rfl))
    ·dsimp only;rw [hqn];exact ⟨by omega,hRn,hCn,DY hH,(by simp only [List.length_cons,List.length_nil];omega),by omega,by omega⟩
   ·exact absurd hk hk3
 ·have g0:decide ((i:Int)<s.ops.length)=false:=decide_eq_false (by omega);obtain rfl:i=s.ops.length:=by omega
  obtain ⟨t',et,hv⟩:=KN hw1 C hC;cases et;have hres:=wD w t.acc t.back m hm hw0 (fun j hj=>(hv j hj).1);have hH1:=hH.1;have hres:aA Sg 112 [.c (.p (f 0 12)), .c (.p (f 0 13)),U m] (fun r=>r = .tup [.c (.p (sW w fun k=>bI (t.acc k) (t.back k) m)),B true]):=by
   rw [show f 0 12=_ from hH1 12 (by decide),show f 0 13=_ from hH1 13 (by decide)];exact hres
  have hNe:tc s m r x y=0+1+jk.length:=by unfold tc;rw [← hq,eq];rfl
  rw [hNe];simp only [List.length_nil] at hN ⊢;repeat' (first|refine ah g0 ?_|refine bU ?_|((first|refine an (fun K hK => ?_)|refine aa (hres) ?_);and_intros;all_goals first|(refine hK _ ?_;clear hK K)|try exact ai)|(refine ct ?_;(try clear hB KB);(try clear hK K)))
  refine ⟨_,Ld (l:=[(10, .b (.c (.p (sW w fun j=>dS s (x+j) y))))]) (b:=b) (q:=k1) (n:=1) (T:=170) (sz:=14) (N:=1+jk.length) (cs:=yb s m e) (f := ?ff) (f':=fun _ _ => .any) (base:=dr k (aJ b (.fix (lq s m e (.own k n0))) (aJ k (.arr 170 14 N0 f0) bx))) rfl hkf hbn hk1 nD ?h1 ?h2 (.inr fun _ _ _ _ _ _ _ _=>trivial) ?h4 ?h5,⟨trivial,trivial⟩,rfl,fun i y h=>h,rfl,rfl,trivial⟩
  case h1=>(first|(simp (maxSteps:=999999)(disch:=omega) only [go_sem];done)|(simp (maxSteps:=999999)(disch:=omega) only [go_sem];rfl))
  case h2=>(first|(simp (maxSteps:=999999)(disch:=omega) only [go_sem];done)|(simp (maxSteps:=999999)(disch:=omega) only [go_sem];rfl))
  case h4 =>
   intro i x e1 hx;have hx:dr k bx i=some x:=by rw [← eb] at hx;exact hx
   obtain ⟨q1,q2⟩:=hbase i x hx;have e3:=gB hx;refine ⟨q1,q2, ?_⟩;simp (maxSteps:=999999)(disch:=omega) only [go_sem];exact fC hx
  case h5 =>
   simp (maxSteps:=999999)(disch:=omega) only [go_sem];refine .inr (gX fun a ha j hj => ?_);exact congrArg (fun p:Pixel=>(aS p).getD j .any) (hv a ha).2
end
section
attribute [local go_sem] Int.toNat_natCast
def AE (w h:Int) (l:List Pixel) (x q:Nat):List PV:=if q<x then fj (cF w h l q) else fj iY
def Hj (w h:Int) (l:List Pixel) (x:Nat):List PV:=[PI w,PI h,PB false,PU 0,PU 0,PU 0,PU 0,PU 0] ++ AE w h l x 0 ++ AE w h l x 1 ++ AE w h l x 2 ++ AE w h l x 3 ++ AE w h l x 4
def Lj (l:List Pixel) (q k:Nat):Nat→Nat→PV:=fun a _=>PU (if a<k then uB q (l.getD a default) else 0)
theorem KD {l:List Pixel} {q k a:Nat}:(if a=k then PU (uB q (l.getD k default)) else PU (if a<k then uB q (l.getD a default) else 0))=PU (if a<k+1 then uB q (l.getD a default) else 0):=by
 by_cases e:a=k
 ·rw [if_pos e,if_pos (by omega),e]
 ·rw [if_neg e];by_cases h:a<k
  ·rw [if_pos h,if_pos (by omega)]
  ·rw [if_neg h,if_neg (by omega)]
theorem TM {w h:Int} {l:List Pixel} {q:Nat}:∀ a,a<l.length→∀ j,j<1→PV.le (Lj l q l.length a j) (bK uC (cF w h l q).s a j):=fun a ha j hj=>by
 obtain rfl:j=0:=by omega
 have e2:(cF w h l q).s.getD a default=uB q (l.getD a default):=by simp only [cF,List.getD_eq_getElem?_getD,List.getElem?_map,List.getElem?_eq_getElem ha,Option.map_some,Option.getD_some]
 rw [Lj,if_pos ha,bK,e2];exact PV.le_refl _
theorem FR {r:Nat→Option Nat} {bx B:Nat→Option Bx}:∀ (l:List PV),GI r bx B (l.map CV.p) (l.map CV.p)
 | []=>trivial
 | x :: l=>⟨vv (n:=0) (x := .p x) (fun id hid=>absurd hid (Nat.not_lt_zero _)) trivial,FR l⟩
theorem Mn (w h : Int) (l : List Pixel) (hl : l.length ≤ 16777216) :
  aA Sg 43 [I w,I h, .c (.p (pX l))] (fun r=>r = .tup [ag (aI (dd w h l)),B (cZ w h l.length)]):=by
 have ht:True:=trivial;have hsz:=wA w h;cases hf:cK w h with
 | false =>
  have hok:cZ w h l.length=false:=by rw [cZ,hf];rfl
  rw [hok,dd,if_neg (by rw [hok];simp)];rw [hf] at hsz;refine dY ?_;refine aD Tryz.func43 [.cell 6 43, .tmp 7] ?_;repeat' (first|refine ah ht ?_|refine ax ?_|refine an (fun K hK => ?_)|refine aa (hsz) ?_|(refine aq hK ?_;try clear hK K))
  refine dq ⟨gj ?_,cX trivial,trivial⟩;simp only [List.map_cons,List.map_nil,dF,fx];and_intros;all_goals first|exact .inl rfl|exact .inl trivial|exact .inr ed|trivial|skip
 | true =>
  have hb2:=dB hf;have hw:IntKind.i64.wrap (w * h)=w * h:=fY (by omega) (by omega);rw [hf] at hsz;by_cases hn:(l.length:Int)=w * h
  ·have hok:cZ w h l.length=true:=by rw [cZ,hf,decide_eq_true hn];rfl
   have g0:((l.length:Int) != w * h)=false:=by rw [bne_eq_false_iff_eq];exact hn
   rw [hok,dd,if_pos hok];refine dY ?_;refine aD Tryz.func43 [.cell 6 43, .tmp 7] ?_;repeat' (first|refine ah g0 ?_|refine ax ?_|refine an (fun K hK => ?_)|refine aa (hsz) ?_|(refine aq hK ?_;try clear hK K))
   refine aH (X:=Nat) (fun x=>aT [(0, .b (I w)),(1, .b (I h)),(2, .b (.c (.p (pX l)))),(6, .b (.c (.ptr 0 0))),(8, .b (.c (.ptr 1 0))),(29, .b (I x))] [(0, .fix ((aI fB).map CV.p)),(1, .fix ((Hj w h l x).map CV.p))] 2) (fun x=>x≤5) (fun x=>5 - x) 0 ?_ ?_ ?_
   ·omega
   ·simp only [Hj,AE];refine au [(1,some 1)] ?_ ?_;and_intros;all_goals try exact aj
    all_goals exact ed
   ·intro q hq;rcases Nat.lt_or_ge q 5 with h5|h5
    ·have g1:decide ((q:Int)<5)=true:=decide_eq_true (by omega);obtain ⟨q1,hq1⟩:∃ q1,q1=q+1:=⟨_,rfl⟩
     have hq5:q=0∨q=1∨q=2∨q=3∨q=4:=by omega
     repeat' (first|refine ah g1 ?_|refine aC ?_)
     refine aH (X:=Nat) (fun k=>aT [(0, .b (I w)),(1, .b (I h)),(2, .b (.c (.p (pX l)))),(6, .b (.c (.ptr 0 0))),(8, .b (.c (.ptr 1 0))),(9, .b (I q)),(10, .b (.c (.own 2 l.length))),(29, .b (I q)),(35, .b (.c (.p (pX l)))),(36, .b (I l.length)),(37, .b (I k))] [(0, .fix ((aI fB).map CV.p)),(1, .fix ((Hj w h l q).map CV.p)),(2, .arr 34 1 l.length (Lj l q k))] 3) (fun k=>k≤l.length) (fun k=>l.length - k) 0 ?_ ?_ ?_
     ·exact Nat.zero_le _
     ·refine au [(1,some 1),(2,some 2)] ?_ ?_;and_intros;all_goals try exact aj
      ·exact FR _
      ·refine .inr fun a ha j hj => ?_;obtain rfl:j=0:=by omega
       exact PV.le_refl _
     intro k hk;rcases Nat.lt_or_ge k l.length with h6|h6
     ·have g2:decide ((k:Int)<l.length)=true:=decide_eq_true (by omega);have st:∀ a,(if a=k then PU (uB q (l.getD k default)) else Lj l q k a 0)=Lj l q (k+1) a 0:=fun a=>KD;rcases hq5 with rfl|rfl|rfl|rfl|rfl;all_goals
       simp only [Hj,AE];repeat' (first|refine ah g2 ?_|refine aC ?_)
       rw [ae];refine ak (k+1) ?_ (by omega) (by omega);refine au [(1,some 1),(2,some 2)] ?_ ?_;and_intros;all_goals try exact aj
       refine .inr fun a ha j hj => ?_;obtain rfl:j=0:=by omega
       rw [← st a];by_cases e:a=k
       ·rw [if_pos e,if_pos e];exact PV.le_refl _
       ·rw [if_neg e,if_neg e];exact PV.le_refl _
     ·have g2:decide ((k:Int)<l.length)=false:=decide_eq_false (by omega);obtain rfl:k=l.length:=by omega
      rcases hq5 with rfl|rfl|rfl|rfl|rfl;all_goals
       simp only [Hj,AE];repeat' (first|refine ah g2 ?_|refine aC ?_)
       rw [ae];refine ak q1 ?_ (by omega) (by omega);subst hq1;refine au [(1,some 1)] ?_ ?_;and_intros;all_goals try exact aj
       all_goals first|exact TM|(simp only [cF,List.length_map];done)|skip
    ·obtain rfl:q=5:=by omega
     simp only [Hj,AE];have g1:decide (((5:Nat):Int)<5)=false:=by decide
     repeat' (first|refine ah g1 ?_|refine aC ?_)
     refine dq ⟨gj ?_,cX trivial,trivial⟩;simp only [List.map_cons,List.map_nil,dF,fx];and_intros;all_goals first|exact .inl rfl|exact .inl trivial|exact .inr ed|trivial|skip
  ·have hok:cZ w h l.length=false:=by rw [cZ,hf,decide_eq_false hn];rfl
   have g0:((l.length:Int) != w * h)=true:=by rw [bne_iff_ne];exact hn
   rw [hok,dd,if_neg (by rw [hok];simp)];refine dY ?_;refine aD Tryz.func43 [.cell 6 43, .tmp 7] ?_;repeat' (first|refine ah g0 ?_|refine ax ?_|refine an (fun K hK => ?_)|refine aa (hsz) ?_|(refine aq hK ?_;try clear hK K))
   refine dq ⟨gj ?_,cX trivial,trivial⟩;simp only [List.map_cons,List.map_nil,dF,fx];and_intros;all_goals first|exact .inl rfl|exact .inl trivial|exact .inr ed|trivial|skip
def Co (l:List Rect):PV := .lst 4 l.length (bK aQ l)
theorem yG (s:Script) (hF:FrOk s) (hs:ScriptLen s):aA Sg 41 [ag (aF s)] (fun r=>r = .b (.c (.p (Co (er s))))):=by
 have ht:True:=trivial;have hN:=hF.n;have hlen:=hF.len;have h1:=nB s.canvas s.tileW s.tileH;have h2:=lj s.order (eS s) (by have:=hs.order;omega);have ho:mj s.order (eS s)=dC s.order (eS s):=by unfold mj;rw [if_pos hF.o]
 rw [ho] at h2;have hw0:eS s=IntKind.i64.wrap (bj s.canvas s.tileW s.tileH * bY s.canvas s.tileW s.tileH):=(iz _ _ _).1.symm;have h2:aA Sg 73 [.c (.p (eI s.order)),I (IntKind.i64.wrap (bj s.canvas s.tileW s.tileH * bY s.canvas s.tileW s.tileH))] (fun r=>r = .tup [.c (.p (eI (dC s.order (eS s)))),B (eP s.order (eS s))]):=by rw [← hw0];exact h2
 have hok:=mr hF.c hF.t;have htl:∀ i,i<(dC s.order (eS s)).length→aA Sg 74 [ag (aQ s.canvas),I s.tileW,I s.tileH,I ((dC s.order (eS s)).getD i 0)] (fun x=>x = .tup [ag (aQ ((er s).getD i default)),B true]):=fun i hi=>by
  obtain ⟨q1,q2,q3⟩:=hF.tile hi;rw [q2];exact Ra s.canvas s.tileW s.tileH _ hF.c hF.t q1
 have hlt:(er s).length=(dC s.order (eS s)).length:=by omega
 generalize dC s.order (eS s)=L at *
 generalize er s=T at *
 refine aD Tryz.func41 [.tmp 2] ?_;repeat' (first|refine ax ?_|refine an (fun K hK => ?_)|refine aa (h1) ?_|refine aa (h2) ?_|(refine aq hK ?_;try clear hK K))
 refine aH (X:=Nat) (fun i=>aT [(1, .b (.c (.ptr 0 0))),(2, .b (.c (.p (.val (.slice none 0 0))))),(8, .b (.c (.own 1 i))),(33, .b (.c (.p (eI L)))),(34, .b (I L.length)),(35, .b (I i))] [(0, .fix ((aF s).map CV.p)),(1, .arr 28 4 i (bK aQ (T.take i)))] 2) (fun i=>i≤L.length) (fun i=>L.length - i) 0 ?_ ?_ ?_
 ·exact Nat.zero_le _
 ·refine au [(1,none)] ?_ ?_;and_intros;all_goals try exact aj
 intro i hi;have hL20:L.length≤20:=by omega
 rcases Nat.lt_or_ge i L.length with h|h
 ·have g1:decide ((i:Int)<L.length)=true:=decide_eq_true (by omega);have hv:=htl i h;repeat' (first|refine ah g1 ?_|refine ax ?_|refine an (fun K hK => ?_)|refine aa (hv) ?_|(refine aq hK ?_;try clear hK K))
  rw [ae];refine ak (i+1) ?_ (by omega) (by omega);have e:T.take (i+1)=T.take i ++ [T.getD i default]:=by rw [List.take_add_one,List.getElem?_eq_getElem (by omega),List.getD_eq_getElem?_getD,List.getElem?_eq_getElem (by omega)];rfl
  have key:=fun g hg=>cL (enc:=aQ) (xs:=T.take i) (x:=T.getD i default) (s:=4) (g:=g) hg;have hl:(T.take i).length=i:=by rw [List.length_take];omega
  rw [hl] at key;refine au [(1,some 4)] ?_ ?_;and_intros;all_goals try exact aj
  refine .inr fun a ha j hj => ?_;rw [e];refine key _ (fun j hj => ?_) a ha j hj;have hivl:j=0∨j=1∨j=2∨j=3:=by omega
  rcases hivl with rfl|rfl|rfl|rfl <;> rfl
 ·have g1:decide ((i:Int)<L.length)=false:=decide_eq_false (by omega);obtain rfl:i=L.length:=by omega
  repeat' (first|refine ah g1 ?_|refine aC ?_)
  have hl:T.take L.length=T:=by rw [← hlt,List.take_length]
  rw [hl,← hlt];rfl
end
end Go.Proofs.YtcbifofjjpfbcaaGreatDoor
