/- Part of the proof: R8. -/
import Derived.Test.YtdjmpacladhijaaGreatDoorM27
set_option linter.unusedSimpArgs false
set_option linter.unusedVariables false
set_option maxHeartbeats 8000000
set_option maxRecDepth 16000
namespace Go.Proofs.YtdjmpacladhijaaGreatDoor
open Go Go.SL
open Go.RowKit (wrap64)
attribute [local go_sem] Nat.add_zero nK Vs dA fQ Int.toNat_natCast dQ
theorem yr {st : St} {K : SV → St → Prop} {q : Prop} {os : List PV} (b k n w N : Nat) (f : Nat → Nat → PV) (s : Script) (m : Int) (e : PV) (o : Op) (src : Nat → Pixel) (x y : Int) (t : Fr)
  (hbk:b≠k) (hn:n<N) (hN:N≤1000) (hw0:w≤1000) (hw1:0<w) (hf:VU w (f n) t) (hm:Full m) (P:PaintOk s m o x y w t) (hl:s.images.length≤1000) (hx : -1073741824≤x∧x≤1073741824) (hy : -1073741824≤y∧y≤1073741824) (hp:∀ j,j<w→PixV (src j) m) (hos:os=cC o) (hk:q)
  (hb:st.bx b=some (.fix (nK s m e (.own k (n+1)))):=by (first|(simp (maxSteps:=999999)(disch:=omega) only [go_sem];done)|(simp (maxSteps:=999999)(disch:=omega) only [go_sem];rfl)|rfl|fail)) (hkb:st.bx k=some (.arr 221 14 N f):=by (first|(simp (maxSteps:=999999)(disch:=omega) only [go_sem];done)|(simp (maxSteps:=999999)(disch:=omega) only [go_sem];rfl)|rfl|fail)) (hbn:b<st.nx:=by (first|(simp (maxSteps:=999999)(disch:=omega) only [go_sem];done)|(simp (maxSteps:=999999)(disch:=omega) only [go_sem];omega)|fail)) (hkn:k<st.nx:=by (first|(simp (maxSteps:=999999)(disch:=omega) only [go_sem];done)|(simp (maxSteps:=999999)(disch:=omega) only [go_sem];omega)|fail))
  (hwf:∀ i,st.nx≤i→st.bx i=none:=by (first|(intro iw hiw;(try simp (maxSteps:=999999)(disch:=omega) only [go_sem] at hiw ⊢);(repeat (refine Eq.trans (if_neg ?_) ?_;(focus omega)));apply_assumption;omega)|fail))
  (wk:q→K (.tup []) (st.turn (aJ k (.arr 221 14 N (oY n w f fun j=>bQ t.op.knockout o.operator o.mode m (aL m o (src j) (kI s o x y j)) (t.acc j) (t.back j))) st.bx) (st.nx+1)):=by (first|(intro h;first|(simp (maxSteps:=999999)(disch:=omega) only [go_sem];exact h)|exact h)|fail)) :
  dY Sg st 157 [.c (.ptr b 0),ag os, .c (.p (wE w src)),I x,I y] (Sl.of K):=by
 subst hos;have p5:=P.mx;have p6:=P.my;refine dS (JW st.bx st.nx b k n w N f s m e o src x y t hb hkb hbn hkn hbk hn hN hw0 hw1 hf hm P.op P.mode P.opac P.mask hl (by omega) (by omega) hp P.mv P.v P.ko) rfl (fun i hi => ?_) (by omega) (wk hk);unfold aJ;rw [if_neg (by omega)];exact hwf i (by omega)
theorem Ls {st : St} {K : SV → St → Prop} {q : Prop} (b k n w N : Nat) (f : Nat → Nat → PV) (s : Script) (m : Int) (e : PV) (o : Op) (t : Fr)
  (hbk:b≠k) (hn:n<N) (hN:N≤1000) (hw0:w≤1000) (hw1:0<w) (hf:VU w (f n) t) (hk:q)
  (hb:st.bx b=some (.fix (nK s m e (.own k (n+1)))):=by (first|(simp (maxSteps:=999999)(disch:=omega) only [go_sem];done)|(simp (maxSteps:=999999)(disch:=omega) only [go_sem];rfl)|rfl|fail)) (hkb:st.bx k=some (.arr 221 14 N f):=by (first|(simp (maxSteps:=999999)(disch:=omega) only [go_sem];done)|(simp (maxSteps:=999999)(disch:=omega) only [go_sem];rfl)|rfl|fail)) (hbn:b<st.nx:=by (first|(simp (maxSteps:=999999)(disch:=omega) only [go_sem];done)|(simp (maxSteps:=999999)(disch:=omega) only [go_sem];omega)|fail)) (hkn:k<st.nx:=by (first|(simp (maxSteps:=999999)(disch:=omega) only [go_sem];done)|(simp (maxSteps:=999999)(disch:=omega) only [go_sem];omega)|fail))
  (hwf:∀ i,st.nx≤i→st.bx i=none:=by (first|(intro iw hiw;(try simp (maxSteps:=999999)(disch:=omega) only [go_sem] at hiw ⊢);(repeat (refine Eq.trans (if_neg ?_) ?_;(focus omega)));apply_assumption;omega)|fail))
  (wk:q→K (.tup []) (st.turn (aJ b (.fix (nK s m e (.own st.nx (n+2)))) (aJ st.nx (.arr 221 14 (n+2) (yw n w f (mC o t))) (dH k st.bx))) (st.nx+1)):=by (first|(intro h;first|(simp (maxSteps:=999999)(disch:=omega) only [go_sem];exact h)|exact h)|fail)) :
  dY Sg st 158 [.c (.ptr b 0),ag (cC o)] (Sl.of K):=by
 refine dS (Pi st.bx st.nx b k n w N f s m e o t hb hkb hbn hkn hbk hn hN hw0 hw1 hf) rfl (fun i hi => ?_) (by omega) (wk hk);unfold aJ dH;rw [if_neg (by omega),if_neg (by omega),if_neg (by omega)];exact hwf i (by omega)
theorem a0g {w:Nat}:∀ a,a<w→∀ j,j<6→PV.val (([.int .u16 0, .int .u16 0, .int .u16 0, .int .u16 0, .int .u16 0, .int .u16 0]:List Value).getD j undef)=rj dA Dc.acc a j:=fun a ha j hj=>by
 have hivl:j=0∨j=1∨j=2∨j=3∨j=4∨j=5:=by omega
 rcases hivl with rfl|rfl|rfl|rfl|rfl|rfl <;> rfl
theorem a0u {w:Nat}:∀ a,a<w→∀ j,j<5→PV.val (([.int .u16 0, .int .u16 0, .int .u16 0, .int .u16 0, .int .u16 0]:List Value).getD j undef)=rj aU Dc.back a j:=fun a ha j hj=>by
 have hivl:j=0∨j=1∨j=2∨j=3∨j=4:=by omega
 rcases hivl with rfl|rfl|rfl|rfl|rfl <;> rfl
theorem yC {w:Nat} {f:Nat→Nat→PV} {t:Fr} {rr:List Fr} {pp:Nat→Acc} (h:sD w f (t :: rr)):sD w (oY rr.length w f pp) (⟨t.op,pp,t.back⟩ :: rr):=by
 refine ⟨fun j hj => ?_,qK (fun a ha j => ?_) h.2⟩
 ·have h1:=h.1;unfold oY;rw [if_pos rfl];have hivl:j=0∨j=1∨j=2∨j=3∨j=4∨j=5∨j=6∨j=7∨j=8∨j=9∨j=10∨j=11∨j=12∨j=13:=by omega
  rcases hivl with rfl|rfl|rfl|rfl|rfl|rfl|rfl|rfl|rfl|rfl|rfl|rfl|rfl|rfl <;> first|rfl|exact h1 _ (by decide)
 ·unfold oY;rw [if_neg (by omega)]
theorem JM {w:Nat} {f:Nat→Nat→PV} {t t':Fr} {rr:List Fr} (h:sD w f (t :: rr)):sD w (yw rr.length w f t') (t' :: t :: rr):=by
 refine ⟨fun j hj => ?_,qK (fun a ha j => ?_) h⟩
 ·unfold yw;rw [List.length_cons,if_pos rfl];rfl
 ·unfold yw;rw [List.length_cons] at ha;rw [if_neg (by omega)]
theorem iR {k i:Nat} {bx:Nat→Option Bx} {x:Bx} (h:dH k bx i=some x):i≠k:=fun e=>by
 unfold dH at h;rw [if_pos e] at h;cases h
theorem gG {k i:Nat} {bx:Nat→Option Bx} {x:Bx} (h:dH k bx i=some x):bx i=some x:=by
 have e:=iR h;unfold dH at h;rw [if_neg e] at h;exact h
theorem uf {st : St} {l : List (Nat × SV)} {b k n N n0 nx : Nat} {s : Script} {m : Int} {e : PV} {f' : Nat → Nat → PV} {base : Nat → Option Bx} {kf : Nat → SV} (hkf : st.kf = kf) (hkl : ∀ s, (kf s).lt n0) (hn0 : n0 ≤ nx) (hbn : b < n0) (hkn : k < nx) (hkb : n0 ≤ k)
  (hbase:∀ i x,base i=some x→i<n0∧x.lt n0) (h1:st.bx b=some (.fix (nK s m e (.own k n)))) (h2:∃ f,st.bx k=some (.arr 221 14 N f)∧(f=f'∨∀ i,i<N→∀ j,j<14→PV.le (f i j) (f' i j)))
  (hoth:∀ i x,i≠b→i<n0→base i=some x→st.bx i=some x) (hfr:qV (rG nx []) st (aJ b (.fix (nK s m e (.own k n))) (aJ k (.arr 221 14 N f') base)) nx l) :
  Le st (wD l (aJ b (.fix (nK s m e (.own k n))) (aJ k (.arr 221 14 N f') base)) nx kf) :=
 let ⟨_,h2,hf⟩:=h2
 a9f (cs:=CF s m e) hkf hkl hn0 (by omega) (by omega) hkn (by omega) qu h1 h2 hf (fun i x e1 e2 hx=>by
  obtain ⟨q1,q2⟩:=hbase i x hx
  refine ⟨by omega,Bx.lt_mono hn0 q2,jO (by omega) (hoth i x e1 q1 hx) (wz (Bx.lt_mono hn0 q2))⟩) hfr
def xi (s:Script) (m:Int) (r:Rect) (x y:Int):Nat:=(jr s m r (zR s x y) s.ops.length).st.length+(jr s m r (zR s x y) s.ops.length).junk.length
def Xs (b:Nat) (x y:Int) (w:Nat) (s:Script) (r:Rect) (i:Int):List (Nat × SV):=[(0, .b (.c (.ptr b 0))),(1, .b (I x)),(2, .b (I y)),(3, .b (I w)),(4, .b (.c (.p (.lst 1 s.ops.length fun a _=>PB (lW s r a))))),(11, .b (I i))]
def CG (b k n N:Nat) (f:Nat→Nat→PV) (s:Script) (m:Int) (e:PV) (base:Nat→Option Bx):Nat→Option Bx:=aJ b (.fix (nK s m e (.own k n))) (aJ k (.arr 221 14 N f) base)
attribute [local go_sem] Xs CG
theorem QR (bx : Nat → Option Bx) (nx b k n0 N0 : Nat) (f0 : Nat → Nat → PV) (s : Script) (r : Rect) (m x y : Int) (w : Nat)
  (hb:bx b=some (.fix (nK s m (fL s.ops.length (aE s.ops)) (.own k n0)))) (hk:bx k=some (.arr 221 14 N0 f0)) (hbn:b<nx) (hkn:k<nx) (hbk:b≠k) (hn0:n0≤N0)
  (hw0:w≤1000) (hw1:0<w) (C:∀ j:Nat,j<w→Pt s m (x+j) y) (hr:aM r=false) (hin:∀ j:Nat,j<w→jo r (x+j) y) (hs:ScriptLen s) (hx : -1073741824≤x∧x≤1073741824) (hy : -1073741824≤y∧y≤1073741824) :
  lj Sg bx nx 105 [.c (.ptr b 0),I x,I y,I w, .c (.p (.lst 1 s.ops.length fun a _=>PB (lW s r a)))] (.b (.c (.p (wE w fun j=>ch s (x+j) y))))
   (aJ b (.fix (nK s m (fL s.ops.length (aE s.ops)) (.own nx 1))) (aJ nx (.arr 221 14 (xi s m r x y) (fun _ _ => .any)) (dH k bx))) (nx+1):=by
 have ht:True:=trivial;have C0:=C 0 hw1;have V:=C0.V;have W:=V.wf;have hm:=C0.hm;have hcnt:=V.cnt;have him:=V.imgs;generalize he:fL s.ops.length (aE s.ops)=e;rw [he] at hb;have eb:bx=aJ b (.fix (nK s m e (.own k n0))) (aJ k (.arr 221 14 N0 f0) bx):=by rw [← eL hk];exact eL hb
 refine vM Tryz.func105 rfl (rs:=[.tmp 10]) rfl rfl dI (by decide +kernel) (Nat.le_of_ble_eq_true rfl) ?_ (fun kf hkf hbl => ?_)
 ·intro v hv;simp only [List.mem_cons,List.not_mem_nil,or_false] at hv;rcases hv with rfl|rfl|rfl|rfl|rfl
  ·exact hbn
  ·trivial
  ·trivial
  ·trivial
  ·trivial
 have hw:∀ i,nx≤i→bx i=none:=fun i hi=>by
  cases h:bx i with
  | none=>rfl
  | some y=>exact absurd (hbl i y h).1 (by omega)
 have hbase:∀ i x,dH k bx i=some x→i<nx∧x.lt nx:=fun i x h=>by
  unfold dH at h;split at h
  ·cases h
  ·exact hbl i x h
 rw [eb];repeat' (refine an (fun K hK => ?_);and_intros;all_goals first|(refine hK _ ?_;clear hK K)|try exact ai)
 refine cM (id:=1) (.br 0 (.br 1 (.br 2 (.br 3 (.br 4 (.br 5 (.br 6 (.br 7 (.br 9 (.br 8 (.br 10 (.br 11 (.br 12 (.br 13 (.br 14 (.br 15 (.br 16 .leaf .nil) .nil) .nil) .nil) .nil) .nil) .nil) (.br 10 (.br 8 (.br 11 (.br 12 (.br 13 (.br 14 (.br 15 (.br 16 .leaf .nil) .nil) .nil) .nil) .nil) .nil) .nil) .nil)) .nil) .nil) .nil) .nil) .nil) .nil) .nil) .nil) .nil) (by decide +kernel) (by (first|(refine And.intro (fun iw hiw => ?_) ?_;(focus ((try simp (maxSteps:=999999)(disch:=omega) only [go_sem] at hiw ⊢);(repeat (refine Eq.trans (if_neg ?_) ?_;(focus omega)));(first|exact hw iw (by omega)|rfl)));(focus (first|exact Nat.zero_le _|(simp (maxSteps:=999999)(disch:=omega) only [go_sem];done)|(simp (maxSteps:=999999)(disch:=omega) only [go_sem];omega))))|exact IN)) (fun K0 hW => ?_);refine (fun (tl:∀ st,Le st (wD [(0, .b (.c (.ptr b 0))),(1, .b (I x)),(2, .b (I y)),(3, .b (I w)),(4, .b (.c (.p (.lst 1 s.ops.length fun a _=>PB (lW s r a)))))] (aJ b (.fix (nK s m e (.own (nx+3) 1))) (aJ (nx+3) (.arr 221 14 1 fun _ j=>(Vs w Dc).getD j .any) (dH k bx))) (nx+4) kf)→K0 st) => ?_) (fun st hl=>hW st _ hl ?_)
 ·clear hW;repeat' (first|exact bp|(refine bO (fun K' hK' => ?_) ?_)|(refine aZ (tl _ ?_);clear tl)|(simp (maxSteps:=999999)(disch:=omega) only [go_sem];and_intros;(all_goals first|(refine hK' _ ?_;clear hK' K')|trivial|omega|exact Nat.le_of_ble_eq_true rfl|exact ai|skip)))
  all_goals
   refine uf rfl hkf (by omega) hbn (by omega) (by omega) hbase ?_ ?_ (fun i x e1 e2 hx => ?_) ?_
   ·(first|(simp (maxSteps:=999999)(disch:=omega) only [go_sem];done)|(simp (maxSteps:=999999)(disch:=omega) only [go_sem];rfl))
   ·apply Exists.intro;refine And.intro ?_ (.inr fun a ha j hj => ?_)
    ·(first|(simp (maxSteps:=999999)(disch:=omega) only [go_sem];done)|(simp (maxSteps:=999999)(disch:=omega) only [go_sem];rfl))
    ·obtain rfl:a=0:=by omega
     unfold dV;rw [if_neg (Nat.not_lt_zero _)];have hivl:j=0∨j=1∨j=2∨j=3∨j=4∨j=5∨j=6∨j=7∨j=8∨j=9∨j=10∨j=11∨j=12∨j=13:=by omega
     rcases hivl with rfl|rfl|rfl|rfl|rfl|rfl|rfl|rfl|rfl|rfl|rfl|rfl|rfl|rfl <;> (first|exact PV.le_refl _|exact gX a0g|exact gX a0u)
   ·have e3:=iR hx;simp (maxSteps:=999999)(disch:=omega) only [go_sem];exact gG hx
   ·simp (maxSteps:=999999)(disch:=omega) only [go_sem]
    (first|done|(and_intros;all_goals first|omega|exact .inl rfl))
 clear hW;obtain ⟨q,hq⟩:∃ q,q=jr s m r (zR s x y):=⟨_,rfl⟩
 have hfin:∀ t',(q s.ops.length).st=[t']→(q s.ops.length).st.length+(q s.ops.length).junk.length=xi s m r x y:=fun t' _=>by rw [hq];rfl
 repeat' (first|refine bL ?_|(refine an (fun K hK => ?_);and_intros;all_goals first|(refine hK _ ?_;clear hK K)|try exact ai))
 refine aK (X:=Nat × Nat × (Nat→Nat→PV) × Nat) (fun z=>wD (Xs b x y w s r z.1) (CG b z.2.1 (q z.1).st.length ((q z.1).st.length+(q z.1).junk.length) z.2.2.1 s m e (dH k bx)) z.2.2.2 kf)
  (fun z=>z.1≤s.ops.length∧Reach s r z.1∧xJ s m x y w (q z.1) z.1∧sD w z.2.2.1 (q z.1).st∧(q z.1).st.length+(q z.1).junk.length≤1000∧nx≤z.2.1∧z.2.1<z.2.2.2) (fun z=>s.ops.length - z.1) (0,nx+3,fun _ j=>(Vs w Dc).getD j .any,nx+4) ?_ ?_ ?_
 ·subst hq;dsimp only;exact ⟨Nat.zero_le _,fun g hg=>(by cases hg),OA,⟨fun j hj=>rfl,trivial⟩,(by show 1+0≤1000;omega),by omega,by omega⟩
 ·subst hq;show Le _ (wD (Xs b x y w s r 0) (CG b (nx+3) 1 1 (fun _ j=>(Vs w Dc).getD j .any) s m e (dH k bx)) (nx+4) kf);refine uf rfl hkf (by omega) hbn (by omega) (by omega) hbase ?_ ?_ (fun i x e1 e2 hx => ?_) ?_
  ·(first|(simp (maxSteps:=999999)(disch:=omega) only [go_sem];done)|(simp (maxSteps:=999999)(disch:=omega) only [go_sem];rfl))
  ·apply Exists.intro;refine And.intro ?_ (.inl rfl)
   (first|(simp (maxSteps:=999999)(disch:=omega) only [go_sem];done)|(simp (maxSteps:=999999)(disch:=omega) only [go_sem];rfl))
  ·have e3:=iR hx;simp (maxSteps:=999999)(disch:=omega) only [go_sem];exact gG hx
  ·simp (maxSteps:=999999)(disch:=omega) only [go_sem]
   (first|done|(and_intros;all_goals first|omega|exact .inl rfl))
 rintro ⟨i,k1,f,n1⟩ ⟨hi,hR,hC,hH,hN,hk1,hk2⟩;dsimp only at hi hR hC hH hN hk1 hk2 ⊢;obtain ⟨st,jk,eq⟩:∃ st jk,q i=⟨st,jk⟩:=⟨_,_,rfl⟩
 rw [eq] at hC hH hN ⊢;obtain ⟨t,rr,rfl,hrl⟩:=WM hw1 C hi hC;simp only [List.length_cons] at hN ⊢;rcases Nat.lt_or_ge i s.ops.length with hlt|hge
 ·have g0:decide ((i:Int)<s.ops.length)=true:=decide_eq_true (by omega);have hqn:lW s r i=true→q (i+1)=qY m (zR s x y) ⟨t :: rr,jk⟩ (ah s.ops i):=fun ha=>by rw [hq,Hk ha,← hq,eq]
  by_cases hk3:(ah s.ops i).kind=3
  ·have hk3':(s.ops.getD i default).kind=3:=hk3;have ha:=DC W hlt hk3 hR;have hqn:=hqn ha;have hRn:=qj W hlt hR ha;have hCn:=DU hlt ha (by rw [← hq,eq];exact hC);rw [← hq] at hCn;obtain ⟨t',u,r',e',P,hv,hpv⟩:=a2v hw1 C hlt hk3 hC;cases e';simp only [List.length_cons] at hN hrl ⊢;have hres:=AZ w t.acc t.back m hm hw0 hv;have hz:(fun j:Nat=>aL m t.op (bU (t.acc j) (t.back j) m) (zR s x y j t.op).2)=fun j:Nat=>aL m t.op (bU (t.acc j) (t.back j) m) (kI s t.op x y j):=by
    funext j;rw [Dl P.mask]
   obtain ⟨g,hg⟩:∃ g:Nat→Pixel,g=fun j=>bU (t.acc j) (t.back j) m:=⟨_,rfl⟩
   have hp:∀ j,j<w→PixV (g j) m:=fun j hj=>by rw [hg];exact hpv j hj
   obtain ⟨pp,hpp⟩:∃ pp:Nat→Acc,pp=fun j=>bQ u.op.knockout t.op.operator t.op.mode m (aL m t.op (g j) (kI s t.op x y j)) (u.acc j) (u.back j):=⟨_,rfl⟩
   have hqn:q (i+1)=⟨⟨u.op,pp,u.back⟩ :: r',t :: jk⟩:=by
    rw [hqn];unfold qY;dsimp only;rw [if_neg (by omega),if_neg (by omega),hz,hpp,hg];rfl
   rw [hqn] at hCn;have hH1:=hH.1;have hos:[f (r'.length+1) 0,f (r'.length+1) 1,f (r'.length+1) 2,f (r'.length+1) 3,f (r'.length+1) 4,f (r'.length+1) 5,f (r'.length+1) 6,f (r'.length+1) 7,f (r'.length+1) 8,f (r'.length+1) 9,f (r'.length+1) 10,f (r'.length+1) 11]=cC t.op:=by
    rw [show f (r'.length+1) 0=_ from hH1 0 (by decide),show f (r'.length+1) 1=_ from hH1 1 (by decide),show f (r'.length+1) 2=_ from hH1 2 (by decide),show f (r'.length+1) 3=_ from hH1 3 (by decide),show f (r'.length+1) 4=_ from hH1 4 (by decide),show f (r'.length+1) 5=_ from hH1 5 (by decide),show f (r'.length+1) 6=_ from hH1 6 (by decide),show f (r'.length+1) 7=_ from hH1 7 (by decide),show f (r'.length+1) 8=_ from hH1 8 (by decide),show f (r'.length+1) 9=_ from hH1 9 (by decide),show f (r'.length+1) 10=_ from hH1 10 (by decide),show f (r'.length+1) 11=_ from hH1 11 (by decide)];rfl
   have hres:aB Sg 156 [.c (.p (f (r'.length+1) 12)), .c (.p (f (r'.length+1) 13)),U m] (fun r=>r = .tup [.c (.p (wE w g)),B true]):=by
    rw [show f (r'.length+1) 12=_ from hH1 12 (by decide),show f (r'.length+1) 13=_ from hH1 13 (by decide),hg];exact hres
   repeat' (first|((first|apply iL|apply pN);(case hc=>exact du);(case ht=>(simp only [Int.toNat_natCast,Int.reduceBEq,Int.reduceBNe,Int.reduceLT,Int.reduceLE,decide_true,decide_false,ur,g0,hk3'];done)))|(((with_reducible refine bT (id:=8) [(84,2)] (by decide +kernel) (by decide +kernel) ?_ (fun K hK => ?_));(first|(refine And.intro (fun iw hiw => ?_) ?_;(focus ((try simp (maxSteps:=999999)(disch:=omega) only [go_sem] at hiw ⊢);(repeat (refine Eq.trans (if_neg ?_) ?_;(focus omega)));(first|exact hw iw (by omega)|rfl)));(focus (first|exact Nat.zero_le _|(simp (maxSteps:=999999)(disch:=omega) only [go_sem];done)|(simp (maxSteps:=999999)(disch:=omega) only [go_sem];omega))))|exact IN));(try simp (maxSteps:=999999)(disch:=omega) only [go_sem]);and_intros;(all_goals first|(refine hK _ (by simp (maxSteps:=999999)(disch:=omega) only [go_sem]) ?_;clear hK K)|exact ai|skip))|refine bL ?_|((first|refine an (fun K hK => ?_)|refine aa (hres) ?_|refine yr b k1 r'.length w (r'.length+1+1+jk.length) f s m e t.op g x y u (by omega) (by omega) hN hw0 hw1 hH.2.1 hm P (by omega) hx hy hp hos ?_);and_intros;all_goals first|(refine hK _ ?_;clear hK K)|try exact ai))
   rw [← hpp,ae];refine ao (i+1,k1,oY r'.length w f pp,n1) ?_ ?_ (by dsimp only;omega)
   ·dsimp only;rw [hqn,show ((⟨u.op,pp,u.back⟩:Fr) :: r').length+(t :: jk).length=r'.length+1+1+jk.length by simp only [List.length_cons];omega];refine uf rfl hkf (by omega) hbn (by omega) (by omega) hbase ?_ ?_ (fun i x e1 e2 hx => ?_) ?_
    ·(first|(simp (maxSteps:=999999)(disch:=omega) only [go_sem];done)|(simp (maxSteps:=999999)(disch:=omega) only [go_sem];rfl))
    ·apply Exists.intro;refine And.intro ?_ (.inl rfl)
     (first|(simp (maxSteps:=999999)(disch:=omega) only [go_sem];done)|(simp (maxSteps:=999999)(disch:=omega) only [go_sem];rfl))
    ·have e3:=iR hx;simp (maxSteps:=999999)(disch:=omega) only [go_sem];exact gG hx
    ·simp (maxSteps:=999999)(disch:=omega) only [go_sem]
     (first|done|(and_intros;all_goals first|omega|exact .inl rfl))
   ·dsimp only;rw [hqn];exact ⟨by omega,hRn,hCn,yC hH.2,(by simp only [List.length_cons];omega),hk1,hk2⟩
  cases ha:lW s r i with
  | false =>
   have hk3':((s.ops.getD i default).kind == 3)=false:=beq_eq_false_iff_ne.2 hk3;have hn:kn s r i=false:=by rw [← vn hR];exact ha
   obtain ⟨q1,q2,q3,q4⟩:=AJ (m:=m) (z:=zR s x y) W hlt hk3 hR hn;have hCs:=Ov C hr hin W hlt hk3 hR hn (by rw [← hq,eq];exact hC);rw [← hq] at q4 hCs;rw [eq] at q4;rw [q4] at hCs;subst he;repeat' (first|((first|apply iL|apply pN);(case hc=>exact du);(case ht=>(simp only [Int.toNat_natCast,Int.reduceBEq,Int.reduceBNe,Int.reduceLT,Int.reduceLE,decide_true,decide_false,ur,g0,ha,hk3'];done)))|(apply ph;(case hc=>exact du);(case ht=>(simp only [Int.toNat_natCast,Int.reduceBEq,Int.reduceBNe,Int.reduceLT,Int.reduceLE,decide_true,decide_false,ur,g0,ha,hk3'];done)))|refine bL ?_|(refine an (fun K hK => ?_);and_intros;all_goals first|(refine hK _ ?_;clear hK K)|try exact ai))
   rw [ae];refine ao (aE s.ops i+1,k1,f,n1) ?_ ?_ (by dsimp only;omega)
   ·dsimp only;rw [q4];refine uf rfl hkf (by omega) hbn (by omega) (by omega) hbase ?_ ?_ (fun i x e1 e2 hx => ?_) ?_
    ·(first|(simp (maxSteps:=999999)(disch:=omega) only [go_sem];done)|(simp (maxSteps:=999999)(disch:=omega) only [go_sem];rfl))
    ·apply Exists.intro;refine And.intro ?_ (.inl rfl)
     (first|(simp (maxSteps:=999999)(disch:=omega) only [go_sem];done)|(simp (maxSteps:=999999)(disch:=omega) only [go_sem];rfl))
    ·have e3:=iR hx;simp (maxSteps:=999999)(disch:=omega) only [go_sem];exact gG hx
    ·simp (maxSteps:=999999)(disch:=omega) only [go_sem]
     (first|done|(and_intros;all_goals first|omega|exact .inl rfl))
   ·dsimp only;rw [q4];exact ⟨by omega,q3,hCs,hH,(by simp only [List.length_cons];omega),hk1,hk2⟩
  | true =>
   have hqn:=hqn ha;have hRn:=qj W hlt hR ha;have hCn:=DU hlt ha (by rw [← hq,eq];exact hC);rw [← hq] at hCn;rcases W.kinds i hlt with hk|hk|hk
   ·have hk2':(s.ops.getD i default).kind=1:=hk;obtain ⟨P,hi1,hi2⟩:=Wh hw1 C hlt hk hC;have px:=P.ox;have py:=P.oy;have hpx:=Ca s m e .any (ah s.ops i).image.toNat w (x - (ah s.ops i).x) (y - (ah s.ops i).y) (by omega) (by omega) hw0 (by omega);rw [show (((ah s.ops i).image.toNat:Nat):Int)=(ah s.ops i).image by omega] at hpx;have hp:=fun j=>Iu hm C0.mx C0.im (ah s.ops i).image.toNat (x - (ah s.ops i).x+(j:Nat)) (y - (ah s.ops i).y)
    have hz:(fun j:Nat=>aL m (ah s.ops i) (zR s x y j (ah s.ops i)).1 (zR s x y j (ah s.ops i)).2)=fun j:Nat=>aL m (ah s.ops i) (dN (s.images.getD (ah s.ops i).image.toNat default) (x - (ah s.ops i).x+j) (y - (ah s.ops i).y)) (kI s (ah s.ops i) x y j):=by
     funext j;rw [XM hk ⟨hi1,hi2⟩,Dl P.mask]
    have hqn:q (i+1)=⟨Gn m (ah s.ops i) (fun j:Nat=>aL m (ah s.ops i) (dN (s.images.getD (ah s.ops i).image.toNat default) (x - (ah s.ops i).x+j) (y - (ah s.ops i).y)) (kI s (ah s.ops i) x y j)) t :: rr,jk⟩:=by
     rw [hqn,← hz];unfold qY;dsimp only;rw [if_pos hk]
    generalize hg:(fun j:Nat=>dN (s.images.getD (ah s.ops i).image.toNat default) (x - (ah s.ops i).x+j) (y - (ah s.ops i).y))=g at hpx;have hp:∀ j,j<w→PixV (g j) m:=fun j _=>by rw [← hg];exact hp j
    have hqn:q (i+1)=⟨Gn m (ah s.ops i) (fun j:Nat=>aL m (ah s.ops i) (g j) (kI s (ah s.ops i) x y j)) t :: rr,jk⟩:=by rw [hqn,← hg]
    clear hz hg;unfold ah at P hpx hqn px py;obtain ⟨pp,hpp⟩:∃ pp:Nat→Acc,pp=fun j=>bQ t.op.knockout (s.ops.getD i default).operator (s.ops.getD i default).mode m (aL m (s.ops.getD i default) (g j) (kI s (s.ops.getD i default) x y j)) (t.acc j) (t.back j):=⟨_,rfl⟩
    have hqn:q (i+1)=⟨⟨t.op,pp,t.back⟩ :: rr,jk⟩:=by rw [hqn,hpp];rfl
    rw [hqn] at hCn;repeat' (first|((first|apply iL|apply pN);(case hc=>exact du);(case ht=>(simp only [Int.toNat_natCast,Int.reduceBEq,Int.reduceBNe,Int.reduceLT,Int.reduceLE,decide_true,decide_false,ur,g0,hk2',ha];done)))|(apply ph;(case hc=>exact du);(case ht=>(simp only [Int.toNat_natCast,Int.reduceBEq,Int.reduceBNe,Int.reduceLT,Int.reduceLE,decide_true,decide_false,ur,g0,hk2',ha];done)))|refine bL ?_|(refine an (fun K hK => ?_);and_intros;all_goals first|(refine hK _ ?_;clear hK K)|try exact ai))
    refine nc (id:=6) (.br 0 (.br 2 (.br 3 (.br 4 (.br 5 (.br 6 (.br 7 (.br 8 (.br 9 (.br 10 (.br 11 (.br 12 (.br 13 (.br 15 (.br 16 (.br 1 (.br 14 (.br 17 .leaf .nil) .nil) (.br 14 (.br 1 (.br 17 .leaf .nil) .nil) .nil)) .nil) .nil) .nil) .nil) .nil) .nil) .nil) .nil) .nil) .nil) .nil) .nil) .nil) .nil) .nil) (by decide +kernel) ?_ (fun K0 hW => ?_)
    ·refine ⟨?_,Nat.zero_le _⟩;intro iw hiw
     (try simp (maxSteps:=999999)(disch:=omega) only [go_sem] at hiw ⊢)
     (repeat (refine Eq.trans (if_neg ?_) ?_;(focus omega)))
     exact hw iw (by omega)
    replace hW:=ka hW;repeat' (first|exact bp|(refine bO (fun K' hK' => ?_) ?_)|(refine aZ (hW _ ?_);clear hW)|((first|refine Mk (hpx) ?_|refine yr b k1 rr.length w (rr.length+1+jk.length) f s m e (s.ops.getD i default) g x y t (by omega) (by omega) hN hw0 hw1 hH.1 hm P (by omega) hx hy hp rfl ?_);(try simp (maxSteps:=999999)(disch:=omega) only [go_sem]);and_intros;(all_goals first|(refine hK' _ ?_;clear hK' K')|trivial|omega|exact Nat.le_of_ble_eq_true rfl|exact ai|skip))|(simp (maxSteps:=999999)(disch:=omega) only [go_sem];and_intros;(all_goals first|(refine hK' _ ?_;clear hK' K')|trivial|omega|exact Nat.le_of_ble_eq_true rfl|exact ai|skip)))
    all_goals
     refine gi ?_;rw [← hpp];refine .inl ⟨wD (Xs b x y w s r i) (CG b k1 (rr.length+1) (rr.length+1+jk.length) (oY rr.length w f pp) s m e (dH k bx)) n1 kf, ?_, ?_⟩
     ·refine uf rfl hkf (by omega) hbn (by omega) (by omega) hbase ?_ ?_ (fun i x e1 e2 hx => ?_) ?_
      ·(first|(simp (maxSteps:=999999)(disch:=omega) only [go_sem];done)|(simp (maxSteps:=999999)(disch:=omega) only [go_sem];rfl))
      ·apply Exists.intro;refine And.intro ?_ (.inl rfl)
       (first|(simp (maxSteps:=999999)(disch:=omega) only [go_sem];done)|(simp (maxSteps:=999999)(disch:=omega) only [go_sem];rfl))
      ·have e3:=iR hx;simp (maxSteps:=999999)(disch:=omega) only [go_sem];exact gG hx
      ·simp (maxSteps:=999999)(disch:=omega) only [go_sem]
       (first|done|(and_intros;all_goals first|omega|exact .inl rfl))
     repeat' (refine an (fun K hK => ?_);and_intros;all_goals first|(refine hK _ ?_;clear hK K)|try exact ai)
     rw [ae];refine ao (i+1,k1,oY rr.length w f pp,n1) ?_ ?_ (by dsimp only;omega)
     ·dsimp only;rw [hqn];refine uf rfl hkf (by omega) hbn (by omega) (by omega) hbase ?_ ?_ (fun i x e1 e2 hx => ?_) ?_
      ·(first|(simp (maxSteps:=999999)(disch:=omega) only [go_sem];done)|(simp (maxSteps:=999999)(disch:=omega) only [go_sem];rfl))
      ·apply Exists.intro;refine And.intro ?_ (.inl rfl)
       (first|(simp (maxSteps:=999999)(disch:=omega) only [go_sem];done)|(simp (maxSteps:=999999)(disch:=omega) only [go_sem];rfl))
      ·have e3:=iR hx;simp (maxSteps:=999999)(disch:=omega) only [go_sem];exact gG hx
      ·simp (maxSteps:=999999)(disch:=omega) only [go_sem]
       (first|done|(and_intros;all_goals first|omega|exact .inl rfl))
     ·dsimp only;rw [hqn];exact ⟨by omega,hRn,hCn,yC hH,(by simp only [List.length_cons];omega),hk1,hk2⟩
   ·have hk2':(s.ops.getD i default).kind=2:=hk;obtain ⟨t',r',e',hd⟩:=XJ hw1 C hlt hk hC;cases e';have hqn:q (i+1)=⟨mC (s.ops.getD i default) t :: t :: rr,[]⟩:=by
     rw [hqn];unfold qY;dsimp only;rw [if_neg (by omega),if_pos hk];rfl
    rw [hqn] at hCn;repeat' (first|((first|apply iL|apply pN);(case hc=>exact du);(case ht=>(simp only [Int.toNat_natCast,Int.reduceBEq,Int.reduceBNe,Int.reduceLT,Int.reduceLE,decide_true,decide_false,ur,g0,hk2',ha];done)))|(apply ph;(case hc=>exact du);(case ht=>(simp only [Int.toNat_natCast,Int.reduceBEq,Int.reduceBNe,Int.reduceLT,Int.reduceLE,decide_true,decide_false,ur,g0,hk2',ha];done)))|refine bL ?_|((first|refine an (fun K hK => ?_)|refine Ls b k1 rr.length w (rr.length+1+jk.length) f s m e (s.ops.getD i default) t (by omega) (by omega) hN hw0 hw1 hH.1 ?_);and_intros;all_goals first|(refine hK _ ?_;clear hK K)|try exact ai))
    rw [ae];refine ao (i+1,n1+1,yw rr.length w f (mC (s.ops.getD i default) t),n1+2) ?_ ?_ (by dsimp only;omega)
    ·dsimp only;rw [hqn];refine uf rfl hkf (by omega) hbn (by omega) (by omega) hbase ?_ ?_ (fun i x e1 e2 hx => ?_) ?_
     ·(first|(simp (maxSteps:=999999)(disch:=omega) only [go_sem];done)|(simp (maxSteps:=999999)(disch:=omega) only [go_sem];rfl))
     ·apply Exists.intro;refine And.intro ?_ (.inl rfl)
      (first|(simp (maxSteps:=999999)(disch:=omega) only [go_sem];done)|(simp (maxSteps:=999999)(disch:=omega) only [go_sem];rfl))
     ·have e3:=iR hx;simp (maxSteps:=999999)(disch:=omega) only [go_sem];exact gG hx
     ·simp (maxSteps:=999999)(disch:=omega) only [go_sem]
      (first|done|(and_intros;all_goals first|omega|exact .inl rfl))
    ·dsimp only;rw [hqn];exact ⟨by omega,hRn,hCn,JM hH,(by simp only [List.length_cons,List.length_nil];omega),by omega,by omega⟩
   ·exact absurd hk hk3
 ·have g0:decide ((i:Int)<s.ops.length)=false:=decide_eq_false (by omega);obtain rfl:i=s.ops.length:=by omega
  obtain ⟨t',et,hv⟩:=Rm hw1 C hC;cases et;have hres:=AZ w t.acc t.back m hm hw0 (fun j hj=>(hv j hj).1);have hH1:=hH.1;have hres:aB Sg 156 [.c (.p (f 0 12)), .c (.p (f 0 13)),U m] (fun r=>r = .tup [.c (.p (wE w fun k=>bU (t.acc k) (t.back k) m)),B true]):=by
   rw [show f 0 12=_ from hH1 12 (by decide),show f 0 13=_ from hH1 13 (by decide)];exact hres
  have hNe:xi s m r x y=0+1+jk.length:=by unfold xi;rw [← hq,eq];rfl
  rw [hNe];simp only [List.length_nil] at hN ⊢;repeat' (first|refine aj g0 ?_|refine bL ?_|((first|refine an (fun K hK => ?_)|refine aa (hres) ?_);and_intros;all_goals first|(refine hK _ ?_;clear hK K)|try exact ai)|(refine bF ?_;(try clear hB KB);(try clear hK K)))
  refine ⟨_,QV (l:=[(10, .b (.c (.p (wE w fun j=>ch s (x+j) y))))]) (b:=b) (q:=k1) (n:=1) (T:=221) (sz:=14) (N:=1+jk.length) (cs:=CF s m e) (f := ?ff) (f':=fun _ _ => .any) (base:=dH k (aJ b (.fix (nK s m e (.own k n0))) (aJ k (.arr 221 14 N0 f0) bx))) rfl hkf hbn hk1 qu ?h1 ?h2 (.inr fun _ _ _ _ _ _ _ _=>trivial) ?h4 ?h5,⟨trivial,trivial⟩,rfl,fun i y h=>h,rfl,rfl,trivial⟩
  case h1=>(first|(simp (maxSteps:=999999)(disch:=omega) only [go_sem];done)|(simp (maxSteps:=999999)(disch:=omega) only [go_sem];rfl))
  case h2=>(first|(simp (maxSteps:=999999)(disch:=omega) only [go_sem];done)|(simp (maxSteps:=999999)(disch:=omega) only [go_sem];rfl))
  case h4 =>
   intro i x e1 hx;have hx:dH k bx i=some x:=by rw [← eb] at hx;exact hx
   obtain ⟨q1,q2⟩:=hbase i x hx;have e3:=iR hx;refine ⟨q1,q2, ?_⟩;simp (maxSteps:=999999)(disch:=omega) only [go_sem];exact gG hx
  case h5 =>
   simp (maxSteps:=999999)(disch:=omega) only [go_sem];refine .inr (gX fun a ha j hj => ?_);exact congrArg (fun p:Pixel=>(aU p).getD j .any) (hv a ha).2
end Go.Proofs.YtdjmpacladhijaaGreatDoor
