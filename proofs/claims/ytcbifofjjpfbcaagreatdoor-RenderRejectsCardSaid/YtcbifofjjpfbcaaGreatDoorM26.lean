/- Part of the proof: VA. -/
import Derived.Test.YtcbifofjjpfbcaaGreatDoorM23
set_option linter.unusedSimpArgs false
set_option linter.unusedVariables false
set_option maxHeartbeats 8000000
set_option maxRecDepth 16000
namespace Go.Proofs.YtcbifofjjpfbcaaGreatDoor
open Go Go.SL
open Go.RowKit (wrap64)
attribute [local go_sem] cO LL fX Int.toNat_natCast
theorem Wq {l:List (Nat × SV)} {b:List (Nat × Bx)} {nx:Nat} (h:((b.map (·.1)).all fun i=>Nat.blt i nx)=true):iT 0 (aT l b nx):=⟨fun i hi=>by
 have hi:nx≤i:=hi;show js b i=none;cases hx:js b i with
 | none=>rfl
 | some x =>
  have:=List.all_eq_true.1 h i (List.mem_map.2 ⟨_,jI hx,rfl⟩);have:=Nat.le_of_ble_eq_true this
  omega,Nat.zero_le _⟩
theorem QK {st:St} {id:Nat} {x:Bx} (hid:id<st.nx) (h:iT 0 st):iT 0 (st.setBox id x):=⟨fun i hi=>by
 have hi:st.nx≤i:=hi;show (if i=id then some x else st.bx i)=none;rw [if_neg (by omega)]
 exact h.1 i hi,Nat.zero_le _⟩
theorem QD {n:Nat} {g g':Nat→PV} (h:∀ j,j<n→PV.le (g j) (g' j)):VP (.c (.ipt n g 0)) (.c (.ipt n g' 0)) :=
 ⟨trivial,fun ok w u ⟨b,o,h1,h2,h3⟩=>⟨b,o,h1,h2,fun j hj=>by
  obtain ⟨x,q1,q2,q3⟩:=h3 j hj
  exact ⟨x,q1,q2,h j hj _ _ _ q3⟩⟩⟩
def Ha (f:Nat→Nat→PV):List Lv→Prop
 | []=>True
 | t :: r=>jE (f r.length) t∧Ha f r
theorem lH {f g:Nat→Nat→PV}:∀ {st:List Lv},(∀ i,i<st.length→∀ j,g i j=f i j)→Ha f st→Ha g st
 | [],_,_=>trivial
 | t :: r,h,⟨h1,h2⟩=>⟨fun j hj=>by rw [h r.length (by simp) j];exact h1 j hj,lH (fun i hi j=>h i (by simp;omega) j) h2⟩
theorem Nn {st : St} {K : SV → St → Prop} (m : Int) (hm : Full m) (hw : ∀ i, st.nx ≤ i → st.bx i = none)
  (hK:∀ F:Nat→Nat→PV,jE (F 0) base→K (.tup [.c (.ptr (st.nx+1) 0),I 0]) (st.turn (aJ (st.nx+1) (.fix [.p (PU m), .own st.nx 1]) (aJ st.nx (.arr 206 23 1 F) st.bx)) (st.nx+2))) :
  en Sg st 137 [U m] (Sl.of K):=by
 obtain ⟨F,h1,hI⟩:=Pa st.bx st.nx m hm hw;refine eT hI rfl (fun i hi => ?_) (by omega) (hK F h1);unfold aJ;rw [if_neg (by omega),if_neg (by omega)];exact hw i (by omega)
theorem IK {st : St} {K : SV → St → Prop} (b k n : Nat) (f : Nat → Nat → PV) (m : Int) (o : Op) (p : Pixel) (ms : Int) (t : Lv)
  (hb:st.bx b=some (.fix [.p (PU m), .own k (n+1)])) (hk:st.bx k=some (.arr 206 23 (n+1) f)) (hbn:b<st.nx) (hkn:k<st.nx) (hbk:b≠k) (hn:n≤1000) (hf:jE (f n) t)
  (hm:Full m) (hkd:o.kind=1) (ho:1≤o.operator∧o.operator≤12) (hmo:1≤o.mode∧o.mode≤12) (hop:0≤o.opacity∧o.opacity≤m) (hp:PixV p m) (hms:0≤ms∧ms≤m) (hv:AccV t.acc t.back m) (hko:t.op.knockout=true→o.operator=4) (hw:∀ i,st.nx≤i→st.bx i=none)
  (hK:K (.tup [ag (aS (aM m o p ms)),I 0]) (st.turn (aJ k (.arr 206 23 (n+1) (nu n f (cT t.op.knockout o.operator o.mode m (aM m o p ms) t.acc t.back))) st.bx) (st.nx+7))) :
  en Sg st 142 [.c (.ptr b 0),ag (fZ o),ag (aS p),U ms] (Sl.of K):=by
 refine eT (Kz st.bx st.nx b k n f m o p ms t hb hk hbn hkn hbk hn hf hm hkd ho hmo hop hp hms hv hko hw) rfl (fun i hi => ?_) (by omega) hK;unfold aJ;rw [if_neg (by omega)];exact hw i (by omega)
theorem Hu {st : St} {K : SV → St → Prop} (b k n : Nat) (f : Nat → Nat → PV) (m : Int) (o : Op) (t : Lv)
  (hb:st.bx b=some (.fix [.p (PU m), .own k (n+1)])) (hk:st.bx k=some (.arr 206 23 (n+1) f)) (hbn:b<st.nx) (hkn:k<st.nx) (hbk:b≠k) (hn:n<64) (hf:jE (f n) t) (hkd:o.kind=2) (hw:∀ i,st.nx≤i→st.bx i=none)
  (hK:∀ F:Nat→Nat→PV,jE (F (n+1)) (ma o t)→(∀ i,i<n+1→∀ j,F i j=f i j)→K (.b (I 0)) (st.turn (aJ b (.fix [.p (PU m), .own (st.nx+6) (n+2)]) (aJ (st.nx+6) (.arr 206 23 (n+2) F) st.bx)) (st.nx+7))) :
  en Sg st 143 [.c (.ptr b 0),ag (fZ o)] (Sl.of K):=by
 obtain ⟨F,⟨h1,h2⟩,hI⟩:=Mp st.bx st.nx b k n f m o t hb hk hbn hkn hbk hn hf hkd hw;refine eT hI rfl (fun i hi => ?_) (by omega) (hK F h1 h2);unfold aJ;rw [if_neg (by omega),if_neg (by omega)];exact hw i (by omega)
theorem MX {st : St} {K : SV → St → Prop} (b k n : Nat) (f : Nat → Nat → PV) (m ms : Int) (t u : Lv)
  (hb:st.bx b=some (.fix [.p (PU m), .own k (n+2)])) (hk:st.bx k=some (.arr 206 23 (n+2) f)) (hbn:b<st.nx) (hkn:k<st.nx) (hbk:b≠k) (hn:n<64) (hf:jE (f (n+1)) t) (hf2:jE (f n) u)
  (hm:Full m) (ho:1≤t.op.operator∧t.op.operator≤12) (hmo:1≤t.op.mode∧t.op.mode≤12) (hop:0≤t.op.opacity∧t.op.opacity≤m) (hms:0≤ms∧ms≤m) (hv:AccV t.acc t.back m) (hv2:AccV u.acc u.back m) (hko:u.op.knockout=true→t.op.operator=4) (hw:∀ i,st.nx≤i→st.bx i=none)
  (hK:∀ F:Nat→Nat→PV,jE (F n) (oF m t.op (aM m t.op (bI t.acc t.back m) ms) u)→(∀ i,i<n→∀ j,F i j=f i j) →
   K (.tup [ag (aS (aM m t.op (bI t.acc t.back m) ms)),I 0]) (st.turn (aJ b (.fix [.p (PU m), .own (st.nx+4) (n+1)]) (aJ (st.nx+4) (.arr 206 23 (n+1) F) st.bx)) (st.nx+9))) :
  en Sg st 147 [.c (.ptr b 0),U ms] (Sl.of K):=by
 obtain ⟨F,⟨h1,h2⟩,hI⟩:=Qa st.bx st.nx b k n f m ms t u hb hk hbn hkn hbk hn hf hf2 hm ho hmo hop hms hv hv2 hko hw;refine eT hI rfl (fun i hi => ?_) (by omega) (hK F h1 h2);unfold aJ;rw [if_neg (by omega),if_neg (by omega)];exact hw i (by omega)
theorem rU {st : St} {K : SV → St → Prop} (id n : Nat) (i m ms : Int) (o : Op) (p : Pixel) (hid : ∃ g, st.bx id = some (.arr 116 18 n g)) (hlt : id < st.nx) (hn : n ≤ 100000)
  (hm:Full m) (hop:0≤o.opacity∧o.opacity≤m) (hp:PixV p m) (hms:0≤ms∧ms≤m) (hw:∀ i,st.nx≤i→st.bx i=none)
  (hK0:o.mask=0→∀ G:Nat→Nat→PV,K (.tup [.c (.own (st.nx+5) (n+1)),ag (aS (aM m o p ms))]) (st.turn (aJ (st.nx+5) (.arr 116 18 (n+1) G) (dr id st.bx)) (st.nx+6)))
  (hK1:o.mask≠0→∀ G:Nat→Nat→PV,K (.tup [.c (.own (st.nx+8) (n+2)),ag (aS (aM m o p ms))]) (st.turn (aJ (st.nx+8) (.arr 116 18 (n+2) G) (dr id st.bx)) (st.nx+9))) :
  en Sg st 139 [.c (.own id n),I i,ag (fZ o),ag (aS p),U ms,U m] (Sl.of K):=by
 obtain ⟨g,hid⟩:=hid;by_cases h:o.mask=0
 ·obtain ⟨G,hI⟩:=AR st.bx st.nx id n g i m ms o p hid hlt hn hm h hop hp hw;refine eT hI rfl (fun i hi => ?_) (by omega) (hK0 h G);unfold aJ dr;rw [if_neg (by omega),if_neg (by omega)];exact hw i (by omega)
 ·obtain ⟨G,hI⟩:=AX st.bx st.nx id n g i m ms o p hid hlt hn hm h hop hp hms hw;refine eT hI rfl (fun i hi => ?_) (by omega) (hK1 h G);unfold aJ dr;rw [if_neg (by omega),if_neg (by omega)];exact hw i (by omega)
theorem MP {s:Script} (V:VOps s) {i:Nat} (hi:i≤s.ops.length):(bZ s.ops i).length≤64:=by
 cases hs:bZ s.ops i with
 | nil=>simp
 | cons g r =>
  have hg:g<i:=fg (ops:=s.ops) (by rw [hs];exact List.mem_cons_self ..);have hk:(aB s.ops g).kind=2:=il (i:=i) (by rw [hs];exact List.mem_cons_self ..);obtain ⟨_,_,_,q⟩:=ee.1 (V.ok g (by omega));obtain ⟨_,_,_,_,_,_,q7⟩:=q (by omega);have h7:=q7 hk;have e:bZ s.ops g=r:=lR (l:=[]) hs;rw [List.length_map,List.length_reverse,e] at h7;rw [List.length_cons];omega
def Gx (m:Int) (t:Lv):BV:=HD m 1 (fun _ j=>(LL t).getD j .any)
theorem PX (s : Script) (x y m : Int) (C : Pt s m x y) (hs : ScriptLen s) (hx : i64 x) (hy : i64 y) :
  aA Sg 103 [ag (aF s),I x,I y] (fun r=>r = .tup [.c (.p .any),Gx m ((jP m (cY s x y) s.ops s.ops.length).headD base)]):=by
 have V:=C.V;have W:=V.wf;have hm:=C.hm;have hmx:aA Sg 14 [I s.bits] (fun x=>x = .tup [U m,B (decide (s.bits=8∨s.bits=16))]):=by
  have:=iQ s.bits;rw [show (if s.bits=8 then (255:Int) else if s.bits=16 then 65535 else 0)=bg s.bits from rfl,C.mx] at this;exact this
 have hcnt:=V.cnt;have ht:True:=trivial;refine dY ?_;refine Bv Tryz.func103 rfl (rs:=[.tmp 6, .tmp 7]) rfl rfl fG (by decide +kernel) (Nat.le_of_ble_eq_true rfl) (bS bG) ?_;repeat' (first|refine an (fun K hK => ?_)|refine aa (hmx) ?_|(refine aq hK ?_;try clear hK K))
 refine Nn m hm ?_ (fun F0 hF0 => ?_)
 ·intro iw hiw;simp (maxSteps:=999999)(disch:=omega) only [go_sem] at hiw ⊢;refine Eq.trans (if_neg ?_) rfl;omega
 refine dz ?_;refine hK _ ?_;clear hK;repeat' (refine aC ?_)
 have e0:jP m (cY s x y) s.ops 0=[base]:=by
  unfold jP mJ;rw [List.take_zero,List.foldl_nil]
 refine aH (X:=Nat × Nat × (Nat→Nat→PV) × (Nat→Nat→PV)) (fun z=>aT [(1, .b (I x)),(2, .b (I y)),(3, .b (.c (.ptr 0 0))),(8, .b (U m)),(10, .b (.c (.ptr 1 0))),(12, .b (.c (.own 3 z.2.1))),(13, .b (I z.1))]
  [(0, .fix ((aF s).map CV.p)),(1, .fix [.p (PU m), .own 2 ((bZ s.ops z.1).length+1)]),(2, .arr 206 23 ((bZ s.ops z.1).length+1) z.2.2.1),(3, .arr 116 18 z.2.1 z.2.2.2)] 4)
  (fun z=>z.1≤s.ops.length∧z.2.1≤4 * z.1∧Ha z.2.2.1 (jP m (cY s x y) s.ops z.1)) (fun z=>s.ops.length - z.1) (0,0,F0,fun _ _ => .any) ?_ ?_ ?_
 ·refine ⟨Nat.zero_le _,Nat.zero_le _, ?_⟩;rw [e0];exact ⟨hF0,trivial⟩
 ·refine au [(1,some 2),(2,some 1),(3,none)] ?_ ?_;and_intros;all_goals try exact aj
 rintro ⟨i,nl,f,gl⟩ ⟨hi,hnl,hh⟩;dsimp only at hi hnl hh ⊢;have ha:=EW C i hi;obtain ⟨t,r,e⟩:=ha.ne;rw [e] at ha hh;have hlen:(bZ s.ops i).length=r.length:=by
  have:=congrArg List.length ha.o;simp only [List.length_map,List.length_cons,List.length_append,List.length_nil] at this;omega
 have hf:jE (f (bZ s.ops i).length) t:=by rw [hlen];exact hh.1
 have hst:=MP V hi;rcases Nat.lt_or_ge i s.ops.length with hlt|hge
 ·rcases W.kinds i hlt with hk|hk|hk
  ·have hk2:(s.ops.getD i default).kind=1:=hk;have hfit:=ha.fit C hlt (by omega);obtain ⟨b0,b1,b2,⟨b3,b3'⟩,⟨b4,b4'⟩,⟨b5,b5'⟩,b6,b6'⟩:=sL C hlt (by omega);have hz:=C.z;obtain ⟨q1,q2,q3,q4⟩:=ee.1 (V.ok i hlt);obtain ⟨_,_,_,q5,q6,_⟩:=q4 (by omega);simp only [ji,decide_eq_true_eq] at q5 q6;have hsm:=zu s (aB s.ops i) x y hs hx hy ⟨by omega,by omega⟩ ⟨by omega,by omega⟩ ⟨by omega,by omega⟩ ⟨by omega,by omega⟩;have hp:=hz.p (aB s.ops i);have hk0:=hz.k0 (aB s.ops i);have hkm:=hz.km (aB s.ops i);have hko:t.op.knockout=true→(s.ops.getD i default).operator=4:=fun h=>hfit.ctx.elim id fun q=>by rw [h] at q;cases q.2
   have hac:=Fo m (bZ s.ops i).length f t (by omega) hf;have hco:=nN t.acc;have hnx:=oZ (m:=m) (z:=cY s x y) hlt;rw [e,qi hk] at hnx;generalize hz1:cY s x y (aB s.ops i)=zz at *
   obtain ⟨p,ms⟩:=zz;dsimp only at *
   unfold aB at *
   repeat' (first|refine ah hk2 ?_|refine ax ?_|((with_reducible refine bN (id:=13) (fun K hW => ?_));(try simp (maxSteps:=999999)(disch:=omega) only [go_sem]);and_intros;all_goals first|(refine hK _ ?_;clear hK K)|try exact ai)|refine an (fun K hK => ?_)|refine aa (hsm) ?_|(refine aK (fun hb => ?_) (fun hb => ?_) <;> try exact aE)|(refine aq hK ?_;try clear hK K))
   refine (fun (tl:∀ (n':Nat) (g':Nat→Nat→PV) (st:St),n'≤nl+3→Le st (aT [(1, .b (I x)),(2, .b (I y)),(3, .b (.c (.ptr 0 0))),(8, .b (U m)),(10, .b (.c (.ptr 1 0))),(12, .b (.c (.own 3 n'))),(13, .b (I i)),(14, .b (.c (.ptr 4 0))),(15, .b (.c (.ptr 5 0))),(16, .b (U ms)),(17, .b (.c (.ptr 6 0)))]
    [(0, .fix ((aF s).map CV.p)),(1, .fix [.p (PU m), .own 2 ((bZ s.ops i).length+1)]),(2, .arr 206 23 ((bZ s.ops i).length+1) f),(3, .arr 116 18 n' g'),(4, .fix ((fZ (s.ops.getD i default)).map CV.p)),(5, .fix ((aS p).map CV.p)),(6, .fix ((aS (aM m (s.ops.getD i default) p ms)).map CV.p))] 7)→K st) => ?_) (fun n' g' st hn' hl=>hW st _ hl ?_)
   ·clear hW;refine rU 7 (nl+1) i m ms (s.ops.getD i default) p ?_ ?_ (by omega) hm ⟨hfit.op0,hfit.opm⟩ hp ⟨hk0,hkm⟩ ?_ (fun hmk G => ?_) (fun hmk G => ?_)
    ·refine ⟨?w, ?h⟩
     case h=>exact na
    ·exact bG
    ·intro iw hiw
     (try simp (maxSteps:=999999)(disch:=omega) only [go_sem] at hiw ⊢)
     (repeat (refine Eq.trans (if_neg ?_) ?_;(focus omega)))
     (try rfl)
    ·refine dz ?_;refine tl (nl+2) G _ (by omega) ?_;refine au [(1,some 1),(2,some 2),(3,some 14),(4,some 4),(5,some 5),(6,some 8)] ?_ ?_;and_intros;all_goals try exact aj
    ·refine dz ?_;refine tl (nl+3) G _ (by omega) ?_;refine au [(1,some 1),(2,some 2),(3,some 17),(4,some 4),(5,some 5),(6,some 8)] ?_ ?_;and_intros;all_goals try exact aj
   clear hW hl;have hf2:=zo (q:=cT t.op.knockout (s.ops.getD i default).operator (s.ops.getD i default).mode m (aM m (s.ops.getD i default) p ms) t.acc t.back) hf;have hac2:=Fo m (bZ s.ops i).length _ _ (by omega) hf2;have hco2:=nN (cT t.op.knockout (s.ops.getD i default).operator (s.ops.getD i default).mode m (aM m (s.ops.getD i default) p ms) t.acc t.back);repeat' (first|refine an (fun K hK => ?_)|refine jS (k:=2) hac (wo _) ?_|refine aa (hco) ?_|(refine aq hK ?_;try clear hK K))
   refine IK 1 2 (bZ s.ops i).length f m (s.ops.getD i default) p ms t ?_ ?_ ?_ ?_ (by decide) (by omega) hf hm hk2 q5 q6 ⟨hfit.op0,hfit.opm⟩ hp ⟨hk0,hkm⟩ ha.v.head.v hko ?_ ?_
   ·exact bG
   ·exact bG
   ·exact bG
   ·exact bG
   ·intro iw hiw
    (try simp (maxSteps:=999999)(disch:=omega) only [go_sem] at hiw ⊢)
    (repeat (refine Eq.trans (if_neg ?_) ?_;(focus omega)))
    (try rfl)
   refine dz ?_;refine hK _ ?_;clear hK;refine rQ (id:=16) (.br 0 (.br 1 (.br 2 (.br 3 (.br 4 (.br 5 (.br 6 (.br 7 (.br 8 (.br 9 (.br 10 .leaf .nil) .nil) .nil) .nil) .nil) .nil) .nil) .nil) .nil) .nil) .nil) (by decide +kernel) ?_ (fun K0 hW => ?_)
   ·refine ⟨?_,Nat.zero_le _⟩;intro iw hiw
    (try simp (maxSteps:=999999)(disch:=omega) only [go_sem] at hiw ⊢)
    (repeat (refine Eq.trans (if_neg ?_) ?_;(focus omega)))
    (try rfl)
   replace hW:=iS hW;repeat' (first|exact cg|(refine cH (fun K' hK' => ?_) ?_)|(refine bJ (hW _ ?_);clear hW)|((first|refine jS (k:=2) hac2 (wo _) ?_|refine aa (hco2) ?_);(try simp (maxSteps:=999999)(disch:=omega) only [go_sem]);and_intros;(all_goals first|(refine hK' _ ?_;clear hK' K')|trivial|omega|exact Nat.le_of_ble_eq_true rfl|exact ai|skip))|(simp (maxSteps:=999999)(disch:=omega) only [go_sem];and_intros;(all_goals first|(refine hK' _ ?_;clear hK' K')|trivial|omega|exact Nat.le_of_ble_eq_true rfl|exact ai|skip)))
   refine dJ ?_;refine .inl ⟨aT [(1, .b (I x)),(2, .b (I y)),(3, .b (.c (.ptr 0 0))),(8, .b (U m)),(10, .b (.c (.ptr 1 0))),(12, .b (.c (.own 3 (n'+1)))),(13, .b (I i))] [(0, .fix ((aF s).map CV.p)),(1, .fix [.p (PU m), .own 2 ((bZ s.ops i).length+1)]),(2, .arr 206 23 ((bZ s.ops i).length+1) (nu (bZ s.ops i).length f (cT t.op.knockout (s.ops.getD i default).operator (s.ops.getD i default).mode m (aM m (s.ops.getD i default) p ms) t.acc t.back))),(3, .arr 116 18 (n'+1) fun _ _ => .any)] 4, ?_, ?_⟩
   ·refine au [(1,some 1),(2,some 2),(3,some 16)] ?_ ?_;and_intros;all_goals try exact aj
    exact .inr fun _ _ _ _ _ _ _ _=>trivial
   repeat' (refine aC ?_)
   rw [ae];refine ak (i+1,n'+1,(nu (bZ s.ops i).length f (cT t.op.knockout (s.ops.getD i default).operator (s.ops.getD i default).mode m (aM m (s.ops.getD i default) p ms) t.acc t.back)),fun _ _ => .any) ?_ ⟨by dsimp only;omega,by dsimp only;omega, ?_⟩ (by dsimp only;omega)
   ·dsimp only;rw [dM hk];refine au [(1,some 1),(2,some 2),(3,some 3)] ?_ ?_;and_intros;all_goals try exact aj
   ·dsimp only;rw [hnx];refine ⟨by rw [hlen] at hf2 ⊢;exact hf2,lH (fun a ha j=>zn (by omega)) hh.2⟩
  ·have hk2:(s.ops.getD i default).kind=2:=hk;obtain ⟨_,_,_,q4⟩:=ee.1 (V.ok i hlt);obtain ⟨_,_,_,_,_,_,q7⟩:=q4 (by omega);have hd:=q7 hk;rw [List.length_map,List.length_reverse] at hd;have hnx:=oZ (m:=m) (z:=cY s x y) hlt;rw [e,nA hk] at hnx
   repeat' (first|refine ah hk2 ?_|refine ax ?_|refine an (fun K hK => ?_)|(refine aK (fun hb => ?_) (fun hb => ?_) <;> try exact aE)|(refine aq hK ?_;try clear hK K))
   refine Hu 1 2 (bZ s.ops i).length f m (s.ops.getD i default) t ?_ ?_ ?_ ?_ (by decide) hd hf hk2 ?_ (fun F hF1 hF2 => ?_)
   ·exact bG
   ·exact bG
   ·exact bG
   ·exact bG
   ·intro iw hiw
    (try simp (maxSteps:=999999)(disch:=omega) only [go_sem] at hiw ⊢)
    (repeat (refine Eq.trans (if_neg ?_) ?_;(focus omega)))
    (try rfl)
   refine dz ?_;refine hK _ ?_;clear hK;have hbk:=PH m ((bZ s.ops i).length+1) F (ma (s.ops.getD i default) t) (by omega) hF1;repeat' (first|refine ax ?_|refine an (fun K hK => ?_)|refine jS (k:=11) hbk (Lx _) ?_|(refine aq hK ?_;try clear hK K))
   rw [ae];refine ak (i+1,nl+1,F,fun _ _ => .any) ?_ ⟨by dsimp only;omega,by dsimp only;omega, ?_⟩ (by dsimp only;omega)
   ·dsimp only;rw [dR hk,List.length_cons];refine au [(1,some 1),(2,some 11),(3,some 13)] ?_ ?_;and_intros;all_goals try exact aj
    exact .inr fun _ _ _ _ _ _ _ _=>trivial
   ·dsimp only;rw [hnx];refine ⟨by rw [hlen] at hF1;exact hF1,lH (fun a ha j=>hF2 a (by rw [hlen];exact ha) j) hh⟩
  ·have hk2:(s.ops.getD i default).kind=3:=hk;have hnx:=oZ (m:=m) (z:=cY s x y) hlt;obtain ⟨g,sk,hsk⟩:∃ g sk,bZ s.ops i=g :: sk:=by
    cases hq:bZ s.ops i with
    | nil=>exact absurd hq (W.pops i hlt hk)
    | cons g sk=>exact ⟨g,sk,rfl⟩
   cases r with
   | nil=>rw [hsk] at hlen;cases hlen
   | cons u r =>
   rw [e,tA hk] at hnx;obtain ⟨vt,vf,vs⟩:=ha.v;have ho:=ha.o;rw [hsk] at ho;have eg:t.op=aB s.ops g:=(List.cons.inj ho).1;have hgl:g<i:=fg (ops:=s.ops) (by rw [hsk];exact List.mem_cons_self ..);have hgk:(aB s.ops g).kind=2:=il (i:=i) (by rw [hsk];exact List.mem_cons_self ..);obtain ⟨b0,b1,b2,⟨b3,b3'⟩,⟨b4,b4'⟩,⟨b5,b5'⟩,b6,b6'⟩:=sL C (show g<s.ops.length by omega) (by omega);obtain ⟨_,_,_,q4⟩:=ee.1 (V.ok g (by omega));obtain ⟨_,_,_,q5,q6,_⟩:=q4 (by omega);rw [← eg] at b0 b1 b2 b3 b3' b4 b4' b5 b5' b6 b6' q5 q6;simp only [ji,decide_eq_true_eq] at q5 q6;have hlk:(bZ s.ops i).length=r.length+1:=by rw [hlen];rfl
   have hls:(bZ s.ops (i+1)).length=r.length:=by rw [fy hk,List.length_tail,hlk];rfl
   have hu:jE (f r.length) u:=hh.2.1;rw [hlk] at hf hst ⊢;have hz:=C.z;have hsm:=zu s t.op x y hs hx hy ⟨by omega,by omega⟩ ⟨by omega,by omega⟩ ⟨by omega,by omega⟩ ⟨by omega,by omega⟩;have hk0:=hz.k0 t.op;have hkm:=hz.km t.op;have htp:=qD m (r.length+1) f (by omega);have hre:=tz t.acc t.back m hm vt.v;have hrv:=mN hm vt.v;have hco:aA Sg 140 [ag [f r.length 12,f r.length 13,f r.length 14,f r.length 15,f r.length 16,f r.length 17]] (fun r=>r = .b (ag (aS ⟨u.acc.c0,u.acc.c1,u.acc.c2,u.acc.a,u.acc.f⟩))):=by
    obtain ⟨e0,e1,e2,e3,e4,e5,e6,e7,e8,e9,e10,e11,e12,e13,e14,e15,e16,e17,e18,e19,e20,e21,e22⟩:=Sh hu;rw [e12,e13,e14,e15,e16,e17];exact nN u.acc
   have hko:u.op.knockout=true→t.op.operator=4:=fun h=>vf.ctx.elim id fun q=>by rw [h] at q;cases q.2
   generalize hz1:cY s x y t.op=zz at *
   obtain ⟨p,ms⟩:=zz;dsimp only at hsm hk0 hkm hnx;generalize hres:bI t.acc t.back m=res at *
   repeat' (first|refine ah hk2 ?_|refine aC ?_|(refine aK (fun hb => ?_) (fun hb => ?_) <;> try exact aE))
   refine fw (id:=21) (.br 0 (.br 1 (.br 2 (.br 3 (.br 4 (.br 5 (.br 6 (.br 7 (.br 8 (.br 9 .leaf .nil) .nil) .nil) .nil) (.br 8 (.br 5 (.br 6 (.br 7 (.br 9 .leaf .nil) .nil) .nil) .nil) .nil)) .nil) .nil) .nil) .nil) .nil) (by decide +kernel) dK (fun K0 hW => ?_);refine (fun (tl:∀ st:St,Le st (aT [(1, .b (I x)),(2, .b (I y)),(3, .b (.c (.ptr 0 0))),(8, .b (U m)),(10, .b (.c (.ptr 1 0))),(12, .b (.c (.own 3 nl))),(13, .b (I i)),(19, .b (.c (.ptr 4 0)))] [(0, .fix ((aF s).map CV.p)),(1, .fix [.p (PU m), .own 2 (r.length+1+1)]),(2, .arr 206 23 (r.length+1+1) f),(3, .arr 116 18 nl gl),(4, .fix ((LL t).map CV.p))] 5)→K0 st) => ?_) (fun st hl=>hW st _ hl ?_)
   ·clear hW;obtain ⟨e0,e1,e2,e3,e4,e5,e6,e7,e8,e9,e10,e11,e12,e13,e14,e15,e16,e17,e18,e19,e20,e21,e22⟩:=Sh hf;repeat' (first|exact cg|(refine cH (fun K' hK' => ?_) ?_)|(refine bJ (tl _ ?_);clear tl)|(refine jS (k:=2) htp trivial ?_;(try simp (maxSteps:=999999)(disch:=omega) only [go_sem]);and_intros;(all_goals first|(refine hK' _ ?_;clear hK' K')|trivial|omega|exact Nat.le_of_ble_eq_true rfl|exact ai|skip))|(simp (maxSteps:=999999)(disch:=omega) only [go_sem];and_intros;(all_goals first|(refine hK' _ ?_;clear hK' K')|trivial|omega|exact Nat.le_of_ble_eq_true rfl|exact ai|skip)))
    all_goals
     refine au [(1,some 1),(2,some 2),(3,some 3),(4,some 5)] ?_ ?_;and_intros;all_goals try exact aj
     all_goals first|exact .inl (by assumption)|skip
   clear hW hl;repeat' (first|((with_reducible refine bN (id:=26) (fun K hW => ?_));(try simp (maxSteps:=999999)(disch:=omega) only [go_sem]);and_intros;all_goals first|(refine hK _ ?_;clear hK K)|try exact ai)|refine an (fun K hK => ?_)|refine aa (hsm) ?_|refine aa (hre) ?_|(refine aq hK ?_;try clear hK K))
   refine (fun (tl:∀ (n':Nat) (g':Nat→Nat→PV) (st:St),n'≤nl+3→Le st (aT [(1, .b (I x)),(2, .b (I y)),(3, .b (.c (.ptr 0 0))),(8, .b (U m)),(10, .b (.c (.ptr 1 0))),(12, .b (.c (.own 3 n'))),(13, .b (I i)),(21, .b (U ms)),(24, .b (.c (.ptr 4 0)))] [(0, .fix ((aF s).map CV.p)),(1, .fix [.p (PU m), .own 2 (r.length+1+1)]),(2, .arr 206 23 (r.length+1+1) f),(3, .arr 116 18 n' g'),(4, .fix ((aS (aM m t.op res ms)).map CV.p))] 5)→K st) => ?_) (fun n' g' st hn' hl=>hW st _ hl ?_)
   ·clear hW;refine rU 8 (nl+1) i m ms t.op res ?_ ?_ (by omega) hm ⟨vf.op0,vf.opm⟩ hrv ⟨hk0,hkm⟩ ?_ (fun hmk G => ?_) (fun hmk G => ?_)
    ·refine ⟨?w2, ?h2⟩
     case h2=>exact na
    ·exact bG
    ·refine (?_:iT 0 _).1;repeat' (first|exact Wq rfl|refine iT.set ?_ _ _|refine iT.newBox ?_ _|refine iT.delBox ?_ _|refine QK CJ ?_)
    ·refine dz ?_;refine tl (nl+2) G _ (by omega) ?_;refine au [(1,some 1),(2,some 2),(3,some 15),(4,some 9)] ?_ ?_;and_intros;all_goals try exact aj
    ·refine dz ?_;refine tl (nl+3) G _ (by omega) ?_;refine au [(1,some 1),(2,some 2),(3,some 18),(4,some 9)] ?_ ?_;and_intros;all_goals try exact aj
   clear hW hl;refine fw (id:=27) (.br 0 (.br 1 (.br 2 (.br 3 (.br 4 (.br 5 (.br 6 (.br 7 (.br 8 (.br 9 (.br 10 (.br 11 (.br 12 .leaf .nil) .nil) .nil) .nil) .nil) .nil) .nil) (.br 11 (.br 5 (.br 6 (.br 7 (.br 8 (.br 9 (.br 10 (.br 12 .leaf .nil) .nil) .nil) .nil) .nil) .nil) .nil) .nil)) .nil) .nil) .nil) .nil) .nil) (by decide +kernel) dK (fun K0 hW => ?_);refine (fun (tl:∀ st:St,Le st (aT [(1, .b (I x)),(2, .b (I y)),(3, .b (.c (.ptr 0 0))),(8, .b (U m)),(10, .b (.c (.ptr 1 0))),(12, .b (.c (.own 3 n'))),(13, .b (I i)),(21, .b (U ms)),(24, .b (.c (.ptr 4 0))),(25, .b (.c (.ptr 5 0)))] [(0, .fix ((aF s).map CV.p)),(1, .fix [.p (PU m), .own 2 (r.length+1+1)]),(2, .arr 206 23 (r.length+1+1) f),(3, .arr 116 18 n' g'),(4, .fix ((aS (aM m t.op res ms)).map CV.p)),(5, .fix ((aS ⟨u.acc.c0,u.acc.c1,u.acc.c2,u.acc.a,u.acc.f⟩).map CV.p))] 6)→K0 st) => ?_) (fun st hl=>hW st _ hl ?_)
   ·clear hW;repeat' (first|exact cg|(refine cH (fun K' hK' => ?_) ?_)|(refine bJ (tl _ ?_);clear tl)|((first|refine jS (k:=2) htp trivial ?_|refine aa (hco) ?_);(try simp (maxSteps:=999999)(disch:=omega) only [go_sem]);and_intros;(all_goals first|(refine hK' _ ?_;clear hK' K')|trivial|omega|exact Nat.le_of_ble_eq_true rfl|exact ai|skip))|(simp (maxSteps:=999999)(disch:=omega) only [go_sem];and_intros;(all_goals first|(refine hK' _ ?_;clear hK' K')|trivial|omega|exact Nat.le_of_ble_eq_true rfl|exact ai|skip)))
    all_goals
     refine au [(1,some 1),(2,some 2),(3,some 3),(4,some 4),(5,some 5)] ?_ ?_;and_intros;all_goals try exact aj
   clear hW hl;repeat' (first|refine an (fun K hK => ?_)|(refine aq hK ?_;try clear hK K))
   refine MX 1 2 r.length f m ms t u ?_ ?_ ?_ ?_ (by decide) (by omega) hf hu hm q5 q6 ⟨vf.op0,vf.opm⟩ ⟨hk0,hkm⟩ vt.v vs.head.v hko ?_ (fun F hF1 hF2 => ?_)
   ·exact bG
   ·exact bG
   ·exact bG
   ·exact bG
   ·intro iw hiw
    (try simp (maxSteps:=999999)(disch:=omega) only [go_sem] at hiw ⊢)
    (repeat (refine Eq.trans (if_neg ?_) ?_;(focus omega)))
    (try rfl)
   rw [hres] at hF1 ⊢;have hac2:=Fo m r.length F _ (by omega) hF1;have hco2:=nN (oF m t.op (aM m t.op res ms) u).acc;refine dz ?_;refine hK _ ?_;clear hK;refine rQ (id:=29) (.br 0 (.br 1 (.br 2 (.br 3 (.br 4 (.br 5 (.br 6 (.br 7 (.br 8 (.br 9 (.br 10 .leaf .nil) .nil) .nil) .nil) .nil) .nil) .nil) .nil) .nil) .nil) .nil) (by decide +kernel) ?_ (fun K0 hW => ?_)
   ·refine ⟨?_,Nat.zero_le _⟩;intro iw hiw
    (try simp (maxSteps:=999999)(disch:=omega) only [go_sem] at hiw ⊢)
    (repeat (refine Eq.trans (if_neg ?_) ?_;(focus omega)))
    (try rfl)
   replace hW:=iS hW;repeat' (first|exact cg|(refine cH (fun K' hK' => ?_) ?_)|(refine bJ (hW _ ?_);clear hW)|((first|refine jS (k:=10) hac2 (wo _) ?_|refine aa (hco2) ?_);(try simp (maxSteps:=999999)(disch:=omega) only [go_sem]);and_intros;(all_goals first|(refine hK' _ ?_;clear hK' K')|trivial|omega|exact Nat.le_of_ble_eq_true rfl|exact ai|skip))|(simp (maxSteps:=999999)(disch:=omega) only [go_sem];and_intros;(all_goals first|(refine hK' _ ?_;clear hK' K')|trivial|omega|exact Nat.le_of_ble_eq_true rfl|exact ai|skip)))
   refine dJ ?_;refine .inl ⟨aT [(1, .b (I x)),(2, .b (I y)),(3, .b (.c (.ptr 0 0))),(8, .b (U m)),(10, .b (.c (.ptr 1 0))),(12, .b (.c (.own 3 (n'+1)))),(13, .b (I i))] [(0, .fix ((aF s).map CV.p)),(1, .fix [.p (PU m), .own 2 (r.length+1)]),(2, .arr 206 23 (r.length+1) F),(3, .arr 116 18 (n'+1) fun _ _ => .any)] 4, ?_, ?_⟩
   ·refine au [(1,some 1),(2,some 10),(3,some 16)] ?_ ?_;and_intros;all_goals try exact aj
    exact .inr fun _ _ _ _ _ _ _ _=>trivial
   repeat' (refine aC ?_)
   rw [ae];refine ak (i+1,n'+1,F,fun _ _ => .any) ?_ ⟨by dsimp only;omega,by dsimp only;omega, ?_⟩ (by dsimp only;omega)
   ·dsimp only;rw [hls];refine au [(1,some 1),(2,some 2),(3,some 3)] ?_ ?_;and_intros;all_goals try exact aj
   ·dsimp only;rw [hnx];exact ⟨hF1,lH (fun a ha j=>hF2 a ha j) hh.2.2⟩
 ·have hi2:i=s.ops.length:=by omega
  subst hi2;have hg:decide (((s.ops.length:Nat):Int)<s.ops.length)=false:=decide_eq_false (by omega);have hr0:r=[]:=List.eq_nil_of_length_eq_zero (by rw [← hlen,W.fin];rfl);have hl1:(bZ s.ops s.ops.length).length+1=1:=by rw [W.fin];rfl
  have e1:(jP m (cY s x y) s.ops s.ops.length).headD base=t:=by rw [e];rfl
  have h0:jE (f 0) t:=by rw [W.fin] at hf;exact hf
  rw [e1];unfold Gx HD;generalize (bZ s.ops s.ops.length).length+1=n1 at *
  subst hl1;repeat' (first|refine ah hg ?_|refine aC ?_)
  refine dq ⟨oR fun _ _ _ _=>trivial,QD fun j hj => ?_,trivial⟩;have hj2:j=0∨j=1:=by omega
  rcases hj2 with rfl|rfl
  ·exact PV.le_refl _
  ·show PV.le (.lst 23 1 f) (.lst 23 1 fun _ j=>(LL t).getD j .any);refine gX fun a h1 b h2 => ?_;have:a=0:=by omega
   subst this;rw [h0 b h2]
end Go.Proofs.YtcbifofjjpfbcaaGreatDoor
