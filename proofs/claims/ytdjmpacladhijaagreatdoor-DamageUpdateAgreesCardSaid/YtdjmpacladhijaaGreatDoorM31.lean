/- Part of the proof: Br, BrS, BrT, VA, VB, SlZd, Q3. -/
import Derived.ChangeArms
import Derived.DataReads
import Derived.DataOpen
import Derived.OpenShut
import Derived.Lib.LaidTab
import Derived.Carry
import Derived.ProofKit
import Derived.WideKeyArgs
import Derived.WalkKit
import GoSem.ClaimJoined
import Derived.Test.YtdjmpacladhijaaGreatDoorM28
import Derived.Test.YtdjmpacladhijaaGreatDoorM30
set_option linter.unusedSimpArgs false
set_option linter.unusedVariables false
set_option maxRecDepth 16000
set_option maxHeartbeats 8000000
namespace Go.SL
open Go Go.ChangeShapes
theorem QP {P:Program} {t:TypeId} (ht:P.underlying t=some .bool):ri P t (fun b=>[PV.val (.bool b)]) (fun _=>True):=by
 intro H enc w sp held fuel cs x hx _;obtain ⟨b,rfl,_⟩:=DataW.trod_bool ht hx;exact ⟨b,trivial,Cells.one1 rfl rfl⟩
section
variable {H:Type} {enc:TypeId × Value→H} {P:Program}
end
end Go.SL
namespace Go.Proofs.YtdjmpacladhijaaGreatDoor
open Go Go.SL
theorem Qv:ri Sg.P 4 (fun b=>[PB b]) (fun _=>True):=QP (by kernel_rfl)
theorem a8Z:ri Sg.P 33 cC (fun o=>i64 o.kind∧i64 o.image∧i64 o.x∧i64 o.y∧i64 o.mask∧i64 o.maskX∧i64 o.maskY∧u16 o.opacity∧i64 o.operator∧i64 o.mode):=by
 refine ri.to (gI ?_ ?_ (aO dt rfl (aO dt rfl (aO dt rfl (aO dt rfl (aO dt rfl (aO dt rfl (aO dt rfl (aO CP rfl (aO dt rfl (aO dt rfl (aO Qv rfl (aO Qv rfl jz)))))))))))))
  (fun (a,b,c,d,e,f,g,h,i,j,k,l,_)=>(⟨a,b,c,d,e,f,g,h,i,j,k,l⟩:Op)) (fun _=>rfl) ?_
 ·kernel_rfl
 ·kernel_rfl
 grind
end Go.Proofs.YtdjmpacladhijaaGreatDoor
namespace Go.SL
open Go Go.ChangeShapes Go.WideShapes Go.ChangeAt Go.RowKit
section
variable {P:Program} {H:Type} {enc:TypeId × Value→H}
theorem Ih {w : World} {base : Nat} {spare : Nat → Bool} {held : Bool} {t0 t1 t2 t3 t4 t5 : TypeId} {args : Array Value} {ds : List (DataW H)} {ps : List MemPlace} (h : DataW.TrodAll enc P w base spare held [t0, t1, t2, t3, t4, t5] args.toList ds ps) :
  ∃ v0 v1 v2 v3 v4 v5 d0 d1 d2 d3 d4 d5 p0 p1 p2 p3 p4 p5,args = #[v0,v1,v2,v3,v4,v5]∧ds=[d0,d1,d2,d3,d4,d5]∧ps=p0 ++ p1 ++ p2 ++ p3 ++ p4 ++ p5∧DataW.Trod enc P w base spare held t0 v0 d0 p0∧DataW.Trod enc P w base spare held t1 v1 d1 p1 ∧
   DataW.Trod enc P w base spare held t2 v2 d2 p2∧DataW.Trod enc P w base spare held t3 v3 d3 p3∧DataW.Trod enc P w base spare held t4 v4 d4 p4∧DataW.Trod enc P w base spare held t5 v5 d5 p5:=by
 obtain ⟨v0,vs,d0,ds',p0,q,hargs,rfl,rfl,h0,hrest⟩:=trodAll_cons h;obtain ⟨v1,vs1,d1,ds1,p1,q1,rfl,rfl,rfl,h1,hrest1⟩:=trodAll_cons hrest;obtain ⟨v2,vs2,d2,ds2,p2,q2,rfl,rfl,rfl,h2,hrest2⟩:=trodAll_cons hrest1;obtain ⟨v3,vs3,d3,ds3,p3,q3,rfl,rfl,rfl,h3,hrest3⟩:=trodAll_cons hrest2;obtain ⟨v4,vs4,d4,ds4,p4,q4,rfl,rfl,rfl,h4,hrest4⟩:=trodAll_cons hrest3;obtain ⟨v5,vs5,d5,ds5,p5,q5,rfl,rfl,rfl,h5,hrest5⟩:=trodAll_cons hrest4;obtain ⟨rfl,rfl,rfl⟩:=trodAll_nil hrest5;exact ⟨v0,v1,v2,v3,v4,v5,d0,d1,d2,d3,d4,d5,p0,p1,p2,p3,p4,p5,by grind,rfl,by simp,h0,h1,h2,h3,h4,h5⟩
end
end Go.SL
namespace Go.Proofs.YtdjmpacladhijaaGreatDoor
open Go Go.SL
open Go.RowKit (wrap64)
section
attribute [local go_sem] dA Nf fQ Int.toNat_natCast
theorem a5Q {l:List (Nat × SV)} {b:List (Nat × Bx)} {nx:Nat} (h:((b.map (·.1)).all fun i=>Nat.blt i nx)=true):jB 0 (aP l b nx):=⟨fun i hi=>by
 have hi:nx≤i:=hi;show iP b i=none;cases hx:iP b i with
 | none=>rfl
 | some x =>
  have:=List.all_eq_true.1 h i (List.mem_map.2 ⟨_,jJ hx,rfl⟩);have:=Nat.le_of_ble_eq_true this
  omega,Nat.zero_le _⟩
theorem Ym {st:St} {id:Nat} {x:Bx} (hid:id<st.nx) (h:jB 0 st):jB 0 (st.setBox id x):=⟨fun i hi=>by
 have hi:st.nx≤i:=hi;show (if i=id then some x else st.bx i)=none;rw [if_neg (by omega)]
 exact h.1 i hi,Nat.zero_le _⟩
theorem ZY {n:Nat} {g g':Nat→PV} (h:∀ j,j<n→PV.le (g j) (g' j)):BLe (.c (.ipt n g 0)) (.c (.ipt n g' 0)) :=
 ⟨trivial,fun ok w u ⟨b,o,h1,h2,h3⟩=>⟨b,o,h1,h2,fun j hj=>by
  obtain ⟨x,q1,q2,q3⟩:=h3 j hj
  exact ⟨x,q1,q2,h j hj _ _ _ q3⟩⟩⟩
theorem od {f g:Nat→Nat→PV}:∀ {st:List Lv},(∀ i,i<st.length→∀ j,g i j=f i j)→Gw f st→Gw g st
 | [],_,_=>trivial
 | t :: r,h,⟨h1,h2⟩=>⟨fun j hj=>by rw [h r.length (by simp) j];exact h1 j hj,od (fun i hi j=>h i (by simp;omega) j) h2⟩
theorem RV {st : St} {K : SV → St → Prop} (m : Int) (hm : Full m) (hw : ∀ i, st.nx ≤ i → st.bx i = none)
  (hK:∀ F:Nat→Nat→PV,lL (F 0) base→K (.tup [.c (.ptr (st.nx+1) 0),I 0]) (st.turn (aJ (st.nx+1) (.fix [.p (PU m), .own st.nx 1]) (aJ st.nx (.arr 208 23 1 F) st.bx)) (st.nx+2))) :
  dY Sg st 142 [U m] (Sl.of K):=by
 obtain ⟨F,h1,hI⟩:=Yj st.bx st.nx m hm hw;refine dS hI rfl (fun i hi => ?_) (by omega) (hK F h1);grind [aJ]
theorem PO {st : St} {K : SV → St → Prop} (b k n : Nat) (f : Nat → Nat → PV) (m : Int) (o : Op) (p : Pixel) (ms : Int) (t : Lv)
  (hb:st.bx b=some (.fix [.p (PU m), .own k (n+1)])) (hk:st.bx k=some (.arr 208 23 (n+1) f)) (hbn:b<st.nx) (hkn:k<st.nx) (hbk:b≠k) (hn:n≤1000) (hf:lL (f n) t)
  (hm:Full m) (hkd:o.kind=1) (ho:1≤o.operator∧o.operator≤12) (hmo:1≤o.mode∧o.mode≤12) (hop:0≤o.opacity∧o.opacity≤m) (hp:PixV p m) (hms:0≤ms∧ms≤m) (hv:AccV t.acc t.back m) (hko:t.op.knockout=true→o.operator=4) (hw:∀ i,st.nx≤i→st.bx i=none)
  (hK:K (.tup [ag (aU (aL m o p ms)),I 0]) (st.turn (aJ k (.arr 208 23 (n+1) (qC n f (bQ t.op.knockout o.operator o.mode m (aL m o p ms) t.acc t.back))) st.bx) (st.nx+7))) :
  dY Sg st 147 [.c (.ptr b 0),ag (cC o),ag (aU p),U ms] (Sl.of K):=by
 refine dS (TI st.bx st.nx b k n f m o p ms t hb hk hbn hkn hbk hn hf hm hkd ho hmo hop hp hms hv hko hw) rfl (fun i hi => ?_) (by omega) hK;grind [aJ]
theorem OW {st : St} {K : SV → St → Prop} (b k n : Nat) (f : Nat → Nat → PV) (m : Int) (o : Op) (t : Lv)
  (hb:st.bx b=some (.fix [.p (PU m), .own k (n+1)])) (hk:st.bx k=some (.arr 208 23 (n+1) f)) (hbn:b<st.nx) (hkn:k<st.nx) (hbk:b≠k) (hn:n<64) (hf:lL (f n) t) (hkd:o.kind=2) (hw:∀ i,st.nx≤i→st.bx i=none)
  (hK:∀ F:Nat→Nat→PV,lL (F (n+1)) (gU o t)→(∀ i,i<n+1→∀ j,F i j=f i j)→K (.b (I 0)) (st.turn (aJ b (.fix [.p (PU m), .own (st.nx+6) (n+2)]) (aJ (st.nx+6) (.arr 208 23 (n+2) F) st.bx)) (st.nx+7))) :
  dY Sg st 148 [.c (.ptr b 0),ag (cC o)] (Sl.of K):=by
 obtain ⟨F,⟨h1,h2⟩,hI⟩:=UR st.bx st.nx b k n f m o t hb hk hbn hkn hbk hn hf hkd hw;refine dS hI rfl (fun i hi => ?_) (by omega) (hK F h1 h2);grind [aJ]
theorem UN {st : St} {K : SV → St → Prop} (b k n : Nat) (f : Nat → Nat → PV) (m ms : Int) (t u : Lv)
  (hb:st.bx b=some (.fix [.p (PU m), .own k (n+2)])) (hk:st.bx k=some (.arr 208 23 (n+2) f)) (hbn:b<st.nx) (hkn:k<st.nx) (hbk:b≠k) (hn:n<64) (hf:lL (f (n+1)) t) (hf2:lL (f n) u)
  (hm:Full m) (ho:1≤t.op.operator∧t.op.operator≤12) (hmo:1≤t.op.mode∧t.op.mode≤12) (hop:0≤t.op.opacity∧t.op.opacity≤m) (hms:0≤ms∧ms≤m) (hv:AccV t.acc t.back m) (hv2:AccV u.acc u.back m) (hko:u.op.knockout=true→t.op.operator=4) (hw:∀ i,st.nx≤i→st.bx i=none)
  (hK:∀ F:Nat→Nat→PV,lL (F n) (nz m t.op (aL m t.op (bU t.acc t.back m) ms) u)→(∀ i,i<n→∀ j,F i j=f i j) →
   K (.tup [ag (aU (aL m t.op (bU t.acc t.back m) ms)),I 0]) (st.turn (aJ b (.fix [.p (PU m), .own (st.nx+4) (n+1)]) (aJ (st.nx+4) (.arr 208 23 (n+1) F) st.bx)) (st.nx+9))) :
  dY Sg st 152 [.c (.ptr b 0),U ms] (Sl.of K):=by
 obtain ⟨F,⟨h1,h2⟩,hI⟩:=YR st.bx st.nx b k n f m ms t u hb hk hbn hkn hbk hn hf hf2 hm ho hmo hop hms hv hv2 hko hw;refine dS hI rfl (fun i hi => ?_) (by omega) (hK F h1 h2);grind [aJ]
theorem vB {st : St} {K : SV → St → Prop} (id n : Nat) (i m ms : Int) (o : Op) (p : Pixel) (hid : ∃ g, st.bx id = some (.arr 197 18 n g)) (hlt : id < st.nx) (hn : n ≤ 100000)
  (hm:Full m) (hop:0≤o.opacity∧o.opacity≤m) (hp:PixV p m) (hms:0≤ms∧ms≤m) (hw:∀ i,st.nx≤i→st.bx i=none)
  (hK0:o.mask=0→∀ G:Nat→Nat→PV,K (.tup [.c (.own (st.nx+5) (n+1)),ag (aU (aL m o p ms))]) (st.turn (aJ (st.nx+5) (.arr 197 18 (n+1) G) (dH id st.bx)) (st.nx+6)))
  (hK1:o.mask≠0→∀ G:Nat→Nat→PV,K (.tup [.c (.own (st.nx+8) (n+2)),ag (aU (aL m o p ms))]) (st.turn (aJ (st.nx+8) (.arr 197 18 (n+2) G) (dH id st.bx)) (st.nx+9))) :
  dY Sg st 144 [.c (.own id n),I i,ag (cC o),ag (aU p),U ms,U m] (Sl.of K):=by
 obtain ⟨g,hid⟩:=hid;by_cases h:o.mask=0
 ·obtain ⟨G,hI⟩:=EO st.bx st.nx id n g i m ms o p hid hlt hn hm h hop hp hw;refine dS hI rfl (fun i hi => ?_) (by omega) (hK0 h G);grind [aJ,dH]
 ·obtain ⟨G,hI⟩:=ES st.bx st.nx id n g i m ms o p hid hlt hn hm h hop hp hms hw;refine dS hI rfl (fun i hi => ?_) (by omega) (hK1 h G);grind [aJ,dH]
theorem Zw (s : Script) (x y m : Int) (C : Pt s m x y) (hs : ScriptLen s) (hx : i64 x) (hy : i64 y) :
  aB Sg 94 [ag (ay s),I x,I y] (fun r=>r = .tup [.c (.p .any),HM m ((jP m (bg s x y) s.ops s.ops.length).headD base)]):=by
 have V:=C.V;have W:=V.wf;have hm:=C.hm;have hmx:aB Sg 88 [I s.bits] (fun x=>x = .tup [U m,B (decide (s.bits=8∨s.bits=16))]):=by
  have:=ov s.bits;rw [show (if s.bits=8 then (255:Int) else if s.bits=16 then 65535 else 0)=aN s.bits from rfl,C.mx] at this;exact this
 have hcnt:=V.cnt;have ht:True:=trivial;refine bo ?_;refine vq Tryz.func94 rfl (rs:=[.tmp 6, .tmp 7]) rfl rfl dI (by decide +kernel) (Nat.le_of_ble_eq_true rfl) (bN ba) ?_;repeat' (first|refine an (fun K hK => ?_)|refine aa (hmx) ?_|(refine aq hK ?_;try clear hK K))
 refine RV m hm ?_ (fun F0 hF0 => ?_)
 ·intro iw hiw;simp (maxSteps:=999999)(disch:=omega) only [go_sem] at hiw ⊢;refine Eq.trans (if_neg ?_) rfl;omega
 refine bV ?_;refine hK _ ?_;clear hK;repeat' (refine aC ?_)
 have e0:jP m (bg s x y) s.ops 0=[base]:=by
  unfold jP ep;rw [List.take_zero,List.foldl_nil]
 refine aK (X:=Nat × Nat × (Nat→Nat→PV) × (Nat→Nat→PV)) (fun z=>aP [(1, .b (I x)),(2, .b (I y)),(3, .b (.c (.ptr 0 0))),(8, .b (U m)),(10, .b (.c (.ptr 1 0))),(12, .b (.c (.own 3 z.2.1))),(13, .b (I z.1))]
  [(0, .fix ((ay s).map CV.p)),(1, .fix [.p (PU m), .own 2 ((bE s.ops z.1).length+1)]),(2, .arr 208 23 ((bE s.ops z.1).length+1) z.2.2.1),(3, .arr 197 18 z.2.1 z.2.2.2)] 4)
  (fun z=>z.1≤s.ops.length∧z.2.1≤4 * z.1∧Gw z.2.2.1 (jP m (bg s x y) s.ops z.1)) (fun z=>s.ops.length - z.1) (0,0,F0,fun _ _ => .any) ?_ ?_ ?_
 ·refine ⟨Nat.zero_le _,Nat.zero_le _, ?_⟩;rw [e0];exact ⟨hF0,trivial⟩
 ·refine ar [(1,some 2),(2,some 1),(3,none)] ?_ ?_;and_intros;all_goals try exact ak
 rintro ⟨i,nl,f,gl⟩ ⟨hi,hnl,hh⟩;dsimp only at hi hnl hh ⊢;have ha:=oK C i hi;obtain ⟨t,r,e⟩:=ha.ne;rw [e] at ha hh;have hlen:(bE s.ops i).length=r.length:=by
  have:=congrArg List.length ha.o;simp only [List.length_map,List.length_cons,List.length_append,List.length_nil] at this;omega
 have hf:lL (f (bE s.ops i).length) t:=by rw [hlen];exact hh.1
 have hst:=Sz V hi;rcases Nat.lt_or_ge i s.ops.length with hlt|hge
 ·rcases W.kinds i hlt with hk|hk|hk
  ·have hk2:(s.ops.getD i default).kind=1:=hk;have hfit:=ha.fit C hlt (by omega);obtain ⟨b0,b1,b2,⟨b3,b3'⟩,⟨b4,b4'⟩,⟨b5,b5'⟩,b6,b6'⟩:=uJ C hlt (by omega);have hz:=C.z;obtain ⟨q1,q2,q3,q4⟩:=cu.1 (V.ok i hlt);obtain ⟨_,_,_,q5,q6,_⟩:=q4 (by omega);simp only [jn,decide_eq_true_eq] at q5 q6;have hsm:=Em s (ah s.ops i) x y hs hx hy ⟨by omega,by omega⟩ ⟨by omega,by omega⟩ ⟨by omega,by omega⟩ ⟨by omega,by omega⟩;have hp:=hz.p (ah s.ops i);have hk0:=hz.k0 (ah s.ops i);have hkm:=hz.km (ah s.ops i);have hko:t.op.knockout=true→(s.ops.getD i default).operator=4:=fun h=>hfit.ctx.elim id fun q=>by grind
   have hac:=JL m (bE s.ops i).length f t (by omega) hf;have hco:=qW t.acc;have hnx:=lx (m:=m) (z:=bg s x y) hlt;rw [e,lr hk] at hnx;generalize hz1:bg s x y (ah s.ops i)=zz at *
   obtain ⟨p,ms⟩:=zz;dsimp only at *
   unfold ah at *
   repeat' (first|refine aj hk2 ?_|refine aw ?_|((with_reducible refine aX (id:=13) (fun K hW => ?_));(try simp (maxSteps:=999999)(disch:=omega) only [go_sem]);and_intros;all_goals first|(refine hK _ ?_;clear hK K)|try exact ai)|refine an (fun K hK => ?_)|refine aa (hsm) ?_|(refine aH (fun hb => ?_) (fun hb => ?_) <;> try exact ax)|(refine aq hK ?_;try clear hK K))
   refine (fun (tl:∀ (n':Nat) (g':Nat→Nat→PV) (st:St),n'≤nl+3→Le st (aP [(1, .b (I x)),(2, .b (I y)),(3, .b (.c (.ptr 0 0))),(8, .b (U m)),(10, .b (.c (.ptr 1 0))),(12, .b (.c (.own 3 n'))),(13, .b (I i)),(14, .b (.c (.ptr 4 0))),(15, .b (.c (.ptr 5 0))),(16, .b (U ms)),(17, .b (.c (.ptr 6 0)))]
    [(0, .fix ((ay s).map CV.p)),(1, .fix [.p (PU m), .own 2 ((bE s.ops i).length+1)]),(2, .arr 208 23 ((bE s.ops i).length+1) f),(3, .arr 197 18 n' g'),(4, .fix ((cC (s.ops.getD i default)).map CV.p)),(5, .fix ((aU p).map CV.p)),(6, .fix ((aU (aL m (s.ops.getD i default) p ms)).map CV.p))] 7)→K st) => ?_) (fun n' g' st hn' hl=>hW st _ hl ?_)
   ·clear hW;refine vB 7 (nl+1) i m ms (s.ops.getD i default) p ?_ ?_ (by omega) hm ⟨hfit.op0,hfit.opm⟩ hp ⟨hk0,hkm⟩ ?_ (fun hmk G => ?_) (fun hmk G => ?_)
    ·refine ⟨?w, ?h⟩
     case h=>exact qS
    ·exact ba
    ·intro iw hiw
     (try simp (maxSteps:=999999)(disch:=omega) only [go_sem] at hiw ⊢)
     (repeat (refine Eq.trans (if_neg ?_) ?_;(focus omega)))
     (try rfl)
    ·refine bV ?_;refine tl (nl+2) G _ (by omega) ?_;refine ar [(1,some 1),(2,some 2),(3,some 14),(4,some 4),(5,some 5),(6,some 8)] ?_ ?_;and_intros;all_goals try exact ak
    ·refine bV ?_;refine tl (nl+3) G _ (by omega) ?_;refine ar [(1,some 1),(2,some 2),(3,some 17),(4,some 4),(5,some 5),(6,some 8)] ?_ ?_;and_intros;all_goals try exact ak
   clear hW hl;have hf2:=Dm (q:=bQ t.op.knockout (s.ops.getD i default).operator (s.ops.getD i default).mode m (aL m (s.ops.getD i default) p ms) t.acc t.back) hf;have hac2:=JL m (bE s.ops i).length _ _ (by omega) hf2;have hco2:=qW (bQ t.op.knockout (s.ops.getD i default).operator (s.ops.getD i default).mode m (aL m (s.ops.getD i default) p ms) t.acc t.back);repeat' (first|refine an (fun K hK => ?_)|refine mq (k:=2) hac (Bg _) ?_|refine aa (hco) ?_|(refine aq hK ?_;try clear hK K))
   refine PO 1 2 (bE s.ops i).length f m (s.ops.getD i default) p ms t ?_ ?_ ?_ ?_ (by decide) (by omega) hf hm hk2 q5 q6 ⟨hfit.op0,hfit.opm⟩ hp ⟨hk0,hkm⟩ ha.v.head.v hko ?_ ?_
   ·exact ba
   ·exact ba
   ·exact ba
   ·exact ba
   ·intro iw hiw
    (try simp (maxSteps:=999999)(disch:=omega) only [go_sem] at hiw ⊢)
    (repeat (refine Eq.trans (if_neg ?_) ?_;(focus omega)))
    (try rfl)
   refine bV ?_;refine hK _ ?_;clear hK;refine nc (id:=16) (.br 0 (.br 1 (.br 2 (.br 3 (.br 4 (.br 5 (.br 6 (.br 7 (.br 8 (.br 9 (.br 10 .leaf .nil) .nil) .nil) .nil) .nil) .nil) .nil) .nil) .nil) .nil) .nil) (by decide +kernel) ?_ (fun K0 hW => ?_)
   ·refine ⟨?_,Nat.zero_le _⟩;intro iw hiw
    (try simp (maxSteps:=999999)(disch:=omega) only [go_sem] at hiw ⊢)
    (repeat (refine Eq.trans (if_neg ?_) ?_;(focus omega)))
    (try rfl)
   replace hW:=ka hW;repeat' (first|exact bp|(refine bO (fun K' hK' => ?_) ?_)|(refine aZ (hW _ ?_);clear hW)|((first|refine mq (k:=2) hac2 (Bg _) ?_|refine aa (hco2) ?_);(try simp (maxSteps:=999999)(disch:=omega) only [go_sem]);and_intros;(all_goals first|(refine hK' _ ?_;clear hK' K')|trivial|omega|exact Nat.le_of_ble_eq_true rfl|exact ai|skip))|(simp (maxSteps:=999999)(disch:=omega) only [go_sem];and_intros;(all_goals first|(refine hK' _ ?_;clear hK' K')|trivial|omega|exact Nat.le_of_ble_eq_true rfl|exact ai|skip)))
   refine gi ?_;refine .inl ⟨aP [(1, .b (I x)),(2, .b (I y)),(3, .b (.c (.ptr 0 0))),(8, .b (U m)),(10, .b (.c (.ptr 1 0))),(12, .b (.c (.own 3 (n'+1)))),(13, .b (I i))] [(0, .fix ((ay s).map CV.p)),(1, .fix [.p (PU m), .own 2 ((bE s.ops i).length+1)]),(2, .arr 208 23 ((bE s.ops i).length+1) (qC (bE s.ops i).length f (bQ t.op.knockout (s.ops.getD i default).operator (s.ops.getD i default).mode m (aL m (s.ops.getD i default) p ms) t.acc t.back))),(3, .arr 197 18 (n'+1) fun _ _ => .any)] 4, ?_, ?_⟩
   ·refine ar [(1,some 1),(2,some 2),(3,some 16)] ?_ ?_;and_intros;all_goals try exact ak
    exact .inr fun _ _ _ _ _ _ _ _=>trivial
   repeat' (refine aC ?_)
   rw [ae];refine ao (i+1,n'+1,(qC (bE s.ops i).length f (bQ t.op.knockout (s.ops.getD i default).operator (s.ops.getD i default).mode m (aL m (s.ops.getD i default) p ms) t.acc t.back)),fun _ _ => .any) ?_ ⟨by omega,by grind, ?_⟩ (by omega)
   ·dsimp only;rw [ec hk];refine ar [(1,some 1),(2,some 2),(3,some 3)] ?_ ?_;and_intros;all_goals try exact ak
   ·dsimp only;rw [hnx];refine ⟨by rw [hlen] at hf2 ⊢;exact hf2,od (fun a ha j=>Ec (by omega)) hh.2⟩
  ·have hk2:(s.ops.getD i default).kind=2:=hk;obtain ⟨_,_,_,q4⟩:=cu.1 (V.ok i hlt);obtain ⟨_,_,_,_,_,_,q7⟩:=q4 (by omega);have hd:=q7 hk;rw [List.length_map,List.length_reverse] at hd;have hnx:=lx (m:=m) (z:=bg s x y) hlt;rw [e,jX hk] at hnx
   repeat' (first|refine aj hk2 ?_|refine aw ?_|refine an (fun K hK => ?_)|(refine aH (fun hb => ?_) (fun hb => ?_) <;> try exact ax)|(refine aq hK ?_;try clear hK K))
   refine OW 1 2 (bE s.ops i).length f m (s.ops.getD i default) t ?_ ?_ ?_ ?_ (by decide) hd hf hk2 ?_ (fun F hF1 hF2 => ?_)
   ·exact ba
   ·exact ba
   ·exact ba
   ·exact ba
   ·intro iw hiw
    (try simp (maxSteps:=999999)(disch:=omega) only [go_sem] at hiw ⊢)
    (repeat (refine Eq.trans (if_neg ?_) ?_;(focus omega)))
    (try rfl)
   refine bV ?_;refine hK _ ?_;clear hK;have hbk:=VB m ((bE s.ops i).length+1) F (gU (s.ops.getD i default) t) (by omega) hF1;repeat' (first|refine aw ?_|refine an (fun K hK => ?_)|refine mq (k:=11) hbk (Uy _) ?_|(refine aq hK ?_;try clear hK K))
   rw [ae];refine ao (i+1,nl+1,F,fun _ _ => .any) ?_ ⟨by omega,by grind, ?_⟩ (by omega)
   ·dsimp only;rw [dv hk,List.length_cons];refine ar [(1,some 1),(2,some 11),(3,some 13)] ?_ ?_;and_intros;all_goals try exact ak
    exact .inr fun _ _ _ _ _ _ _ _=>trivial
   ·dsimp only;rw [hnx];refine ⟨by rw [hlen] at hF1;exact hF1,od (fun a ha j=>hF2 a (by grind) j) hh⟩
  ·have hk2:(s.ops.getD i default).kind=3:=hk;have hnx:=lx (m:=m) (z:=bg s x y) hlt;obtain ⟨g,sk,hsk⟩:∃ g sk,bE s.ops i=g :: sk:=by
    cases hq:bE s.ops i with
    | nil=>exact absurd hq (W.pops i hlt hk)
    | cons g sk=>grind
   cases r with
   | nil=>simp_all
   | cons u r =>
   rw [e,pH hk] at hnx;obtain ⟨vt,vf,vs⟩:=ha.v;have ho:=ha.o;rw [hsk] at ho;have eg:t.op=ah s.ops g:=(List.cons.inj ho).1;have hgl:g<i:=ej (ops:=s.ops) (by grind);have hgk:(ah s.ops g).kind=2:=iz (i:=i) (by grind);obtain ⟨b0,b1,b2,⟨b3,b3'⟩,⟨b4,b4'⟩,⟨b5,b5'⟩,b6,b6'⟩:=uJ C (show g<s.ops.length by omega) (by omega);obtain ⟨_,_,_,q4⟩:=cu.1 (V.ok g (by omega));obtain ⟨_,_,_,q5,q6,_⟩:=q4 (by omega);rw [← eg] at b0 b1 b2 b3 b3' b4 b4' b5 b5' b6 b6' q5 q6;simp only [jn,decide_eq_true_eq] at q5 q6;have hlk:(bE s.ops i).length=r.length+1:=by rw [hlen];rfl
   have hls:(bE s.ops (i+1)).length=r.length:=by rw [eI hk,List.length_tail,hlk];rfl
   have hu:lL (f r.length) u:=hh.2.1;rw [hlk] at hf hst ⊢;have hz:=C.z;have hsm:=Em s t.op x y hs hx hy ⟨by omega,by omega⟩ ⟨by omega,by omega⟩ ⟨by omega,by omega⟩ ⟨by omega,by omega⟩;have hk0:=hz.k0 t.op;have hkm:=hz.km t.op;have htp:=uR m (r.length+1) f (by omega);have hre:=wM t.acc t.back m hm vt.v;have hrv:=pK hm vt.v;have hco:aB Sg 145 [ag [f r.length 12,f r.length 13,f r.length 14,f r.length 15,f r.length 16,f r.length 17]] (fun r=>r = .b (ag (aU ⟨u.acc.c0,u.acc.c1,u.acc.c2,u.acc.a,u.acc.f⟩))):=by
    obtain ⟨e0,e1,e2,e3,e4,e5,e6,e7,e8,e9,e10,e11,e12,e13,e14,e15,e16,e17,e18,e19,e20,e21,e22⟩:=lv0 hu;rw [e12,e13,e14,e15,e16,e17];exact qW u.acc
   have hko:u.op.knockout=true→t.op.operator=4:=fun h=>vf.ctx.elim id fun q=>by grind
   generalize hz1:bg s x y t.op=zz at *
   obtain ⟨p,ms⟩:=zz;dsimp only at hsm hk0 hkm hnx;generalize hres:bU t.acc t.back m=res at *
   repeat' (first|refine aj hk2 ?_|refine aC ?_|(refine aH (fun hb => ?_) (fun hb => ?_) <;> try exact ax))
   refine cM (id:=21) (.br 0 (.br 1 (.br 2 (.br 3 (.br 4 (.br 5 (.br 6 (.br 7 (.br 8 (.br 9 .leaf .nil) .nil) .nil) .nil) (.br 8 (.br 5 (.br 6 (.br 7 (.br 9 .leaf .nil) .nil) .nil) .nil) .nil)) .nil) .nil) .nil) .nil) .nil) (by decide +kernel) bZ (fun K0 hW => ?_);refine (fun (tl:∀ st:St,Le st (aP [(1, .b (I x)),(2, .b (I y)),(3, .b (.c (.ptr 0 0))),(8, .b (U m)),(10, .b (.c (.ptr 1 0))),(12, .b (.c (.own 3 nl))),(13, .b (I i)),(19, .b (.c (.ptr 4 0)))] [(0, .fix ((ay s).map CV.p)),(1, .fix [.p (PU m), .own 2 (r.length+1+1)]),(2, .arr 208 23 (r.length+1+1) f),(3, .arr 197 18 nl gl),(4, .fix ((Nf t).map CV.p))] 5)→K0 st) => ?_) (fun st hl=>hW st _ hl ?_)
   ·clear hW;obtain ⟨e0,e1,e2,e3,e4,e5,e6,e7,e8,e9,e10,e11,e12,e13,e14,e15,e16,e17,e18,e19,e20,e21,e22⟩:=lv0 hf;repeat' (first|exact bp|(refine bO (fun K' hK' => ?_) ?_)|(refine aZ (tl _ ?_);clear tl)|(refine mq (k:=2) htp trivial ?_;(try simp (maxSteps:=999999)(disch:=omega) only [go_sem]);and_intros;(all_goals first|(refine hK' _ ?_;clear hK' K')|trivial|omega|exact Nat.le_of_ble_eq_true rfl|exact ai|skip))|(simp (maxSteps:=999999)(disch:=omega) only [go_sem];and_intros;(all_goals first|(refine hK' _ ?_;clear hK' K')|trivial|omega|exact Nat.le_of_ble_eq_true rfl|exact ai|skip)))
    all_goals
     refine ar [(1,some 1),(2,some 2),(3,some 3),(4,some 5)] ?_ ?_;and_intros;all_goals try exact ak
     all_goals grind
   clear hW hl;repeat' (first|((with_reducible refine aX (id:=26) (fun K hW => ?_));(try simp (maxSteps:=999999)(disch:=omega) only [go_sem]);and_intros;all_goals first|(refine hK _ ?_;clear hK K)|try exact ai)|refine an (fun K hK => ?_)|refine aa (hsm) ?_|refine aa (hre) ?_|(refine aq hK ?_;try clear hK K))
   refine (fun (tl:∀ (n':Nat) (g':Nat→Nat→PV) (st:St),n'≤nl+3→Le st (aP [(1, .b (I x)),(2, .b (I y)),(3, .b (.c (.ptr 0 0))),(8, .b (U m)),(10, .b (.c (.ptr 1 0))),(12, .b (.c (.own 3 n'))),(13, .b (I i)),(21, .b (U ms)),(24, .b (.c (.ptr 4 0)))] [(0, .fix ((ay s).map CV.p)),(1, .fix [.p (PU m), .own 2 (r.length+1+1)]),(2, .arr 208 23 (r.length+1+1) f),(3, .arr 197 18 n' g'),(4, .fix ((aU (aL m t.op res ms)).map CV.p))] 5)→K st) => ?_) (fun n' g' st hn' hl=>hW st _ hl ?_)
   ·clear hW;refine vB 8 (nl+1) i m ms t.op res ?_ ?_ (by omega) hm ⟨vf.op0,vf.opm⟩ hrv ⟨hk0,hkm⟩ ?_ (fun hmk G => ?_) (fun hmk G => ?_)
    ·refine ⟨?w2, ?h2⟩
     case h2=>exact qS
    ·exact ba
    ·refine (?_:jB 0 _).1;repeat' (first|exact a5Q rfl|refine jB.set ?_ _ _|refine jB.newBox ?_ _|refine jB.delBox ?_ _|refine Ym Ll ?_)
    ·refine bV ?_;refine tl (nl+2) G _ (by omega) ?_;refine ar [(1,some 1),(2,some 2),(3,some 15),(4,some 9)] ?_ ?_;and_intros;all_goals try exact ak
    ·refine bV ?_;refine tl (nl+3) G _ (by omega) ?_;refine ar [(1,some 1),(2,some 2),(3,some 18),(4,some 9)] ?_ ?_;and_intros;all_goals try exact ak
   clear hW hl;refine cM (id:=27) (.br 0 (.br 1 (.br 2 (.br 3 (.br 4 (.br 5 (.br 6 (.br 7 (.br 8 (.br 9 (.br 10 (.br 11 (.br 12 .leaf .nil) .nil) .nil) .nil) .nil) .nil) .nil) (.br 11 (.br 5 (.br 6 (.br 7 (.br 8 (.br 9 (.br 10 (.br 12 .leaf .nil) .nil) .nil) .nil) .nil) .nil) .nil) .nil)) .nil) .nil) .nil) .nil) .nil) (by decide +kernel) bZ (fun K0 hW => ?_);refine (fun (tl:∀ st:St,Le st (aP [(1, .b (I x)),(2, .b (I y)),(3, .b (.c (.ptr 0 0))),(8, .b (U m)),(10, .b (.c (.ptr 1 0))),(12, .b (.c (.own 3 n'))),(13, .b (I i)),(21, .b (U ms)),(24, .b (.c (.ptr 4 0))),(25, .b (.c (.ptr 5 0)))] [(0, .fix ((ay s).map CV.p)),(1, .fix [.p (PU m), .own 2 (r.length+1+1)]),(2, .arr 208 23 (r.length+1+1) f),(3, .arr 197 18 n' g'),(4, .fix ((aU (aL m t.op res ms)).map CV.p)),(5, .fix ((aU ⟨u.acc.c0,u.acc.c1,u.acc.c2,u.acc.a,u.acc.f⟩).map CV.p))] 6)→K0 st) => ?_) (fun st hl=>hW st _ hl ?_)
   ·clear hW;repeat' (first|exact bp|(refine bO (fun K' hK' => ?_) ?_)|(refine aZ (tl _ ?_);clear tl)|((first|refine mq (k:=2) htp trivial ?_|refine aa (hco) ?_);(try simp (maxSteps:=999999)(disch:=omega) only [go_sem]);and_intros;(all_goals first|(refine hK' _ ?_;clear hK' K')|trivial|omega|exact Nat.le_of_ble_eq_true rfl|exact ai|skip))|(simp (maxSteps:=999999)(disch:=omega) only [go_sem];and_intros;(all_goals first|(refine hK' _ ?_;clear hK' K')|trivial|omega|exact Nat.le_of_ble_eq_true rfl|exact ai|skip)))
    all_goals
     refine ar [(1,some 1),(2,some 2),(3,some 3),(4,some 4),(5,some 5)] ?_ ?_;and_intros;all_goals try exact ak
   clear hW hl;repeat' (first|refine an (fun K hK => ?_)|(refine aq hK ?_;try clear hK K))
   refine UN 1 2 r.length f m ms t u ?_ ?_ ?_ ?_ (by decide) (by omega) hf hu hm q5 q6 ⟨vf.op0,vf.opm⟩ ⟨hk0,hkm⟩ vt.v vs.head.v hko ?_ (fun F hF1 hF2 => ?_)
   ·exact ba
   ·exact ba
   ·exact ba
   ·exact ba
   ·intro iw hiw
    (try simp (maxSteps:=999999)(disch:=omega) only [go_sem] at hiw ⊢)
    (repeat (refine Eq.trans (if_neg ?_) ?_;(focus omega)))
    (try rfl)
   rw [hres] at hF1 ⊢;have hac2:=JL m r.length F _ (by omega) hF1;have hco2:=qW (nz m t.op (aL m t.op res ms) u).acc;refine bV ?_;refine hK _ ?_;clear hK;refine nc (id:=29) (.br 0 (.br 1 (.br 2 (.br 3 (.br 4 (.br 5 (.br 6 (.br 7 (.br 8 (.br 9 (.br 10 .leaf .nil) .nil) .nil) .nil) .nil) .nil) .nil) .nil) .nil) .nil) .nil) (by decide +kernel) ?_ (fun K0 hW => ?_)
   ·refine ⟨?_,Nat.zero_le _⟩;intro iw hiw
    (try simp (maxSteps:=999999)(disch:=omega) only [go_sem] at hiw ⊢)
    (repeat (refine Eq.trans (if_neg ?_) ?_;(focus omega)))
    (try rfl)
   replace hW:=ka hW;repeat' (first|exact bp|(refine bO (fun K' hK' => ?_) ?_)|(refine aZ (hW _ ?_);clear hW)|((first|refine mq (k:=10) hac2 (Bg _) ?_|refine aa (hco2) ?_);(try simp (maxSteps:=999999)(disch:=omega) only [go_sem]);and_intros;(all_goals first|(refine hK' _ ?_;clear hK' K')|trivial|omega|exact Nat.le_of_ble_eq_true rfl|exact ai|skip))|(simp (maxSteps:=999999)(disch:=omega) only [go_sem];and_intros;(all_goals first|(refine hK' _ ?_;clear hK' K')|trivial|omega|exact Nat.le_of_ble_eq_true rfl|exact ai|skip)))
   refine gi ?_;refine .inl ⟨aP [(1, .b (I x)),(2, .b (I y)),(3, .b (.c (.ptr 0 0))),(8, .b (U m)),(10, .b (.c (.ptr 1 0))),(12, .b (.c (.own 3 (n'+1)))),(13, .b (I i))] [(0, .fix ((ay s).map CV.p)),(1, .fix [.p (PU m), .own 2 (r.length+1)]),(2, .arr 208 23 (r.length+1) F),(3, .arr 197 18 (n'+1) fun _ _ => .any)] 4, ?_, ?_⟩
   ·refine ar [(1,some 1),(2,some 10),(3,some 16)] ?_ ?_;and_intros;all_goals try exact ak
    exact .inr fun _ _ _ _ _ _ _ _=>trivial
   repeat' (refine aC ?_)
   rw [ae];refine ao (i+1,n'+1,F,fun _ _ => .any) ?_ ⟨by omega,by grind, ?_⟩ (by omega)
   ·dsimp only;rw [hls];refine ar [(1,some 1),(2,some 2),(3,some 3)] ?_ ?_;and_intros;all_goals try exact ak
   grind [Gw,od]
 ·have hi2:i=s.ops.length:=by omega
  subst hi2;have hg:decide (((s.ops.length:Nat):Int)<s.ops.length)=false:=decide_eq_false (by omega);have hr0:r=[]:=List.eq_nil_of_length_eq_zero (by rw [← hlen,W.fin];rfl);have hl1:(bE s.ops s.ops.length).length+1=1:=by rw [W.fin];rfl
  have e1:(jP m (bg s x y) s.ops s.ops.length).headD base=t:=by rw [e];rfl
  have h0:lL (f 0) t:=by rw [W.fin] at hf;exact hf
  rw [e1];unfold HM Ks;generalize (bE s.ops s.ops.length).length+1=n1 at *
  subst hl1;repeat' (first|refine aj hg ?_|refine aC ?_)
  refine cJ ⟨fg fun _ _ _ _=>trivial,ZY fun j hj => ?_,trivial⟩;have hj2:j=0∨j=1:=by omega
  rcases hj2 with rfl|rfl
  ·exact PV.le_refl _
  ·show PV.le (.lst 23 1 f) (.lst 23 1 fun _ j=>(Nf t).getD j .any);refine gX fun a h1 b h2 => ?_;have:a=0:=by omega
   subst this;rw [h0 b h2]
end
theorem CC (m:Image) (mx:Int) (hm:Full mx) (h:ImgV m mx):aB Sg 89 [ag (aF m),U mx] (fun r=>r = .b (I 0)):=by
 have hf:=h.f;have h1:=jb m.w m.h;have h2:=sR m;have hff:=hf;rw [show aV m=(dD m.w m.h && dT m) from rfl,Bool.and_eq_true] at hff;obtain ⟨b1,b2,b3,b4⟩:=nh hf;rw [hff.1] at h1;rw [hff.2] at h2;have ht:True:=trivial;by_cases hs:m.solid=true
 ·have hv:=iK m.color mx;have hc:=xz h hs;rw [lA hc] at hv;refine az Tryz.func89 [.tmp 4] ?_;repeat' (first|with_reducible exact cz|refine aj hs ?_|refine aw ?_|refine an (fun K hK => ?_)|refine aa (h1) ?_|refine aa (h2) ?_|refine aa (hv) ?_|(refine aq hK ?_;try clear hK K))
 ·have hs':m.solid=false:=by simpa using hs
  refine az Tryz.func89 [.tmp 4] ?_;repeat' (first|(apply oZ;(case hc=>exact du);(case ht=>(simp only [Int.toNat_natCast,Int.reduceBEq,Int.reduceBNe,Int.reduceLT,Int.reduceLE,decide_true,decide_false,ur,hs'];done)))|refine aw ?_|refine an (fun K hK => ?_)|refine aa (h1) ?_|refine aa (h2) ?_|(refine aq hK ?_;try clear hK K))
  refine aK (X:=Nat) (fun y=>aP [(1, .b (U mx)),(2, .b (.c (.ptr 0 0))),(5, .b (I y))] [(0, .fix ((aF m).map CV.p))] 1) (fun y=>(y:Int)≤m.h) (fun y=>m.h.toNat - y) 0 ?_ ?_ ?_
  ·omega
  ·refine ar [] ?_ ?_;and_intros;all_goals try exact ak
  ·intro y hy;rcases Int.lt_or_le y m.h with hyl|hyg
   ·repeat' (first|refine aC ?_|(refine aH (fun hb => ?_) (fun hb => ?_) <;> try exact ax))
    refine aK (X:=Nat) (fun x=>aP [(1, .b (U mx)),(2, .b (.c (.ptr 0 0))),(5, .b (I y)),(6, .b (I x))] [(0, .fix ((aF m).map CV.p))] 1) (fun x=>(x:Int)≤m.w) (fun x=>m.w.toNat - x) 0 ?_ ?_ ?_
    ·omega
    ·refine ar [] ?_ ?_;and_intros;all_goals try exact ak
    ·intro x hx;rcases Int.lt_or_le x m.w with hxl|hxg
     ·have hp:=Cg m x y hf (by omega) hxl (by omega) hyl;have hv:=iK (fy m x y) mx;rw [lA (h.p x y (by omega) hxl (by omega) hyl)] at hv;generalize fy m x y=q at *
      repeat' (first|((first|apply oZ|apply ph);(case hc=>exact du);(case ht=>(simp only [Int.toNat_natCast,Int.reduceBEq,Int.reduceBNe,Int.reduceLT,Int.reduceLE,decide_true,decide_false,ur,hs'];done)))|refine aw ?_|refine an (fun K hK => ?_)|refine aa (hp) ?_|refine aa (hv) ?_|(refine aH (fun hb => ?_) (fun hb => ?_) <;> try exact ax)|(refine aq hK ?_;try clear hK K))
      rw [ae];refine ao (x+1) ?_ (by omega) (by omega);refine ar [] ?_ ?_;and_intros;all_goals try exact ak
     ·repeat' (first|refine aC ?_|(refine aH (fun hb => ?_) (fun hb => ?_) <;> try exact ax))
      rw [ae];refine ao (y+1) ?_ (by omega) (by omega);refine ar [] ?_ ?_;and_intros;all_goals try exact ak
   ·repeat' (first|with_reducible exact cz|refine aC ?_|(refine aH (fun hb => ?_) (fun hb => ?_) <;> try exact ax))
end Go.Proofs.YtdjmpacladhijaaGreatDoor
namespace Go.SL
open Go
section
variable {S:Env} {ops:Array Oper} {st s1 s2 s':St} {H:List Oper} {K:St→Prop}
end
section
variable {S:Env} {ops:Array Oper} {st s1 s2 s':St} {H:List Oper} {K:St→Prop}
end
section
variable {S:Env} {l:List Oper} {m:Nat→Nat} {K:St→Prop}
theorem Dq {id : Nat} {y : Code} {Q : AExit → St → Prop} {st : St} (s0 : St) (t : Th)
  (hok:(oE l.toArray && dc l.toArray (fun i=>(Region.before l.toArray).getD i 0) && Vv S.rcv l.toArray (fun i=>(Region.before l.toArray).getD i 0) (Array.replicate l.toArray.size false) [] t && yW S.rcv l.toArray (fun i=>(Region.before l.toArray).getD i 0) (Array.replicate l.toArray.size false) [] t && Nat.ble (ln t) l.toArray.size)=true)
  (h:∀ K:St→Prop,(∀ s,Le s s0→K s)→HZ S l.toArray l t [] st K) (hy:cw S y Q s0):cw S (.seq (.region id l.toArray true) y) Q st:=by
 refine Se (fun s=>s=s0) ?_ (fun s hs=>hs ▸ hy);simp only [cw,if_pos];grind [zF,Region.before,ku,Wk]
end
end Go.SL
namespace Go.Proofs.YtdjmpacladhijaaGreatDoor
open Go Go.SL
open Go.RowKit (wrap64)
theorem AP (m:Image) (mx:Int) (hm:Full mx) (h:GC m mx):aB Sg 89 [ag (aF m),U mx] (fun r=>r = .b (I (fX m mx))):=by
 by_cases hv:ImgV m mx
 ·rw [Aj hv];exact CC m mx hm hv
 have h1:=jb m.w m.h;have h2:=sR m;have h3:=iK m.color mx;have ht:True:=trivial;have hfe:aV m=(dD m.w m.h && dT m):=rfl;unfold fX;cases hf:dD m.w m.h
 ·rw [if_pos rfl];rw [hf] at h1;refine az Tryz.func89 [.tmp 4] ?_;repeat' (first|with_reducible exact cz|refine aj ht ?_|refine aw ?_|refine an (fun K hK => ?_)|refine aa (h1) ?_|(refine aq hK ?_;try clear hK K))
 rw [if_neg (by decide)];rw [hf] at h1;cases hp:dT m
 ·rw [hfe,hf,hp,if_pos (by decide)];rw [hp] at h2;refine az Tryz.func89 [.tmp 4] ?_;repeat' (first|with_reducible exact cz|refine aj ht ?_|refine aw ?_|refine an (fun K hK => ?_)|refine aa (h1) ?_|refine aa (h2) ?_|(refine aq hK ?_;try clear hK K))
 have hfo:aV m=true:=by rw [hfe,hf,hp];rfl
 rw [hfo,if_neg (by decide)];rw [hp] at h2;have hs:m.solid=true:=by
  rcases h with h|h|h
  ·exact absurd h hv
  ·rw [hfo] at h;cases h
  ·exact h
 cases hk:oD m.color mx
 ·rw [if_pos ⟨hs,rfl⟩];rw [hk] at h3;refine az Tryz.func89 [.tmp 4] ?_;repeat' (first|with_reducible exact cz|refine aj hs ?_|refine aw ?_|refine an (fun K hK => ?_)|refine aa (h1) ?_|refine aa (h2) ?_|refine aa (h3) ?_|(refine aq hK ?_;try clear hK K))
 ·rw [if_neg (by rintro ⟨_,q⟩;cases q)];rw [hk] at h3;refine az Tryz.func89 [.tmp 4] ?_;repeat' (first|with_reducible exact cz|refine aj hs ?_|refine aw ?_|refine an (fun K hK => ?_)|refine aa (h1) ?_|refine aa (h2) ?_|refine aa (h3) ?_|(refine aq hK ?_;try clear hK K))
theorem Am (s:Script) (hs:ScriptLen s) (hT:bJ s=0→Full (aN s.bits)∧∀ m ∈ s.images,GC m (aN s.bits)):aB Sg 47 [ag (ay s)] (fun r=>r = .tup [I (bz s).1,I (bz s).2]):=by
 have h1:=tJ s hs;have h2:=Cr s hs;have h3:aB Sg 88 [I s.bits] (fun x=>x = .tup [U (aN s.bits),B (decide (s.bits=8∨s.bits=16))]):=ov s.bits;unfold bz;by_cases hf:bJ s=0
 ·obtain ⟨hm,hi⟩:=hT hf;rw [if_neg (by rw [Decidable.not_not];exact hf)];rw [hf] at h1;have ht:True:=trivial;obtain ⟨R,hR⟩:∃ R,(if (gp (aN s.bits) 0 s.images).1≠0 then gp (aN s.bits) 0 s.images else gu s)=R:=⟨_,rfl⟩
  rw [hR];refine az Tryz.func47 [.tmp 2, .tmp 3] ?_;repeat' (first|refine aj ht ?_|refine aw ?_|refine an (fun K hK => ?_)|refine aa (h1) ?_|refine aa (h3) ?_|(refine aq hK ?_;try clear hK K))
  refine aK (X:=Nat) (fun i=>aP [(1, .b (.c (.ptr 0 0))),(5, .b (U (aN s.bits))),(7, .b (I i))] [(0, .fix ((ay s).map CV.p))] 1) (fun i=>i≤s.images.length∧gp (aN s.bits) 0 s.images=gp (aN s.bits) i (s.images.drop i)) (fun i=>s.images.length - i) 0 ?_ ?_ ?_
  ·exact ⟨Nat.zero_le _,by rw [List.drop_zero]⟩
  ·refine ar [] ?_ ?_;and_intros;all_goals try exact ak
  ·rintro i ⟨hil,hgo⟩;have hlen:=hs.images;rcases Nat.lt_or_ge i s.images.length with h|h
   ·rw [yk h] at hgo;have hmem:s.images.getD i default ∈ s.images:=by
     rw [List.getD_eq_getElem?_getD,List.getElem?_eq_getElem h];exact List.getElem_mem _
    have hv:=AP (s.images.getD i default) (aN s.bits) hm (hi _ hmem);by_cases h0:fX (s.images.getD i default) (aN s.bits)=0
    ·rw [if_pos h0] at hgo;rw [h0] at hv
     repeat' (first|refine aj ht ?_|refine aw ?_|refine an (fun K hK => ?_)|refine aa (hv) ?_|(refine aH (fun hb => ?_) (fun hb => ?_) <;> try exact ax)|(refine aq hK ?_;try clear hK K))
     rw [ae];refine ao (i+1) ?_ ⟨by omega,hgo⟩ (by omega);refine ar [] ?_ ?_;and_intros;all_goals try exact ak
    ·rw [if_neg h0] at hgo;have g0:(fX (s.images.getD i default) (aN s.bits) != 0)=true:=by rw [bne_iff_ne];exact h0
     have hR2:R=(fX (s.images.getD i default) (aN s.bits),(i:Int)):=by rw [← hR,hgo,if_pos h0]
     rw [hR2]
     repeat' (first|with_reducible exact cz|refine aj g0 ?_|refine aw ?_|refine an (fun K hK => ?_)|refine aa (hv) ?_|(refine aH (fun hb => ?_) (fun hb => ?_) <;> try exact ax)|(refine aq hK ?_;try clear hK K))
   ·have e:s.images.drop i=[]:=List.drop_eq_nil_of_le h;rw [e] at hgo;have hR2:R=gu s:=by rw [← hR,hgo,if_neg (by simp [gp])]
    rw [← hR2] at h2
    repeat' (first|with_reducible exact cz|refine aw ?_|refine an (fun K hK => ?_)|refine aa (h2) ?_|(refine aH (fun hb => ?_) (fun hb => ?_) <;> try exact ax)|(refine aq hK ?_;try clear hK K))
 ·rw [if_pos hf];have g0:(bJ s != 0)=true:=by rw [bne_iff_ne];exact hf
  refine az Tryz.func47 [.tmp 2, .tmp 3] ?_;repeat' (first|with_reducible exact cz|refine aj g0 ?_|refine aw ?_|refine an (fun K hK => ?_)|refine aa (h1) ?_|(refine aq hK ?_;try clear hK K))
end Go.Proofs.YtdjmpacladhijaaGreatDoor
