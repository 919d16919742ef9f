/- Part of the proof: Q2, Z1. -/
import Derived.Test.YtmfblbbemekkoaaGreatDoorK29
import Derived.Test.YtmfblbbemekkoaaGreatDoorK30
set_option linter.unusedSimpArgs false
set_option linter.unusedVariables false
set_option maxHeartbeats 8000000
set_option maxRecDepth 16000
namespace Go.Proofs.YtmfblbbemekkoaaGreatDoor
open Go Go.SL
open Go.RowKit (wrap64)
attribute [local go_sem] dI uB cO Int.toNat_natCast
theorem xc {m:Int} {i:Nat} {o:Op} {p:Pixel} {k:Int} (h:o.mask=0):(cN m i o p k).length=1:=by
 unfold cN
 rw [if_pos h];rfl
theorem xl {m:Int} {i:Nat} {o:Op} {p:Pixel} {k:Int} (h:o.mask≠0):(cN m i o p k).length=2:=by
 unfold cN
 rw [if_neg h];rfl
end Go.Proofs.YtmfblbbemekkoaaGreatDoor
set_option maxHeartbeats 8000000
set_option maxRecDepth 16000
namespace Go.Proofs.YtmfblbbemekkoaaGreatDoor
open Go Go.SL
open Go.RowKit (wrap64)
attribute [local go_sem] dI sI cO Int.toNat_natCast
theorem tM {st : St} {K : SV → St → Prop} (m : Int) (hm : Full m) (hw : ∀ i, st.nx ≤ i → st.bx i = none)
  (hK:∀ F:Nat→Nat→PV,eI (F 0) base→K (.tup [.c (.ptr (st.nx+1) 0),I 0]) (st.turn (aA (st.nx+1) (.fix [.p (PU m), .own st.nx 1]) (aA st.nx (.arr 201 23 1 F) st.bx)) (st.nx+2))) :
  dj Sg st 104 [U m] (Sl.of K):=by
 obtain ⟨F,h1,hI⟩:=CF st.bx st.nx m hm hw
 refine dd hI rfl (fun i hi => ?_) (by omega) (hK F h1)
 unfold aA
 rw [if_neg (by omega),if_neg (by omega)]
 exact hw i (by omega)
theorem rT {st : St} {K : SV → St → Prop} (b k n N : Nat) (hN : n + 1 ≤ N) (f : Nat → Nat → PV) (m : Int) (o : Op) (p : Pixel) (ms : Int) (t : Lv)
  (hb:st.bx b=some (.fix [.p (PU m), .own k (n+1)])) (hk:st.bx k=some (.arr 201 23 N f)) (hbn:b<st.nx) (hkn:k<st.nx) (hbk:b≠k) (hn:n≤1000) (hf:eI (f n) t)
  (hm:Full m) (hkd:o.kind=1) (ho:1≤o.operator∧o.operator≤12) (hmo:1≤o.mode∧o.mode≤12) (hop:0≤o.opacity∧o.opacity≤m) (hp:PixV p m) (hms:0≤ms∧ms≤m) (hv:AccV t.acc t.back m) (hko:t.op.knockout=true→o.operator=4) (hw:∀ i,st.nx≤i→st.bx i=none)
  (hK:∀ F:Nat→Nat→PV,eI (F n) (bT m o (az m o p ms) t)→(∀ i,i<n→∀ j,F i j=f i j)→K (.tup [ag (aH (az m o p ms)),I 0]) (st.turn (aA k (.arr 201 23 N F) st.bx) (st.nx+5))) :
  dj Sg st 112 [.c (.ptr b 0),ag (dJ o),ag (aH p),U ms] (Sl.of K):=by
 obtain ⟨F,⟨h1,h2⟩,hI⟩:=AA st.bx st.nx b k n N hN f m o p ms t hb hk hbn hkn hbk hn hf hm hkd ho hmo hop hp hms hv hko hw
 refine dd hI rfl (fun i hi => ?_) (by omega) (hK F h1 h2)
 unfold aA
 rw [if_neg (by omega)]
 exact hw i (by omega)
theorem re {st : St} {K : SV → St → Prop} (b k n N : Nat) (hN : n + 1 ≤ N) (f : Nat → Nat → PV) (m : Int) (o : Op) (t : Lv)
  (hb:st.bx b=some (.fix [.p (PU m), .own k (n+1)])) (hk:st.bx k=some (.arr 201 23 N f)) (hbn:b<st.nx) (hkn:k<st.nx) (hbk:b≠k) (hn:n<64) (hf:eI (f n) t) (hkd:o.kind=2) (hw:∀ i,st.nx≤i→st.bx i=none)
  (hK:∀ F:Nat→Nat→PV,eI (F (n+1)) (fW o t)→(∀ i,i<n+1→∀ j,F i j=f i j)→K (.b (I 0)) (st.turn (aA b (.fix [.p (PU m), .own (st.nx+5) (n+2)]) (aA (st.nx+5) (.arr 201 23 (n+2) F) (dY k st.bx))) (st.nx+6))) :
  dj Sg st 105 [.c (.ptr b 0),ag (dJ o)] (Sl.of K):=by
 obtain ⟨F,⟨h1,h2⟩,hI⟩:=BB st.bx st.nx b k n N hN f m o t hb hk hbn hkn hbk hn hf hkd hw
 refine dd hI rfl (fun i hi => ?_) (by omega) (hK F h1 h2)
 unfold aA dY
 rw [if_neg (by omega),if_neg (by omega),if_neg (by omega)]
 exact hw i (by omega)
theorem te {st : St} {K : SV → St → Prop} (b k n N : Nat) (hN : n + 2 ≤ N) (f : Nat → Nat → PV) (m ms : Int) (t u : Lv)
  (hb:st.bx b=some (.fix [.p (PU m), .own k (n+2)])) (hk:st.bx k=some (.arr 201 23 N f)) (hbn:b<st.nx) (hkn:k<st.nx) (hbk:b≠k) (hn:n<64) (hf:eI (f (n+1)) t) (hf2:eI (f n) u)
  (hm:Full m) (ho:1≤t.op.operator∧t.op.operator≤12) (hmo:1≤t.op.mode∧t.op.mode≤12) (hop:0≤t.op.opacity∧t.op.opacity≤m) (hms:0≤ms∧ms≤m) (hv:AccV t.acc t.back m) (hv2:AccV u.acc u.back m) (hko:u.op.knockout=true→t.op.operator=4) (hw:∀ i,st.nx≤i→st.bx i=none)
  (hK:∀ F:Nat→Nat→PV,eI (F n) (bT m t.op (az m t.op (bl t.acc t.back m) ms) u)→(∀ i,i<n→∀ j,F i j=f i j) →
   K (.tup [ag (aH (az m t.op (bl t.acc t.back m) ms)),I 0]) (st.turn (aA b (.fix [.p (PU m), .own k (n+1)]) (aA k (.arr 201 23 N F) st.bx)) (st.nx+4))) :
  dj Sg st 111 [.c (.ptr b 0),U ms] (Sl.of K):=by
 obtain ⟨F,⟨h1,h2⟩,hI⟩:=ET st.bx st.nx b k n N hN f m ms t u hb hk hbn hkn hbk hn hf hf2 hm ho hmo hop hms hv hv2 hko hw
 refine dd hI rfl (fun i hi => ?_) (by omega) (hK F h1 h2)
 unfold aA
 rw [if_neg (by omega),if_neg (by omega)]
 exact hw i (by omega)
theorem qs (m:Int) (n:Nat) (f:Nat→Nat→PV) (t:Lv) (o:Op) (hl:n≤1000) (hf:eI (f n) t) (hk:o.kind≠3):aD Sg 110 [sI m (n+1) f,ag (dJ o)] (fun x=>x = .b (ag (aH (dU t.acc)))):=by
 have g:(o.kind != 3)=true:=bne_iff_ne.2 hk
 have h1:=jP m n f t hl hf
 have h2:=eM t.acc
 generalize dU t.acc=q at *
 refine aC Tryz.func110 [.cell 4 41] ?_
 repeat' (first|refine aj g ?_|refine ak ?_|((first|refine ai (fun K hK => ?_)|refine ae (h1) ?_|refine ae (h2) ?_);and_intros;all_goals first|(refine hK _ ?_;clear hK K)|try exact aa)|(refine an ?_;(try clear hB KB);(try clear hK K)))
 all_goals (try rfl)
theorem qA (m:Int) (n:Nat) (f:Nat→Nat→PV) (t:Lv) (o:Op) (hl:n<1000) (hf:eI (f n) t) (hk:o.kind=3):aD Sg 110 [sI m (n+1+1) f,ag (dJ o)] (fun x=>x = .b (ag (aH (dU t.acc)))):=by
 have g:(o.kind != 3)=false:=bne_eq_false_iff_eq.2 hk
 have h1:=Cg m n f t hl hf
 have h2:=eM t.acc
 generalize dU t.acc=q at *
 refine aC Tryz.func110 [.cell 4 41] ?_
 repeat' (first|refine aj g ?_|refine ak ?_|((first|refine ai (fun K hK => ?_)|refine ae (h1) ?_|refine ae (h2) ?_);and_intros;all_goals first|(refine hK _ ?_;clear hK K)|try exact aa)|(refine an ?_;(try clear hB KB);(try clear hK K)))
 all_goals (try rfl)
theorem iJ {st : St} {K : SV → St → Prop} {X : Pixel} (b k n N : Nat) (f : Nat → Nat → PV) (m : Int) (o : Op) (hN : n ≤ N) (h : aD Sg 110 [sI m n f, ag (dJ o)] (fun x => x = .b (ag (aH X)))) (hb : st.bx b = some (.fix [.p (PU m), .own k n])) (hk : st.bx k = some (.arr 201 23 N f)) (hK : K (.b (ag (aH X))) st) :
  dj Sg st 110 [.c (.ptr b 0),ag (dJ o)] (Sl.of K):=by
 refine .lend [sI m n f,ag (dJ o)] _ h ?_ ?_ (ig _) hK rfl
 ·rw [List.map_cons,List.map_cons,List.map_nil,mW hb hk hN,mR];exact cG _
 ·intro x hx
  simp only [List.mem_cons,List.not_mem_nil,or_false] at hx
  rcases hx with rfl|rfl
  ·trivial
  ·exact wy
def rA (ops:List Op) (g:Nat→Nat→PV):List Nat→Prop
 | []=>True
 | a :: l=>(∀ c,g l.length c=(dJ (aO ops a)).getD c .any)∧rA ops g l
def yu (n:Nat) (o:Op) (g:Nat→Nat→PV) (i j:Nat):PV:=if i=n then (dJ o).getD j .any else g i j
theorem oS {ops:List Op} {f g:Nat→Nat→PV}:∀ {l:List Nat},(∀ i,i<l.length→∀ j,g i j=f i j)→rA ops f l→rA ops g l
 | [],_,_=>trivial
 | a :: l,h,⟨h1,h2⟩=>⟨fun c=>by rw [h l.length (by simp) c];exact h1 c,oS (fun i hi j=>h i (by simp;omega) j) h2⟩
theorem qk {ops:List Op} {g:Nat→Nat→PV} {l:List Nat} {a:Nat} (h:rA ops g l):rA ops (yu l.length (aO ops a) g) (a :: l) :=
 ⟨fun c=>by unfold yu;rw [if_pos rfl],oS (fun i hi j=>by unfold yu;rw [if_neg (by omega)]) h⟩
end Go.Proofs.YtmfblbbemekkoaaGreatDoor
