/- Part of the proof: T5, T6, T7, T8, U2. -/
import Derived.Test.YtlblgkelhibdoaaGreatDoorM21
set_option linter.unusedSimpArgs false
set_option linter.unusedVariables false
namespace Go.Proofs.YtlblgkelhibdoaaGreatDoor
structure Lv where
 op : Op
 acc : Acc
 back : Pixel
 deriving DecidableEq, Inhabited
def baseOp : Op := ⟨2, 0, 0, 0, 0, 0, 0, 0, 0, 0, true, false⟩
def base : Lv := ⟨baseOp, zAcc, zPix⟩
def scaledM (m : Int) (o : Op) (p : Pixel) (k : Int) : Pixel := scaleM (scaleM p (if o.mask = 0 then m else k) m) o.opacity m
def paintL (m : Int) (o : Op) (s : Pixel) (t : Lv) : Lv := { t with acc := stepM t.op.knockout o.operator o.mode m s t.acc t.back }
def beginL (o : Op) (t : Lv) : Lv := ⟨o, accOf (beginA o.isolated t.op.knockout t.acc t.back), beginA o.isolated t.op.knockout t.acc t.back⟩
def stepL (m : Int) (z : Op → Pixel × Int) (st : List Lv) (o : Op) : List Lv :=
 match st with
 | [] => []
 | t :: r =>
  if o.kind = 1 then paintL m o (scaledM m o (z o).1 (z o).2) t :: r
  else if o.kind = 2 then beginL o t :: t :: r
  else match r with
   | [] => [t]
   | u :: r => paintL m t.op (scaledM m t.op (resultA t.acc t.back m) (z t.op).2) u :: r
def runL (m : Int) (z : Op → Pixel × Int) (ops : List Op) (st : List Lv) : List Lv := ops.foldl (stepL m z) st
theorem run_app {m : Int} {z : Op → Pixel × Int} {a b : List Op} {st : List Lv} : runL m z (a ++ b) st = runL m z b (runL m z a st) := List.foldl_append
theorem run_cons {m : Int} {z : Op → Pixel × Int} {o : Op} {b : List Op} {st : List Lv} : runL m z (o :: b) st = runL m z b (stepL m z st o) := rfl
def valL (m : Int) (st : List Lv) : Pixel := match st with
 | [] => zPix
 | t :: _ => resultA t.acc t.back m
structure SmpV (m : Int) (z : Op → Pixel × Int) : Prop where
 p : ∀ o, PixV (z o).1 m
 k0 : ∀ o, 0 ≤ (z o).2
 km : ∀ o, (z o).2 ≤ m
structure LvV (m : Int) (t : Lv) : Prop where
 v : AccV t.acc t.back m
 iso : t.op.isolated = true → t.back = zPix ∧ t.acc.own = t.acc.a
theorem base_v {m : Int} (hm : Full m) : LvV m base := ⟨zAcc_v hm, fun _ => ⟨rfl, rfl⟩⟩
theorem scaled_v {m : Int} {o : Op} {p : Pixel} {k : Int} (hm : Full m) (hp : PixV p m) (hk : 0 ≤ k) (hkm : k ≤ m) (ho : 0 ≤ o.opacity) (hom : o.opacity ≤ m) : PixV (scaledM m o p k) m := by
 refine scale_v hm (scale_v hm hp ?_ ?_) ho hom
 ·have := hm.pos; split <;> omega
 ·split <;> omega
theorem paint_v {m : Int} {o : Op} {s : Pixel} {t : Lv} (hm : Full m) (hs : PixV s m) (ht : LvV m t) (hop : o.operator = 4 ∨ t.op.isolated = true ∧ t.op.knockout = false) : LvV m (paintL m o s t) := by
 refine ⟨step_v hm hs ht.v ?_, fun hi => ?_⟩
 ·rcases hop with h | ⟨h1, h2⟩
  ·exact .inl h
  ·exact .inr ⟨h2, (ht.iso h1).2⟩
 ·obtain ⟨h1, h2⟩ := ht.iso hi
  exact ⟨h1, step_own (by rw [h1]; rfl) h2⟩
theorem beginL_v {m : Int} {o : Op} {t : Lv} (hm : Full m) (ht : LvV m t) : LvV m (beginL o t) := by
 obtain ⟨h1, h2⟩ := begin_v (i := o.isolated) (k := t.op.knockout) hm ht.v
 refine ⟨accOf_v h1 h2, fun hi => ?_⟩
 have hi : o.isolated = true := hi
 show beginA o.isolated t.op.knockout t.acc t.back = zPix ∧ 0 = (beginA o.isolated t.op.knockout t.acc t.back).a
 rw [beginA, if_pos hi]; exact ⟨rfl, rfl⟩
structure OpFit (m : Int) (t : Op) (o : Op) : Prop where
 op0 : 0 ≤ o.opacity
 opm : o.opacity ≤ m
 ctx : o.operator = 4 ∨ t.isolated = true ∧ t.knockout = false
def StV (m : Int) : List Lv → Prop
 | [] => False
 | [t] => LvV m t ∧ t.op = baseOp
 | t :: u :: r => LvV m t ∧ OpFit m u.op t.op ∧ StV m (u :: r)
theorem StV.head {m : Int} {t : Lv} {r : List Lv} (h : StV m (t :: r)) : LvV m t := by
 cases r with
 | nil => exact h.1
 | cons => exact h.1
theorem StV.repl {m : Int} {t t' : Lv} {r : List Lv} (h : StV m (t :: r)) (h1 : LvV m t') (h2 : t'.op = t.op) : StV m (t' :: r) := by
 cases r with
 | nil => exact ⟨h1, h2.trans h.2⟩
 | cons u r => exact ⟨h1, by rw [h2]; exact h.2.1, h.2.2⟩
def NextOk (m : Int) (st : List Lv) (o : Op) : Prop :=
 match st with
 | [] => False
 | t :: r => (o.kind = 1 ∨ o.kind = 2 → OpFit m t.op o) ∧ (o.kind = 3 → r ≠ [])
theorem step_keep {m : Int} {z : Op → Pixel × Int} {st : List Lv} {o : Op} (hm : Full m) (hz : SmpV m z) (hs : StV m st) (hk : o.kind = 1 ∨ o.kind = 2 ∨ o.kind = 3) (hn : NextOk m st o) : StV m (stepL m z st o) := by
 cases st with
 | nil => exact hs.elim
 | cons t r =>
  obtain ⟨n1, n2⟩ := hn
  unfold stepL
  dsimp only
  split
  ·rename_i h
   have hf := n1 (.inl h)
   exact hs.repl (paint_v hm (scaled_v hm (hz.p o) (hz.k0 o) (hz.km o) hf.op0 hf.opm) hs.head hf.ctx) rfl
  split
  ·rename_i h1 h
   exact ⟨beginL_v hm hs.head, n1 (.inr h), hs⟩
  ·rename_i h1 h2
   cases r with
   | nil => exact absurd rfl (n2 (by omega))
   | cons u r =>
    obtain ⟨s1, s2, s3⟩ := hs
    exact s3.repl (paint_v hm (scaled_v hm (result_v hm s1.v) (hz.k0 _) (hz.km _) s2.op0 s2.opm) s3.head s2.ctx) rfl
theorem step_ops {m : Int} {z : Op → Pixel × Int} {t : Lv} {r : List Lv} {o : Op} :
  (stepL m z (t :: r) o).map Lv.op = if o.kind = 1 then (t :: r).map Lv.op else if o.kind = 2 then o :: (t :: r).map Lv.op else if r = [] then [t.op] else r.map Lv.op := by
 unfold stepL
 dsimp only
 split
 ·rfl
 split
 ·rfl
 ·cases r with
  | nil => rfl
  | cons u r => rfl
theorem ctx_last {f : Nat → Op} {p : Nat} {q : List Nat} : ctxOk ((p :: q).reverse.map f) = true ↔ (f p).isolated = true ∧ (f p).knockout = false := by
 have e : ((p :: q).reverse.map f).getD (((p :: q).reverse.map f).length - 1) default = f p := by
  simp [List.getD_eq_getElem?_getD]
 rw [ctxOk, e]
 simp
def stAt (m : Int) (z : Op → Pixel × Int) (ops : List Op) (i : Nat) : List Lv := runL m z (ops.take i) [base]
theorem take_snoc {ops : List Op} {i : Nat} (hi : i < ops.length) : ops.take (i + 1) = ops.take i ++ [opAt ops i] := by
 rw [List.take_add_one, List.getElem?_eq_getElem hi, opAt, List.getD_eq_getElem?_getD, List.getElem?_eq_getElem hi]; rfl
theorem stAt_succ {m : Int} {z : Op → Pixel × Int} {ops : List Op} {i : Nat} (hi : i < ops.length) : stAt m z ops (i + 1) = stepL m z (stAt m z ops i) (opAt ops i) := by
 unfold stAt
 rw [take_snoc hi, run_app]; rfl
theorem next_of {m : Int} {s : Script} {t : Lv} {r : List Lv} (V : VOps s) (hmx : maxOf s.bits = m) (ho : ∀ o ∈ s.ops, 0 ≤ o.opacity) {i : Nat} (hi : i < s.ops.length) (h2 : (t :: r).map Lv.op = (stk s.ops i).map (opAt s.ops) ++ [baseOp]) : NextOk m (t :: r) (opAt s.ops i) := by
 have he := opErr_zero.1 (V.ok i hi)
 have hop : 0 ≤ (opAt s.ops i).opacity := ho _ (by rw [opAt, List.getD_eq_getElem?_getD, List.getElem?_eq_getElem (by omega)]; exact List.getElem_mem _)
 refine ⟨fun q => ?_, fun q => ?_⟩
 ·obtain ⟨_, _, _, g⟩ := he
  obtain ⟨_, _, g3, _, _, g6, _⟩ := g (by omega)
  refine ⟨hop, by omega, ?_⟩
  by_cases h4 : (opAt s.ops i).operator = 4
  ·exact .inl h4
  ·have hc := g6 h4
   cases hs : stk s.ops i with
   | nil =>
    rw [hs] at h2
    have : t.op = baseOp := (List.cons.inj h2).1
    rw [this]; exact .inr ⟨rfl, rfl⟩
   | cons p q =>
    rw [hs] at h2 hc
    have e : t.op = opAt s.ops p := (List.cons.inj h2).1
    rw [ctx_last] at hc
    rw [e]; exact .inr hc
 ·rintro rfl
  cases hs : stk s.ops i with
  | nil => exact V.wf.pops i (by omega) q hs
  | cons p q =>
   rw [hs] at h2
   have := congrArg List.length h2
   simp at this
def seg (ops : List Op) (i j : Nat) : List Op := (ops.take j).drop i
theorem seg_snoc {ops : List Op} {i j : Nat} (h1 : i ≤ j) (h2 : j < ops.length) : seg ops i (j + 1) = seg ops i j ++ [opAt ops j] := by
 unfold seg
 rw [take_snoc h2, List.drop_append_of_le_length (by rw [List.length_take]; omega)]
theorem run_v {m : Int} {z : Op → Pixel × Int} {s : Script} (hm : Full m) (hz : SmpV m z) (V : VOps s) (hmx : maxOf s.bits = m) (ho : ∀ o ∈ s.ops, 0 ≤ o.opacity) {i : Nat} {st : List Lv}
  (h1 : StV m st) (h2 : st.map Lv.op = (stk s.ops i).map (opAt s.ops) ++ [baseOp]) : ∀ d, i + d ≤ s.ops.length → StV m (runL m z (seg s.ops i (i + d)) st) ∧ (runL m z (seg s.ops i (i + d)) st).map Lv.op = (stk s.ops (i + d)).map (opAt s.ops) ++ [baseOp]
 | 0, _ => by
  have e : seg s.ops i (i + 0) = [] := by
   unfold seg
   rw [List.drop_eq_nil_of_le]; rw [List.length_take]; omega
  rw [e]; exact ⟨h1, h2⟩
 | d + 1, hi => by
  obtain ⟨h1, h2⟩ := run_v hm hz V hmx ho h1 h2 d (by omega)
  rw [show i + (d + 1) = (i + d) + 1 by omega, seg_snoc (by omega) (by omega), run_app]
  generalize runL m z (seg s.ops i (i + d)) st = st at *
  show StV m (stepL m z st _) ∧ _
  have hk := V.wf.kinds (i + d) (by omega)
  cases st with
  | nil => exact h1.elim
  | cons t r =>
   have hn := next_of V hmx ho (show i + d < s.ops.length by omega) h2
   refine ⟨step_keep hm hz h1 hk hn, ?_⟩
   show (stepL m z (t :: r) _).map Lv.op = _
   rw [step_ops]
   rcases hk with k | k | k
   ·rw [if_pos k, stk_draw k]; exact h2
   ·rw [if_neg (by omega), if_pos k, stk_push k]
    exact congrArg (List.cons _) h2
   ·rw [if_neg (by omega), if_neg (by omega), if_neg (hn.2 k), stk_pop k]
    cases hs : stk s.ops (i + d) with
    | nil => exact absurd hs (V.wf.pops (i + d) (by omega) k)
    | cons p q =>
     rw [hs] at h2
     exact (List.cons.inj h2).2
theorem stAt_v {m : Int} {z : Op → Pixel × Int} {s : Script} (hm : Full m) (hz : SmpV m z) (V : VOps s) (hmx : maxOf s.bits = m) (ho : ∀ o ∈ s.ops, 0 ≤ o.opacity) (i : Nat) (hi : i ≤ s.ops.length) :
  StV m (stAt m z s.ops i) ∧ (stAt m z s.ops i).map Lv.op = (stk s.ops i).map (opAt s.ops) ++ [baseOp] := by
 have := run_v hm hz V hmx ho (i := 0) (st := [base]) ⟨base_v hm, rfl⟩ rfl i (by omega)
 rw [Nat.zero_add] at this
 exact this
end Go.Proofs.YtlblgkelhibdoaaGreatDoor
namespace Go.Proofs.YtlblgkelhibdoaaGreatDoor
inductive Elm : List Op → Prop
 | nil : Elm []
 | draw {o : Op} {r : List Op} : o.kind = 1 → Elm r → Elm (o :: r)
 | grp {o p : Op} {l r : List Op} : o.kind = 2 → Elm l → p.kind = 3 → Elm r → Elm (o :: (l ++ p :: r))
def accL (m : Int) (z : Op → Pixel × Int) (l : List Op) (ko : Bool) (a : Acc) (b : Pixel) : Acc := ((runL m z l [⟨{ baseOp with knockout := ko }, a, b⟩]).headD base).acc
section
variable {m : Int} {z : Op → Pixel × Int}
theorem stepL_draw {o : Op} {t : Lv} {r : List Lv} (h : o.kind = 1) : stepL m z (t :: r) o = paintL m o (scaledM m o (z o).1 (z o).2) t :: r := if_pos h
theorem stepL_push {o : Op} {t : Lv} {r : List Lv} (h : o.kind = 2) : stepL m z (t :: r) o = beginL o t :: t :: r := (if_neg (by omega)).trans (if_pos h)
theorem stepL_pop {o : Op} {t u : Lv} {r : List Lv} (h : o.kind = 3) : stepL m z (t :: u :: r) o = paintL m t.op (scaledM m t.op (resultA t.acc t.back m) (z t.op).2) u :: r := (if_neg (by omega)).trans (if_neg (by omega))
theorem run_elm' {l : List Op} (h : Elm l) : ∃ F : Bool → Acc → Pixel → Acc, ∀ t r, runL m z l (t :: r) = { t with acc := F t.op.knockout t.acc t.back } :: r := by
 induction h with
 | nil => exact ⟨fun _ a _ => a, fun _ _ => rfl⟩
 | @draw o r h _ ih =>
  obtain ⟨F, hF⟩ := ih
  refine ⟨fun ko a b => F ko (stepM ko o.operator o.mode m (scaledM m o (z o).1 (z o).2) a b) b, fun t r => ?_⟩
  rw [run_cons, stepL_draw h, hF]; rfl
 | @grp o p l r h1 _ h3 _ ih1 ih2 =>
  obtain ⟨F, hF⟩ := ih1
  obtain ⟨G, hG⟩ := ih2
  refine ⟨fun ko a b => G ko (stepM ko o.operator o.mode m (scaledM m o (resultA (F o.knockout (accOf (beginA o.isolated ko a b)) (beginA o.isolated ko a b)) (beginA o.isolated ko a b) m) (z o).2) a b) b, fun t r => ?_⟩
  rw [run_cons, stepL_push h1, run_app, hF, run_cons, stepL_pop h3, hG]; rfl
theorem run_elm {l : List Op} (h : Elm l) (t : Lv) (r : List Lv) : runL m z l (t :: r) = { t with acc := accL m z l t.op.knockout t.acc t.back } :: r := by
 obtain ⟨F, hF⟩ := run_elm' (m := m) (z := z) h
 have e : ∀ ko a b, accL m z l ko a b = F ko a b := fun ko a b => by
  unfold accL; rw [hF]; rfl
 rw [hF, e]
theorem acc_draw {o : Op} (h : o.kind = 1) {ko : Bool} {a : Acc} {b : Pixel} : accL m z [o] ko a b = stepM ko o.operator o.mode m (scaledM m o (z o).1 (z o).2) a b := by
 unfold accL
 rw [run_cons, stepL_draw h]; rfl
def grpP (m : Int) (z : Op → Pixel × Int) (l : List Op) (ko : Bool) (B : Pixel) : Pixel := resultA (accL m z l ko (accOf B) B) B m
theorem acc_grp {o p : Op} {l : List Op} (h1 : o.kind = 2) (hl : Elm l) (h3 : p.kind = 3) {ko : Bool} {a : Acc} {b : Pixel} :
  accL m z (o :: (l ++ [p])) ko a b = stepM ko o.operator o.mode m (scaledM m o (grpP m z l o.knockout (beginA o.isolated ko a b)) (z o).2) a b := by
 conv => lhs; unfold accL
 rw [run_cons, stepL_push h1, run_app, run_elm hl, run_cons, stepL_pop h3]; rfl
end
section
variable {ops : List Op}
theorem seg_nil {i : Nat} : seg ops i i = [] := by
 unfold seg
 rw [List.drop_eq_nil_of_le]; rw [List.length_take]; omega
theorem seg_app {i j k : Nat} (h1 : i ≤ j) (h2 : j ≤ k) : seg ops i k = seg ops i j ++ seg ops j k := by
 unfold seg
 have e : ops.take j = (ops.take k).take j := by rw [List.take_take, Nat.min_eq_left h2]
 rw [e]
 generalize ops.take k = x
 rcases Nat.lt_or_ge (x.take j).length i with q | q
 rotate_left
 ·conv => lhs; rw [← List.take_append_drop j x]
  rw [List.drop_append_of_le_length q]
 ·rw [List.drop_eq_nil_of_le (Nat.le_of_lt q)]
  rw [List.length_take] at q
  rw [List.drop_eq_nil_of_le (show x.length ≤ i by omega), List.drop_eq_nil_of_le (show x.length ≤ j by omega)]; rfl
theorem seg_one {i : Nat} (h : i < ops.length) : seg ops i (i + 1) = [opAt ops i] := by
 unfold seg
 rw [take_snoc h, List.drop_append_of_le_length (by rw [List.length_take]; omega), List.drop_eq_nil_of_le (by rw [List.length_take]; omega)]; rfl
theorem seg_cons {i j : Nat} (h1 : i < j) (h2 : j ≤ ops.length) : seg ops i j = opAt ops i :: seg ops (i + 1) j := by
 rw [seg_app (show i ≤ i + 1 by omega) (by omega), seg_one (by omega)]; rfl
theorem grp_end (W : Wf ops) {i : Nat} (hi : i < ops.length) (hk : (opAt ops i).kind = 2) :
  (opAt ops (endsM ops i)).kind = 3 ∧ stk ops (endsM ops i) = i :: stk ops i ∧ ∀ k, i + 1 ≤ k → k ≤ endsM ops i → ∃ l, stk ops k = l ++ i :: stk ops i := by
 have he := ends_push W hi hk
 have hel := ends_lt W hi
 have hse := stk_ends W hi (by omega)
 have hin : ∀ k, i + 1 ≤ k → k ≤ endsM ops i → ∃ l, stk ops k = l ++ i :: stk ops i := fun k k1 k2 => by
  have := (open_iff W (show k ≤ ops.length by omega) (by omega)).2 ⟨hk, k2⟩
  obtain ⟨l, t, e⟩ := List.append_of_mem this
  exact ⟨l, by rw [stk_suf e]; exact e⟩
 obtain ⟨l, e⟩ := hin (endsM ops i) (by omega) (Nat.le_refl _)
 have hk3 : (opAt ops (endsM ops i)).kind = 3 := by
  refine (W.kinds _ hel).elim (fun q => ?_) fun q => q.elim (fun q => ?_) id
  ·have h2 := stk_draw (ops := ops) q
   rw [hse, e] at h2
   have := congrArg List.length h2
   simp at this; omega
  ·have h2 := stk_push (ops := ops) q
   rw [hse, e] at h2
   have := congrArg List.length h2
   simp at this; omega
 refine ⟨hk3, ?_, hin⟩
 have h2 := stk_pop (ops := ops) hk3
 rw [hse, e] at h2
 cases l with
 | nil => exact e
 | cons x l =>
  have := congrArg List.length h2
  simp at this; omega
theorem elm_seg (W : Wf ops) : ∀ (d i j : Nat), j - i ≤ d → i ≤ j → j ≤ ops.length → stk ops i = stk ops j → (∀ k, i ≤ k → k ≤ j → (stk ops i).length ≤ (stk ops k).length) → Elm (seg ops i j)
 | 0, i, j, hd, hij, _, _, _ => by
  obtain rfl : j = i := by omega
  rw [seg_nil]; exact .nil
 | d + 1, i, j, hd, hij, hj, hs, hl => by
  rcases Nat.eq_or_lt_of_le hij with rfl | hlt
  ·rw [seg_nil]; exact .nil
  have hi : i < ops.length := by omega
  rcases W.kinds i hi with hk | hk | hk
  ·rw [seg_cons (by omega) hj]
   have h1 := stk_draw (ops := ops) (i := i) hk
   exact .draw hk (elm_seg W d (i + 1) j (by omega) (by omega) hj (h1.trans hs) fun k k1 k2 => by rw [h1]; exact hl k (by omega) k2)
  ·have he := ends_push W hi hk
   have hel := ends_lt W hi
   have hse := stk_ends W hi (by omega)
   have h1 := stk_push (ops := ops) (i := i) hk
   have nin : i ∉ stk ops i := fun q => by have := stk_lt q; omega
   have hej : endsM ops i < j := by
    refine Nat.not_le.1 fun q => nin ?_
    have := (open_iff W hj (by omega)).2 ⟨hk, q⟩
    rwa [← hs] at this
   obtain ⟨hk3, hes, hin⟩ := grp_end W hi hk
   rw [seg_cons (by omega) hj, seg_app (show i + 1 ≤ endsM ops i by omega) (by omega), seg_cons hej hj]
   refine .grp hk (elm_seg W d (i + 1) _ (by omega) (by omega) (by omega) (h1.trans hes.symm) fun k k1 k2 => ?_) hk3
    (elm_seg W d _ j (by omega) (by omega) hj (hse.trans hs) fun k k1 k2 => by rw [hse]; exact hl k (by omega) k2)
   obtain ⟨l, e⟩ := hin k k1 k2
   rw [h1, e, List.length_append]; omega
  ·exfalso
   have h1 := stk_pop (ops := ops) hk
   have h2 := hl (i + 1) (by omega) (by omega)
   rw [h1, List.length_tail] at h2
   have := W.pops i hi hk
   cases hq : stk ops i with
   | nil => exact this hq
   | cons x y =>
    rw [hq, List.length_cons] at h2
    omega
theorem elm_at (W : Wf ops) {i : Nat} (hi : i < ops.length) (hk : (opAt ops i).kind ≠ 3) : Elm (seg ops i (endsM ops i + 1)) := by
 have hel := ends_lt W hi
 have heg := ends_ge W hi
 have hse := stk_ends W hi hk
 refine elm_seg W _ i _ (Nat.le_refl _) (by omega) (by omega) hse.symm fun k k1 k2 => ?_
 rcases W.kinds i hi with h | h | h
 ·rw [ends_draw W hi h] at k2
  have : k = i ∨ k = i + 1 := by omega
  rcases this with rfl | rfl
  ·exact Nat.le_refl _
  ·rw [stk_draw h]; exact Nat.le_refl _
 ·rcases Nat.lt_or_ge k (endsM ops i + 1) with q | q
  ·rcases Nat.eq_or_lt_of_le k1 with rfl | q2
   ·exact Nat.le_refl _
   ·have := (open_iff W (show k ≤ ops.length by omega) q2).2 ⟨h, by omega⟩
    obtain ⟨l, t, e⟩ := List.append_of_mem this
    rw [e, stk_suf e, List.length_append, List.length_cons]; omega
  ·obtain rfl : k = endsM ops i + 1 := by omega
   rw [hse]; exact Nat.le_refl _
 ·exact absurd h hk
theorem elm_in (W : Wf ops) {i : Nat} (hi : i < ops.length) (hk : (opAt ops i).kind = 2) : Elm (seg ops (i + 1) (endsM ops i)) := by
 have he := ends_push W hi hk
 have hel := ends_lt W hi
 have h1 := stk_push (ops := ops) (i := i) hk
 obtain ⟨_, hes, hin⟩ := grp_end W hi hk
 refine elm_seg W _ _ _ (Nat.le_refl _) (by omega) (by omega) (h1.trans hes.symm) fun k k1 k2 => ?_
 obtain ⟨l, e⟩ := hin k k1 k2
 rw [h1, e, List.length_append]; omega
theorem seg_grp (W : Wf ops) {i : Nat} (hi : i < ops.length) (hk : (opAt ops i).kind = 2) : seg ops i (endsM ops i + 1) = opAt ops i :: (seg ops (i + 1) (endsM ops i) ++ [opAt ops (endsM ops i)]) := by
 have he := ends_push W hi hk
 have hel := ends_lt W hi
 rw [seg_cons (by omega) (by omega), seg_app (show i + 1 ≤ endsM ops i by omega) (by omega), seg_one hel]
end
end Go.Proofs.YtlblgkelhibdoaaGreatDoor
namespace Go.Proofs.YtlblgkelhibdoaaGreatDoor
theorem hx_plain {x : Ex} (h : ExOk x) (hq : x.q * x.q * x.r = 0) : hx x = half x.p x.d := by
 have hd : 0 < x.d := h.d0
 obtain ⟨a1, a2⟩ := half_spec (n := x.p) hd
 have sq0 : ∀ u : Int, u * u ≤ 0 → u = 0 := fun u hu => by
  rcases Int.lt_trichotomy u 0 with q | q | q
  ·have := Int.mul_pos_of_neg_of_neg q q; omega
  ·exact q
  ·have := Int.mul_pos q q; omega
 have e0 : 2 * x.q * (2 * x.q) * x.r = 0 := by
  have : 2 * x.q * (2 * x.q) * x.r = 4 * (x.q * x.q * x.r) := by grind
  rw [this, hq]; rfl
 refine hx_uniq h ?_ ?_
 ·simp only [geX, decide_eq_true_eq]
  refine .inl ?_
  rw [Int.sub_mul, Int.mul_assoc, Int.mul_comm _ x.d]; omega
 ·simp only [geX, decide_eq_false_iff_not, e0]
  rw [Int.add_mul, Int.mul_assoc, Int.mul_comm _ x.d]
  rintro (q | q)
  ·omega
  ·have := sq0 _ q; omega
section
variable {op mode m cs sl cb ab : Int}
theorem term_zero (hm : Full m) (hs : Pre cs sl m) (hd : Pre cb ab m) (h0 : sl = 0 ∨ ab = 0) : (blendX mode cs sl cb ab).p = 0 ∧ (blendX mode cs sl cb ab).q * (blendX mode cs sl cb ab).q * (blendX mode cs sl cb ab).r = 0 := by
 have ht := term_ok (mode := mode) hm hs hd
 have e : sl * ab = 0 := by rcases h0 with rfl | rfl <;> simp
 have h1 := ht.le
 have h2 := ht.sq
 have h3 := ht.p0
 rw [e, Int.zero_mul] at h1 h2
 have hp : (blendX mode cs sl cb ab).p = 0 := by omega
 rw [hp] at h2
 refine ⟨hp, Int.le_antisymm (by simpa using h2) ?_⟩
 exact mul_nn (sq_nn _) ht.r0
theorem value_plain (hm : Full m) (hs : Pre cs sl m) (hd : Pre cb ab m) (hq : (blendX mode cs sl cb ab).q * (blendX mode cs sl cb ab).q * (blendX mode cs sl cb ab).r = 0) {k : Int}
  (hv : (valueX op mode m cs sl cb ab).p = k * (m * m * (blendX mode cs sl cb ab).d)) : colorM op mode m cs sl cb ab = k := by
 have ho := value_ok (op := op) (mode := mode) hm hs hd
 unfold colorM
 rw [hx_plain ho ?_, hv]
 ·show half (k * (m * m * (blendX mode cs sl cb ab).d)) (m * m * (blendX mode cs sl cb ab).d) = k
  have : 0 < m * m * (blendX mode cs sl cb ab).d := ho.d0
  rw [Int.mul_comm, half_mul this]
 ·show facA op sl ab m * (blendX mode cs sl cb ab).q * (facA op sl ab m * (blendX mode cs sl cb ab).q) * (blendX mode cs sl cb ab).r = 0
  have : facA op sl ab m * (blendX mode cs sl cb ab).q * (facA op sl ab m * (blendX mode cs sl cb ab).q) * (blendX mode cs sl cb ab).r = facA op sl ab m * facA op sl ab m * ((blendX mode cs sl cb ab).q * (blendX mode cs sl cb ab).q * (blendX mode cs sl cb ab).r) := by grind
  rw [this, hq, Int.mul_zero]
theorem value_p : (valueX op mode m cs sl cb ab).p = (blendX mode cs sl cb ab).p * facA op sl ab m + (m - ab) * cs * facA op sl ab m * (blendX mode cs sl cb ab).d + facB op sl ab m * cb * m * (blendX mode cs sl cb ab).d := rfl
theorem facB_neutral (hop : neutralM op = true) : facB op 0 ab m = m := by
 simp only [neutralM, decide_eq_true_eq] at hop
 unfold facB
 rcases hop with rfl | rfl | rfl | rfl | rfl | rfl <;> simp
theorem color_neutral (hm : Full m) (hd : Pre cb ab m) (hop : neutralM op = true) : colorM op mode m 0 0 cb ab = cb := by
 have hs : Pre 0 0 m := ⟨Int.le_refl _, Int.le_refl _, Int.le_of_lt hm.pos⟩
 obtain ⟨t1, t2⟩ := term_zero (mode := mode) hm hs hd (.inl rfl)
 refine value_plain hm hs hd t2 ?_
 rw [value_p, t1, facB_neutral hop]; grind
theorem alpha_neutral (hm : Full m) (hop : neutralM op = true) : alphaM op 0 ab m = ab := by
 unfold alphaM
 rw [facB_neutral hop, Int.mul_zero, Int.zero_add, half_mul hm.pos]
theorem shape_neutral {g : Int} (hm : Full m) (hop : neutralM op = true) : shapeM op 0 g m = g := by
 simp only [neutralM, decide_eq_true_eq] at hop
 unfold shapeM
 rcases hop with rfl | rfl | rfl | rfl | rfl | rfl <;> simp [half_mul hm.pos]
theorem knock_neutral {c : Int} (hm : Full m) (hd : Pre cb ab m) (hc : 0 ≤ c) (hcm : c ≤ m) : knockC mode m 0 0 0 c cb ab = c := by
 have hs : Pre 0 0 m := ⟨Int.le_refl _, Int.le_refl _, Int.le_of_lt hm.pos⟩
 obtain ⟨t1, t2⟩ := term_zero (mode := mode) hm hs hd (.inl rfl)
 have ho := knock_ok (mode := mode) hm hs hd (Int.le_refl _) (Int.le_of_lt hm.pos) hc hcm
 unfold knockC
 rw [hx_plain ho t2]
 show half ((blendX mode 0 0 cb ab).p + ((m - 0) * c + (0 - 0) * cb + (m - ab) * 0) * (blendX mode 0 0 cb ab).d) (m * (blendX mode 0 0 cb ab).d) = c
 have hd0 : 0 < m * (blendX mode 0 0 cb ab).d := ho.d0
 rw [t1, show 0 + ((m - 0) * c + (0 - 0) * cb + (m - ab) * 0) * (blendX mode 0 0 cb ab).d = m * (blendX mode 0 0 cb ab).d * c by grind, half_mul hd0]
theorem knockA_neutral {acc b : Int} (hm : Full m) : knockA m 0 0 acc b = acc := by
 unfold knockA
 rw [show (m - 0) * acc + (0 - 0) * b + m * 0 = m * acc by grind, half_mul hm.pos]
end
section
variable {ko : Bool} {op mode m : Int} {s : Pixel} {x : Acc} {b : Pixel}
theorem AccV.pre0 (h : AccV x b m) : Pre x.c0 x.a m := ⟨h.n0, h.l0, h.am⟩
theorem AccV.pre1 (h : AccV x b m) : Pre x.c1 x.a m := ⟨h.n1, h.l1, h.am⟩
theorem AccV.pre2 (h : AccV x b m) : Pre x.c2 x.a m := ⟨h.n2, h.l2, h.am⟩
theorem PixV.pre0 (h : PixV s m) : Pre s.c0 s.a m := ⟨h.n0, h.l0, h.am⟩
theorem PixV.pre1 (h : PixV s m) : Pre s.c1 s.a m := ⟨h.n1, h.l1, h.am⟩
theorem PixV.pre2 (h : PixV s m) : Pre s.c2 s.a m := ⟨h.n2, h.l2, h.am⟩
theorem step_neutral (hm : Full m) (h : AccV x b m) (hop : neutralM op = true) (hk : ko = true → op = 4) : stepM ko op mode m zPix x b = x := by
 unfold stepM
 have l0 := h.l0
 have l1 := h.l1
 have l2 := h.l2
 have am := h.am
 split
 ·rename_i hko
  have h4 := hk hko
  subst h4
  simp only [zPix, knock_neutral hm h.bk.pre0 h.n0 (by omega), knock_neutral hm h.bk.pre1 h.n1 (by omega), knock_neutral hm h.bk.pre2 h.n2 (by omega), knockA_neutral hm, shape_neutral hm hop]
 ·simp only [zPix, color_neutral hm h.pre0 hop, color_neutral hm h.pre1 hop, color_neutral hm h.pre2 hop, alpha_neutral hm hop, shape_neutral hm hop]
end
end Go.Proofs.YtlblgkelhibdoaaGreatDoor
namespace Go.Proofs.YtlblgkelhibdoaaGreatDoor
def inR (r : Rect) (x y : Int) : Prop := r.x0 ≤ x ∧ x < r.x1 ∧ r.y0 ≤ y ∧ y < r.y1
def pixelM (m : Image) (x y : Int) : Pixel := if m.solid = true then m.color else ⟨m.p0.s.getD (y * m.p0.stride + x).toNat 0, m.p1.s.getD (y * m.p1.stride + x).toNat 0, m.p2.s.getD (y * m.p2.stride + x).toNat 0, m.p3.s.getD (y * m.p3.stride + x).toNat 0, m.p4.s.getD (y * m.p4.stride + x).toNat 0⟩
def planeOk (p : Plane) : Bool := fitsM p.w p.h && decide (p.w ≤ p.stride) && decide (p.stride ≤ 16777216) && decide ((p.h - 1) * p.stride + p.w ≤ p.s.length)
def planeFit (m : Image) (p : Plane) : Bool := if m.solid = true then decide (p.w = 0) && decide (p.h = 0) && decide (p.stride = 0) && decide (p.s.length = 0) else planeOk p && decide (p.w = m.w) && decide (p.h = m.h)
def formedM (m : Image) : Bool := fitsM m.w m.h && (planeFit m m.p0 && planeFit m m.p1 && planeFit m m.p2 && planeFit m m.p3 && planeFit m m.p4 && (m.solid || decide (m.color = zPix)))
def imgAt (m : Image) (x y : Int) : Pixel := if formedM m = false ∨ x < 0 ∨ m.w ≤ x ∨ y < 0 ∨ m.h ≤ y then zPix else pixelM m x y
def nearM (m : Image) (x y dx dy : Int) : Pixel := if x < dx ∨ y < dy ∨ 1099511627776 ≤ x - dx ∨ 1099511627776 ≤ y - dy then zPix else imgAt m (x - dx) (y - dy)
def smpM (s : Script) (x y : Int) (o : Op) : Pixel × Int :=
 (if o.kind = 1 ∧ 0 ≤ o.image ∧ o.image < s.images.length then nearM (imgM s o.image) x y o.x o.y else zPix,
  if 1 ≤ o.mask ∧ o.mask ≤ s.images.length then (nearM (imgM s (o.mask - 1)) x y o.maskX o.maskY).a else 0)
structure ImgV (m : Image) (mx : Int) : Prop where
 f : formedM m = true
 p : ∀ x y, 0 ≤ x → x < m.w → 0 ≤ y → y < m.h → PixV (pixelM m x y) mx
def ImgsV (s : Script) : Prop := ∀ i : Int, 0 ≤ i → i < s.images.length → ImgV (imgM s i) (maxOf s.bits)
theorem imgAt_v {m : Image} {mx x y : Int} (hm : Full mx) (h : ImgV m mx) : PixV (imgAt m x y) mx := by
 unfold imgAt
 split
 ·exact zPix_v hm
 ·exact h.p x y (by omega) (by omega) (by omega) (by omega)
theorem nearM_v {m : Image} {mx x y dx dy : Int} (hm : Full mx) (h : ImgV m mx) : PixV (nearM m x y dx dy) mx := by
 unfold nearM
 split
 ·exact zPix_v hm
 ·exact imgAt_v hm h
theorem smp_v {s : Script} {m x y : Int} (hm : Full m) (hmx : maxOf s.bits = m) (h : ImgsV s) : SmpV m (smpM s x y) := by
 subst hmx
 have key : ∀ o : Op, 0 ≤ (smpM s x y o).2 ∧ (smpM s x y o).2 ≤ maxOf s.bits := fun o => by
  unfold smpM
  dsimp only
  split
  ·have := nearM_v (x := x) (y := y) (dx := o.maskX) (dy := o.maskY) hm (h (o.mask - 1) (by omega) (by omega))
   exact ⟨this.a0, this.am⟩
  ·have := hm.pos
   omega
 refine ⟨fun o => ?_, fun o => (key o).1, fun o => (key o).2⟩
 unfold smpM
 dsimp only
 split
 ·exact nearM_v hm (h o.image (by omega) (by omega))
 ·exact zPix_v hm
theorem formed_fit {m : Image} (h : formedM m = true) : 1 ≤ m.w ∧ 1 ≤ m.h ∧ m.w ≤ 16777216 ∧ m.h ≤ 16777216 := by
 have : fitsM m.w m.h = true := by
  unfold formedM at h
  rw [Bool.and_eq_true] at h; exact h.1
 obtain ⟨a, b, _, _, c, d⟩ := fits_bound this
 exact ⟨a, b, c, d⟩
theorem isect_in {r q : Rect} {x y : Int} (hr : emptyR r = false) (hq : emptyR q = false) : (emptyR (isect r q) = false ∧ inR (isect r q) x y) ↔ inR r x y ∧ inR q x y := by
 have ⟨a1, a2⟩ := empty_iff.1 hr
 have ⟨b1, b2⟩ := empty_iff.1 hq
 have e : isect r q = cleanR ⟨max r.x0 q.x0, max r.y0 q.y0, min r.x1 q.x1, min r.y1 q.y1⟩ := if_neg (by rw [hr, hq]; simp)
 rw [e]
 unfold cleanR
 split
 ·rename_i he
  constructor
  ·rintro ⟨h, _⟩
   rw [show emptyR ⟨0, 0, 0, 0⟩ = true from by decide] at h; cases h
  ·rintro ⟨h1, h2⟩
   exfalso
   have : emptyR ⟨max r.x0 q.x0, max r.y0 q.y0, min r.x1 q.x1, min r.y1 q.y1⟩ = false := by
    rw [empty_iff]
    unfold inR at h1 h2
    dsimp only
    omega
   rw [this] at he; cases he
 ·rename_i he
  rw [Bool.not_eq_true] at he
  have key : inR ⟨max r.x0 q.x0, max r.y0 q.y0, min r.x1 q.x1, min r.y1 q.y1⟩ x y ↔ inR r x y ∧ inR q x y := by
   unfold inR
   dsimp only
   omega
  exact ⟨fun h => key.1 h.2, fun h => ⟨he, key.2 h⟩⟩
section
variable {s : Script} {x y : Int}
theorem placed_in {i dx dy : Int} (hc : emptyR s.canvas = false) (hxy : inR s.canvas x y) (h0 : 0 ≤ i) (h1 : i < s.images.length) (hf : formedM (imgM s i) = true) (hdx : -1048576 ≤ dx ∧ dx ≤ 1048576) (hdy : -1048576 ≤ dy ∧ dy ≤ 1048576) :
  (emptyR (placedM s i dx dy) = false ∧ inR (placedM s i dx dy) x y) ↔ (0 ≤ x - dx ∧ x - dx < (imgM s i).w ∧ 0 ≤ y - dy ∧ y - dy < (imgM s i).h) := by
 obtain ⟨w0, h0', w1, h1'⟩ := formed_fit hf
 have e : placedM s i dx dy = isect ⟨dx, dy, dx + (imgM s i).w, dy + (imgM s i).h⟩ s.canvas := by
  unfold placedM
  rw [if_neg (by omega), if_neg]
  ·rfl
  ·unfold imgM at *
   simp only [farM, Bool.or_eq_true, decide_eq_true_eq]
   omega
 rw [e, isect_in (by rw [empty_iff]; dsimp only; omega) hc]
 unfold inR at *
 dsimp only
 omega
theorem near_in {m : Image} {dx dy : Int} (hf : formedM m = true) (h : 0 ≤ x - dx ∧ x - dx < m.w ∧ 0 ≤ y - dy ∧ y - dy < m.h) : nearM m x y dx dy = pixelM m (x - dx) (y - dy) := by
 obtain ⟨w0, h0', w1, h1'⟩ := formed_fit hf
 unfold nearM imgAt
 rw [if_neg (by omega), if_neg (by rw [hf]; simp; omega)]
theorem near_out {m : Image} {dx dy : Int} (h : ¬ (0 ≤ x - dx ∧ x - dx < m.w ∧ 0 ≤ y - dy ∧ y - dy < m.h)) : nearM m x y dx dy = zPix := by
 unfold nearM imgAt
 split
 ·rfl
 ·rw [if_pos (by omega)]
end
end Go.Proofs.YtlblgkelhibdoaaGreatDoor
set_option maxHeartbeats 2000000
set_option maxRecDepth 16000
namespace Go.Proofs.YtlblgkelhibdoaaGreatDoor
open Go Go.SL
open Go.RowKit (wrap64)
theorem PixV.u {p : Pixel} {m : Int} (hm : Full m) (h : PixV p m) : p.c0 ≤ 65535 ∧ p.c1 ≤ 65535 ∧ p.c2 ≤ 65535 ∧ p.a ≤ 65535 ∧ p.f ≤ 65535 := by
 have := hm.le
 have := h.l0
 have := h.l1
 have := h.l2
 have := h.af
 have := h.fm
 omega
theorem pixOk_v {p : Pixel} {m : Int} (h : PixV p m) : pixOk p m = true := decide_eq_true ⟨h.l0, h.l1, h.l2, h.af, h.fm⟩
theorem fullB {m : Int} (h : Full m) : decide (m = 255 ∨ m = 65535) = true := decide_eq_true h.h
theorem scale_sp (p : Pixel) (k m : Int) (hm : Full m) (hp : PixV p m) (hk : 0 ≤ k) (hkm : k ≤ m) : Pure Sg 132 [ag (pixE p), U k, U m] (fun r => r = .tup [ag (pixE (scaleM p k m)), B true]) := by
 have hle := hm.le
 have hpos := hm.pos
 have hfs := full_sp m
 rw [fullB hm] at hfs
 have hvs := validPixel_sp p m
 rw [pixOk_v hp] at hvs
 have d1 : decide (k > m) = false := decide_eq_false (by omega)
 have hv := scale_v hm hp hk hkm
 have z0 := hp.n0
 have z1 := hp.n1
 have z2 := hp.n2
 have z3 := hp.a0
 have z4 := hp.f0
 obtain ⟨u0, u1, u2, u3, u4⟩ := hp.u hm
 obtain ⟨v0, v1, v2, v3, v4⟩ := hv.u hm
 have pr : ∀ {x : Int}, 0 ≤ x → x ≤ 65535 → 0 ≤ x * k ∧ x * k ≤ 65535 * 65535 := fun h0 h1 => ⟨mul_nn h0 hk, mul_lr h1 (by omega) hk (by omega)⟩
 have q0 := pr hp.n0 u0
 have q1 := pr hp.n1 u1
 have q2 := pr hp.n2 u2
 have q3 := pr hp.a0 u3
 have q4 := pr hp.f0 u4
 obtain ⟨e0, e1, e2, e3, e4⟩ : (scaleM p k m).c0 = half (p.c0 * k) m ∧ (scaleM p k m).c1 = half (p.c1 * k) m ∧ (scaleM p k m).c2 = half (p.c2 * k) m ∧ (scaleM p k m).a = half (p.a * k) m ∧ (scaleM p k m).f = half (p.f * k) m := ⟨rfl, rfl, rfl, rfl, rfl⟩
 have n0 := hv.n0
 have n1 := hv.n1
 have n2 := hv.n2
 have n3 := hv.a0
 have n4 := hv.f0
 rw [e0] at v0 n0
 rw [e1] at v1 n1
 rw [e2] at v2 n2
 rw [e3] at v3 n3
 rw [e4] at v4 n4
 refine fn_a Tryz.func132 [.cell 6 52, .tmp 7] ?_
 repeat' (first | refine dec_a d1 ?_ | refine un_a ?_ | ((first | refine st_a (fun K hK => ?_) | refine call_c (hfs) ?_ | refine gcall_c (fun hg => hvs) ?_); and_intros; (all_goals first | (refine hK _ ?_; clear hK K) | exact auto_cl | skip)))
 refine cw_loop (X := Int) (fun i => mkSt [(1, .b (U k)), (2, .b (U m)), (3, .b (.c (.ptr 0 0))), (6, .b (.c (.ptr 1 0))), (8, .b (.c (.ptr 2 0))), (9, .b (I i))]
  [(0, .fix ((pixE p).map CV.p)), (1, .fix ((pixE zPix).map CV.p)), (2, .fix [.p (PU (if 0 < i then half (p.c0 * k) m else 0)), .p (PU (if 1 < i then half (p.c1 * k) m else 0)), .p (PU (if 2 < i then half (p.c2 * k) m else 0)), .p (PU 0), .p (PU 0)])] 3) (fun i => 0 ≤ i ∧ i ≤ 3) (fun i => (3 - i).toNat) 0 ?_ ?_ ?_
 ·omega
 ·refine le_a [(1, some 1), (2, some 2)] ?_ ?_
  and_intros
  all_goals first | exact le_cl | skip
 ·intro i hi
  have hiv : i = 0 ∨ i = 1 ∨ i = 2 ∨ i = 3 := by omega
  rcases hiv with rfl | rfl | rfl | rfl
  ·repeat' (first | refine un_a ?_ | ((first | refine st_a (fun K hK => ?_) | refine call_c (half_sp _ m ⟨by omega, by omega⟩ ⟨by omega, by omega⟩) ?_); and_intros; (all_goals first | (refine hK _ ?_; clear hK K) | exact auto_cl | skip)) | (refine if_a (fun hb => ?_) (fun hb => ?_); all_goals try exact bad_a))
   rw [thenQ_normal]
   refine wk_loop 1 ?_ (by omega) (by decide)
   refine le_a [(1, some 1), (2, some 2)] ?_ ?_
   and_intros
   all_goals first | exact le_cl | skip
  ·repeat' (first | refine un_a ?_ | ((first | refine st_a (fun K hK => ?_) | refine call_c (half_sp _ m ⟨by omega, by omega⟩ ⟨by omega, by omega⟩) ?_); and_intros; (all_goals first | (refine hK _ ?_; clear hK K) | exact auto_cl | skip)) | (refine if_a (fun hb => ?_) (fun hb => ?_); all_goals try exact bad_a))
   rw [thenQ_normal]
   refine wk_loop 2 ?_ (by omega) (by decide)
   refine le_a [(1, some 1), (2, some 2)] ?_ ?_
   and_intros
   all_goals first | exact le_cl | skip
  ·repeat' (first | refine un_a ?_ | ((first | refine st_a (fun K hK => ?_) | refine call_c (half_sp _ m ⟨by omega, by omega⟩ ⟨by omega, by omega⟩) ?_); and_intros; (all_goals first | (refine hK _ ?_; clear hK K) | exact auto_cl | skip)) | (refine if_a (fun hb => ?_) (fun hb => ?_); all_goals try exact bad_a))
   rw [thenQ_normal]
   refine wk_loop 3 ?_ (by omega) (by decide)
   refine le_a [(1, some 1), (2, some 2)] ?_ ?_
   and_intros
   all_goals first | exact le_cl | skip
  ·repeat' (first | refine un_a ?_ | ((first | refine st_a (fun K hK => ?_) | refine call_c (half_sp _ m ⟨by omega, by omega⟩ ⟨by omega, by omega⟩) ?_); and_intros; (all_goals first | (refine hK _ ?_; clear hK K) | exact auto_cl | skip)) | (refine if_a (fun hb => ?_) (fun hb => ?_); all_goals try exact bad_a) | (refine ret_a ?_; (try clear hB KB); (try clear hK K)))
   rfl
theorem both_sp (p : Pixel) (k o m : Int) (hm : Full m) (hp : PixV p m) (hk : 0 ≤ k) (hkm : k ≤ m) (ho : 0 ≤ o) (hom : o ≤ m) : Pure Sg 157 [ag (pixE p), U k, U o, U m] (fun r => r = .tup [ag (pixE (scaleM (scaleM p k m) o m)), B true]) := by
 have h1 := scale_sp p k m hm hp hk hkm
 have h2 := scale_sp (scaleM p k m) o m hm (scale_v hm hp hk hkm) ho hom
 have ht : True := trivial
 refine fn_a Tryz.func157 [.cell 8 52, .tmp 9] ?_
 repeat' (first | refine dec_a ht ?_ | refine un_a ?_ | ((first | refine st_a (fun K hK => ?_) | refine call_c (h1) ?_ | refine call_c (h2) ?_); and_intros; (all_goals first | (refine hK _ ?_; clear hK K) | exact auto_cl | skip)) | (refine ret_a ?_; (try clear hB KB); (try clear hK K)))
 rfl
def accE (x : Acc) : List PV := [PU x.c0, PU x.c1, PU x.c2, PU x.a, PU x.own, PU x.f]
attribute [local go_sem] accE
theorem begin_sp (i k : Bool) (x : Acc) (b : Pixel) : Pure Sg 135 [B i, B k, ag (accE x), ag (pixE b)] (fun r => r = .tup [ag (accE (accOf (beginA i k x b))), ag (pixE (beginA i k x b))]) := by
 have ht : True := trivial
 cases i <;> cases k
 all_goals
  refine fn_a Tryz.func135 [.cell 8 154, .cell 9 52] ?_
  repeat' (first | refine dec_a ht ?_ | (((with_reducible refine cw_stepDK (id := 6) [(23, 8), (25, 8), (10, 8), (8, 6), (9, 7)] (by decide +kernel) (by decide +kernel) ?_ (fun K hK => ?_)); (first | (refine And.intro (fun iw hiw => ?_) ?_; (focus ((try simp (maxSteps := 1000000) (disch := omega) only [go_sem] at hiw ⊢); (repeat (refine Eq.trans (if_neg ?_) ?_; (focus omega))); exact hw iw (by omega))); (focus (first | exact Nat.zero_le _ | (simp (maxSteps := 1000000) (disch := omega) only [go_sem]; done) | (simp (maxSteps := 1000000) (disch := omega) only [go_sem]; omega)))) | exact wf_a)); (try simp (maxSteps := 1000000) (disch := omega) only [go_sem]); and_intros; (all_goals first | (refine hK _ (by simp (maxSteps := 1000000) (disch := omega) only [go_sem]) ?_; clear hK K) | exact auto_cl | skip)) | refine un_a ?_ | (refine st_a (fun K hK => ?_); and_intros; (all_goals first | (refine hK _ ?_; clear hK K) | exact auto_cl | skip)) | (refine ret_a ?_; (try clear hB KB); (try clear hK K)))
 all_goals rfl
theorem three {i : Int} (h : 0 ≤ i ∧ i ≤ 3) : i = 0 ∨ i = 1 ∨ i = 2 ∨ i = 3 := by omega
theorem validAccum_sp (x : Acc) (b : Pixel) (m : Int) (hm : Full m) (h : AccV x b m) : Pure Sg 136 [ag (accE x), ag (pixE b), U m] (fun r => r = .b (B true)) := by
 have hfs := full_sp m
 rw [fullB hm] at hfs
 have hvs := validPixel_sp b m
 rw [pixOk_v h.bk] at hvs
 have d0 : decide (x.c0 > x.a) = false := decide_eq_false (by have := h.l0; omega)
 have d1 : decide (x.c1 > x.a) = false := decide_eq_false (by have := h.l1; omega)
 have d2 : decide (x.c2 > x.a) = false := decide_eq_false (by have := h.l2; omega)
 have e1 : decide (x.own ≤ x.a) = true := decide_eq_true h.oa
 have e2 : decide (x.own ≤ x.f) = true := decide_eq_true h.of
 have e3 : decide (x.a ≤ m) = true := decide_eq_true h.am
 have e4 : decide (x.f ≤ m) = true := decide_eq_true h.fm
 have e5 : (b.f == b.a) = true := beq_iff_eq.2 h.bf
 have ht : True := trivial
 refine fn_a Tryz.func136 [.tmp 6] ?_
 repeat' (first | refine un_a ?_ | (refine st_a (fun K hK => ?_); and_intros; (all_goals first | (refine hK _ ?_; clear hK K) | exact auto_cl | skip)))
 refine cw_loop (X := Int) (fun i => mkSt [(2, .b (U m)), (3, .b (.c (.ptr 0 0))), (4, .b (.c (.ptr 1 0))), (7, .b (I i))] [(0, .fix ((accE x).map CV.p)), (1, .fix ((pixE b).map CV.p))] 2) (fun i => 0 ≤ i ∧ i ≤ 3) (fun i => (3 - i).toNat) 0 ?_ ?_ ?_
 ·omega
 ·refine le_a [(1, some 1)] ?_ ?_
  and_intros
  all_goals first | exact le_cl | skip
 ·intro i hi
  rcases three hi with rfl | rfl | rfl | rfl
  ·repeat' (first | refine dec_a d0 ?_ | refine un_a ?_ | (refine st_a (fun K hK => ?_); and_intros; (all_goals first | (refine hK _ ?_; clear hK K) | exact auto_cl | skip)))
   rw [thenQ_normal]
   refine wk_loop 1 ?_ (by omega) (by decide)
   refine le_a [(1, some 1)] ?_ ?_
   and_intros
   all_goals first | exact le_cl | skip
  ·repeat' (first | refine dec_a d1 ?_ | refine un_a ?_ | (refine st_a (fun K hK => ?_); and_intros; (all_goals first | (refine hK _ ?_; clear hK K) | exact auto_cl | skip)))
   rw [thenQ_normal]
   refine wk_loop 2 ?_ (by omega) (by decide)
   refine le_a [(1, some 1)] ?_ ?_
   and_intros
   all_goals first | exact le_cl | skip
  ·repeat' (first | refine dec_a d2 ?_ | refine un_a ?_ | (refine st_a (fun K hK => ?_); and_intros; (all_goals first | (refine hK _ ?_; clear hK K) | exact auto_cl | skip)))
   rw [thenQ_normal]
   refine wk_loop 3 ?_ (by omega) (by decide)
   refine le_a [(1, some 1)] ?_ ?_
   and_intros
   all_goals first | exact le_cl | skip
  ·repeat' (first | refine dec_a ht ?_ | refine un_a ?_ | ((first | refine st_a (fun K hK => ?_) | refine call_c (hfs) ?_ | refine gcall_c (fun hg => hvs) ?_); and_intros; (all_goals first | (refine hK _ ?_; clear hK K) | exact auto_cl | skip)) | (refine ret_a ?_; (try clear hB KB); (try clear hK K)))
   rw [e1, e2, e3, e4, e5]; rfl
theorem resC1_go {c k own m : Int} (hm : 0 < m) (ho : 0 ≤ own) (hu : own ≤ 65535) : (if m * c > (m - own) * k then IntKind.u16.wrap (if own < half (m * c - (m - own) * k) m then own else half (m * c - (m - own) * k) m) else 0) = resC1 c k own m := by
 unfold resC1
 by_cases q : (m - own) * k < m * c
 ·have h := half_nonneg (n := m * c - (m - own) * k) hm (by omega)
  generalize half (m * c - (m - own) * k) m = z at *
  rw [if_pos q, if_pos q]
  split
  ·rw [cast_u16 ho hu]; omega
  ·rw [cast_u16 h (by omega)]; omega
 ·rw [if_neg q, if_neg q]
theorem result_sp (x : Acc) (b : Pixel) (m : Int) (hm : Full m) (h : AccV x b m) : Pure Sg 87 [ag (accE x), ag (pixE b), U m] (fun r => r = .tup [ag (pixE (resultA x b m)), B true]) := by
 have hva := validAccum_sp x b m hm h
 have hle := hm.le
 have hpos := hm.pos
 have hrv := result_v hm h
 obtain ⟨v0, v1, v2, v3, v4⟩ := hrv.u hm
 have o0 := h.o0
 have om := h.om
 have am := h.am
 have bm := h.bk.am
 have fact : ∀ {c k : Int}, 0 ≤ c → c ≤ x.a → 0 ≤ k → k ≤ b.a → 0 ≤ m * c ∧ m * c ≤ 65535 * 65535 ∧ 0 ≤ (m - x.own) * k ∧ (m - x.own) * k ≤ 65535 * 65535 := fun h0 h1 h2 h3 =>
  ⟨mul_nn (by omega) h0, mul_lr hle (by omega) h0 (by omega), mul_nn (by omega) h2, mul_lr (by omega) (by omega) h2 (by omega)⟩
 have n0 := h.n0
 have n1 := h.n1
 have n2 := h.n2
 have l0 := h.l0
 have l1 := h.l1
 have l2 := h.l2
 have b0 := h.bk.n0
 have b1 := h.bk.n1
 have b2 := h.bk.n2
 have k0 := h.bk.l0
 have k1 := h.bk.l1
 have k2 := h.bk.l2
 have q0 := fact n0 l0 b0 k0
 have q1 := fact n1 l1 b1 k1
 have q2 := fact n2 l2 b2 k2
 have ht : True := trivial
 refine fn_a Tryz.func87 [.cell 6 52, .tmp 7] ?_
 repeat' (first | refine dec_a ht ?_ | refine un_a ?_ | ((first | refine st_a (fun K hK => ?_) | refine call_c (hva) ?_); and_intros; (all_goals first | (refine hK _ ?_; clear hK K) | exact auto_cl | skip)))
 refine cw_loop (X := Int) (fun i => mkSt [(2, .b (U m)), (3, .b (.c (.ptr 0 0))), (4, .b (.c (.ptr 1 0))), (6, .b (.c (.ptr 2 0))), (8, .b (.c (.ptr 3 0))), (9, .b (UQ m)), (10, .b (I i))]
  [(0, .fix ((accE x).map CV.p)), (1, .fix ((pixE b).map CV.p)), (2, .fix ((pixE zPix).map CV.p)), (3, .fix [.p (PU (if 0 < i then resC1 x.c0 b.c0 x.own m else 0)), .p (PU (if 1 < i then resC1 x.c1 b.c1 x.own m else 0)), .p (PU (if 2 < i then resC1 x.c2 b.c2 x.own m else 0)), .p (PU x.own), .p (PU x.f)])] 4)
  (fun i => 0 ≤ i ∧ i ≤ 3) (fun i => (3 - i).toNat) 0 ?_ ?_ ?_
 ·omega
 ·refine le_a [(1, some 1), (2, some 2), (3, some 3)] ?_ ?_
  and_intros
  all_goals first | exact le_cl | skip
 ·intro i hi
  rcases three hi with rfl | rfl | rfl | rfl
  ·repeat' (first | refine dec_a ht ?_ | refine un_a ?_ | ((first | refine st_a (fun K hK => ?_) | refine call_c (half_sp _ m ⟨by omega, by omega⟩ ⟨by omega, by omega⟩) ?_); and_intros; (all_goals first | (refine hK _ ?_; clear hK K) | exact auto_cl | skip)) | (apply cw_iteN; (case hf => rfl); (case hc => exact ev_a); (all_goals first | (intro hb; (try simp only [hbs] at hb)) | skip)) | exact atN_intro)
   rw [thenQ_normal]
   refine wk_loop 1 ?_ (by omega) (by decide)
   refine le_a [(1, some 1), (2, some 2), (3, some 3)] ?_ ?_
   and_intros
   all_goals first | exact le_cl | skip
   exact .inl (congrArg (fun v => PV.val (.int .u16 v)) (resC1_go hpos o0 (by omega)))
  ·repeat' (first | refine dec_a ht ?_ | refine un_a ?_ | ((first | refine st_a (fun K hK => ?_) | refine call_c (half_sp _ m ⟨by omega, by omega⟩ ⟨by omega, by omega⟩) ?_); and_intros; (all_goals first | (refine hK _ ?_; clear hK K) | exact auto_cl | skip)) | (apply cw_iteN; (case hf => rfl); (case hc => exact ev_a); (all_goals first | (intro hb; (try simp only [hbs] at hb)) | skip)) | exact atN_intro)
   rw [thenQ_normal]
   refine wk_loop 2 ?_ (by omega) (by decide)
   refine le_a [(1, some 1), (2, some 2), (3, some 3)] ?_ ?_
   and_intros
   all_goals first | exact le_cl | skip
   exact .inl (congrArg (fun v => PV.val (.int .u16 v)) (resC1_go hpos o0 (by omega)))
  ·repeat' (first | refine dec_a ht ?_ | refine un_a ?_ | ((first | refine st_a (fun K hK => ?_) | refine call_c (half_sp _ m ⟨by omega, by omega⟩ ⟨by omega, by omega⟩) ?_); and_intros; (all_goals first | (refine hK _ ?_; clear hK K) | exact auto_cl | skip)) | (apply cw_iteN; (case hf => rfl); (case hc => exact ev_a); (all_goals first | (intro hb; (try simp only [hbs] at hb)) | skip)) | exact atN_intro)
   rw [thenQ_normal]
   refine wk_loop 3 ?_ (by omega) (by decide)
   refine le_a [(1, some 1), (2, some 2), (3, some 3)] ?_ ?_
   and_intros
   all_goals first | exact le_cl | skip
   exact .inl (congrArg (fun v => PV.val (.int .u16 v)) (resC1_go hpos o0 (by omega)))
  ·repeat' (first | refine dec_a ht ?_ | refine un_a ?_ | (refine st_a (fun K hK => ?_); and_intros; (all_goals first | (refine hK _ ?_; clear hK K) | exact auto_cl | skip)) | (refine ret_a ?_; (try clear hB KB); (try clear hK K)))
   rfl
end Go.Proofs.YtlblgkelhibdoaaGreatDoor
