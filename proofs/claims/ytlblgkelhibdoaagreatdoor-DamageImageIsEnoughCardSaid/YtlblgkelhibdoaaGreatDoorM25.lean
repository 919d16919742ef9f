/- Part of the proof: Br, BrG, BrS, BrT, F24, TC, DB, DA. -/
import Derived.ChangeArms
import Derived.DataReads
import Derived.DataOpen
import Derived.OpenShut
import Derived.Lib.LaidTab
import Derived.Carry
import Derived.ProofKit
import Derived.WideKeyArgs
import Derived.WalkKit
import GoSem.ClaimJoined
import Derived.Test.YtlblgkelhibdoaaGreatDoorRows
import Derived.KernelRfl
import Derived.Test.YtlblgkelhibdoaaGreatDoorM24
set_option linter.unusedSimpArgs false
set_option linter.unusedVariables false
namespace Go.SL
open Go Go.ChangeShapes
structure Cells (w : World) (cs : List Value) (l : List PV) : Prop where
 len : cs.length = l.length
 one : ∀ j, j < cs.length → (cs.getD j undef).oneCell' = true
 den : ∀ j, j < cs.length → DenP (· < w.heap.size) w (l.getD j .any) (cs.getD j undef)
theorem Cells.nil {w : World} : Cells w [] [] := ⟨rfl, fun j h => absurd h (Nat.not_lt_zero j), fun j h => absurd h (Nat.not_lt_zero j)⟩
theorem getD_left {α : Type} (a b : List α) (d : α) (j : Nat) (h : j < a.length) : (a ++ b).getD j d = a.getD j d := by
 rw [List.getD_eq_getElem?_getD, List.getD_eq_getElem?_getD, List.getElem?_append_left h]
theorem getD_right {α : Type} (a b : List α) (d : α) (j : Nat) (h : a.length ≤ j) : (a ++ b).getD j d = b.getD (j - a.length) d := by
 rw [List.getD_eq_getElem?_getD, List.getD_eq_getElem?_getD, List.getElem?_append_right h]
theorem Cells.append {w : World} {a b : List Value} {l r : List PV} (h : Cells w a l) (k : Cells w b r) : Cells w (a ++ b) (l ++ r) := by
 refine ⟨by rw [List.length_append, List.length_append, h.len, k.len], fun j hj => ?_, fun j hj => ?_⟩
 ·rw [List.length_append] at hj
  by_cases hc : j < a.length
  ·rw [getD_left _ _ _ _ hc]; exact h.one j hc
  ·rw [getD_right _ _ _ _ (by omega)]; exact k.one _ (by omega)
 ·rw [List.length_append] at hj
  by_cases hc : j < a.length
  ·rw [getD_left _ _ _ _ hc, getD_left _ _ _ _ (by rw [← h.len]; exact hc)]; exact h.den j hc
  ·rw [getD_right l r _ _ (by have := h.len; omega), getD_right a b _ _ (by omega), ← h.len]; exact k.den _ (by omega)
theorem Cells.one1 {w : World} {u : Value} {p : PV} (h1 : u.oneCell' = true) (h : DenP (· < w.heap.size) w p u) : Cells w [u] [p] := by
 refine ⟨rfl, fun j hj => ?_, fun j hj => ?_⟩ <;> (obtain rfl : j = 0 := by simp at hj; exact hj)
 ·exact h1
 ·exact h
def Cdc {α : Type} (P : Program) (t : TypeId) (E : α → List PV) (Ok : α → Prop) : Prop :=
 ∀ (H : Type) (enc : TypeId × Value → H) (w : World) (sp : Nat → Bool) (held : Bool) (fuel : Nat) (cs : List Value) (x : DataW H × List MemPlace),
  DataW.trod enc P w 0 sp held fuel t cs = some x → (DataW.weights P t x.1).all (· ≤ reachBytes) = true → ∃ a : α, Ok a ∧ Cells w cs (E a)
theorem Cdc.to {α β : Type} {P : Program} {t : TypeId} {E : α → List PV} {Ok : α → Prop} {E' : β → List PV} {Ok' : β → Prop} (h : Cdc P t E Ok) (g : α → β) (hE : ∀ a, E' (g a) = E a) (hO : ∀ a, Ok a → Ok' (g a)) : Cdc P t E' Ok' := by
 intro H enc w sp held fuel cs x hx hw
 obtain ⟨a, ho, hc⟩ := h H enc w sp held fuel cs x hx hw
 exact ⟨g a, hO a ho, by rw [hE]; exact hc⟩
theorem cdc_int {P : Program} {t : TypeId} {k : IntKind} (ht : P.underlying t = some (.int k)) : Cdc P t (fun n => [PV.val (.int k n)]) (fun n => (Lit.int k n).wf = true) := by
 intro H enc w sp held fuel cs x hx _
 obtain ⟨n, rfl, _, hw⟩ := DataW.trod_int ht hx
 exact ⟨n, hw, Cells.one1 rfl rfl⟩
def fieldsOf (P : Program) (t : TypeId) : Option (List (TypeId × Nat)) :=
 match P.underlying t with
 | some (.struct fs) => some (fs.toList.map fun f => (f.type, f.offset))
 | some (.array m e) => some ((List.range m).map fun i => (e, i * P.cellsOf e))
 | _ => none
theorem weightsEach_all {H : Type} {P : Program} {e : TypeId} : ∀ {ts : List TypeId} {l : List (DataW H)}, ts.length = l.length → (∀ t ∈ ts, t = e) → DataW.weightsEach P ts l = DataW.weightsAll P e l
 | [], [], _, _ => rfl
 | t :: ts, d :: l, hl, h => by
  simp only [DataW.weightsEach, DataW.weightsAll, h t (List.mem_cons_self ..)]
  rw [weightsEach_all (by simpa using hl) (fun x hx => h x (List.mem_cons_of_mem _ hx))]
 | [], _ :: _, hl, _ => by simp at hl
 | _ :: _, [], hl, _ => by simp at hl
theorem trod_parts {H : Type} {enc : TypeId × Value → H} {P : Program} {w : World} {sp : Nat → Bool} {held : Bool} {fuel : Nat} {cs : List Value} {x : DataW H × List MemPlace} {t : TypeId} {l : List (TypeId × Nat)} (h : fieldsOf P t = some l)
  (hx : DataW.trod enc P w 0 sp held fuel t cs = some x) : ∃ (xs : List (DataW H × List MemPlace)) (m : Nat), x = (.agg (xs.map (·.1)), xs.flatMap (·.2)) ∧ cs.length = P.cellsOf t ∧ xs.length = l.length ∧
   (∀ (i : Nat) (f : TypeId × Nat), l[i]? = some f → DataW.trod enc P w 0 sp held m f.1 ((cs.drop f.2).take (P.cellsOf f.1)) = xs[i]?) ∧
   (∀ k : List (DataW H), k.length = l.length → DataW.weights P t (.agg k) = DataW.weightsEach P (l.map (·.1)) k) := by
 unfold fieldsOf at h
 split at h
 ·rename_i fs hu
  cases h
  obtain ⟨xs, m, rfl, rfl, hlen, hxl, hf⟩ := DataW.trod_struct hu hx
  refine ⟨xs, m, rfl, hlen, by simpa using hxl, fun i f hi => ?_, fun k _ => ?_⟩
  ·rw [List.getElem?_map, Option.map_eq_some_iff] at hi
   obtain ⟨g, hg, rfl⟩ := hi
   exact hf i g (by simpa using hg)
  ·simp only [DataW.weights, hu, List.map_map]
   rfl
 ·rename_i m e hu
  cases h
  cases fuel with
  | zero => simp [DataW.trod] at hx
  | succ fuel =>
   simp only [DataW.trod, hu] at hx
   split at hx
   ·rename_i hlen
    obtain ⟨xs, hmm, rfl⟩ := Option.map_eq_some_iff.1 hx
    refine ⟨xs, fuel, rfl, hlen, by simpa using Lib.mapM_length hmm, fun i f hi => ?_, fun k hk => ?_⟩
    ·rw [List.getElem?_map, Option.map_eq_some_iff] at hi
     obtain ⟨g, hg, rfl⟩ := hi
     obtain ⟨b, hb, hf⟩ := Lib.mapM_at hmm i g hg
     have : g = i := by
      rw [List.getElem?_eq_some_iff] at hg
      obtain ⟨_, hg⟩ := hg
      simpa using hg.symm
     subst this
     rw [hb]
     exact hf
    ·simp only [DataW.weights, hu]
     exact (weightsEach_all (by simpa using hk.symm) (fun t ht => by simp at ht; exact ht.2.symm)).symm
   ·cases hx
 ·cases h
def CdcL {β : Type} (P : Program) (fs : List (TypeId × Nat)) (off n : Nat) (E : β → List PV) (Ok : β → Prop) : Prop :=
 ∀ (H : Type) (enc : TypeId × Value → H) (w : World) (sp : Nat → Bool) (held : Bool) (fuel : Nat) (cs : List Value) (xs : List (DataW H × List MemPlace)),
  xs.length = fs.length → (∀ (i : Nat) (f : TypeId × Nat), fs[i]? = some f → DataW.trod enc P w 0 sp held fuel f.1 ((cs.drop f.2).take (P.cellsOf f.1)) = xs[i]?) →
  (DataW.weightsEach P (fs.map (·.1)) (xs.map (·.1))).all (· ≤ reachBytes) = true → ∃ b : β, Ok b ∧ Cells w ((cs.drop off).take n) (E b)
theorem cdcL_nil {P : Program} {off : Nat} : CdcL P [] off 0 (fun _ : Unit => []) (fun _ => True) := by
 intro H enc w sp held fuel cs xs _ _ _
 exact ⟨(), trivial, by rw [List.take_zero]; exact Cells.nil⟩
theorem cdcL_cons {α β : Type} {P : Program} {f : TypeId} {fs : List (TypeId × Nat)} {off k n : Nat} {E : α → List PV} {Ok : α → Prop} {E' : β → List PV} {Ok' : β → Prop}
  (h : Cdc P f E Ok) (hk : P.cellsOf f = k) (hl : CdcL P fs (off + k) n E' Ok') :
  CdcL P ((f, off) :: fs) off (k + n) (fun x : α × β => E x.1 ++ E' x.2) (fun x => Ok x.1 ∧ Ok' x.2) := by
 intro H enc w sp held fuel cs xs hlen hx hw
 obtain ⟨y, ys, rfl⟩ : ∃ y ys, xs = y :: ys := by
  cases xs with
  | nil => simp at hlen
  | cons y ys => exact ⟨y, ys, rfl⟩
 have h0 := hx 0 (f, off) rfl
 simp only [hk] at h0
 simp only [List.getElem?_cons_zero] at h0
 simp only [List.map_cons, DataW.weightsEach, List.all_append, Bool.and_eq_true] at hw
 obtain ⟨a, ha, hca⟩ := h H enc w sp held fuel _ y h0 hw.1
 obtain ⟨b, hb, hcb⟩ := hl H enc w sp held fuel cs ys (by simpa using hlen) (fun i g hg => by have := hx (i + 1) g (by simpa using hg); simpa using this) hw.2
 refine ⟨(a, b), ⟨ha, hb⟩, ?_⟩
 rw [List.take_add, List.drop_drop]
 exact hca.append hcb
theorem cdc_struct {β : Type} {P : Program} {t : TypeId} {fs : List (TypeId × Nat)} {n : Nat} {E : β → List PV} {Ok : β → Prop} (ht : fieldsOf P t = some fs) (hn : P.cellsOf t = n) (h : CdcL P fs 0 n E Ok) : Cdc P t E Ok := by
 intro H enc w sp held fuel cs x hx hw
 obtain ⟨xs, m, rfl, hlen, hxl, hf, hwt⟩ := trod_parts ht hx
 rw [hwt _ (by simpa using hxl)] at hw
 obtain ⟨b, hb, hc⟩ := h H enc w sp held m cs xs hxl hf hw
 refine ⟨b, hb, ?_⟩
 rw [List.drop_zero, List.take_of_length_le (by omega)] at hc
 exact hc
theorem weightsAll_mem {H : Type} {P : Program} {e : TypeId} : ∀ {l : List (DataW H)}, (DataW.weightsAll P e l).all (· ≤ reachBytes) = true → ∀ d ∈ l, (DataW.weights P e d).all (· ≤ reachBytes) = true
 | [], _, d, hd => by cases hd
 | y :: l, h, d, hd => by
  simp only [DataW.weightsAll, List.all_append, Bool.and_eq_true] at h
  cases hd with
  | head => exact h.1
  | tail _ hm => exact weightsAll_mem h.2 d hm
theorem weightsEach_at {H : Type} {P : Program} : ∀ {ts : List TypeId} {ds : List (DataW H)}, (DataW.weightsEach P ts ds).all (· ≤ reachBytes) = true → ∀ (j : Nat) {t : TypeId} {d : DataW H}, ts[j]? = some t → ds[j]? = some d → (DataW.weights P t d).all (· ≤ reachBytes) = true
 | [], _, _, j, t, d, h, _ => by simp at h
 | _ :: _, [], _, j, t, d, _, h => by simp at h
 | t0 :: ts, d0 :: ds, h, 0, t, d, ht, hd => by
  simp only [DataW.weightsEach, List.all_append, Bool.and_eq_true] at h
  simp only [List.getElem?_cons_zero, Option.some.injEq] at ht hd
  subst ht; subst hd
  exact h.1
 | t0 :: ts, d0 :: ds, h, j + 1, t, d, ht, hd => by
  simp only [DataW.weightsEach, List.all_append, Bool.and_eq_true] at h
  exact weightsEach_at h.2 j (by simpa using ht) (by simpa using hd)
theorem choose_list {α : Type} [Inhabited α] {R : Nat → α → Prop} : ∀ (n : Nat), (∀ i, i < n → ∃ y, R i y) → ∃ l : List α, l.length = n ∧ ∀ i, i < n → R i (l.getD i default)
 | 0, _ => ⟨[], rfl, fun i h => absurd h (Nat.not_lt_zero i)⟩
 | n + 1, h => by
  obtain ⟨l, hl, hr⟩ := choose_list n (fun i hi => h i (by omega))
  obtain ⟨y, hy⟩ := h n (by omega)
  refine ⟨l ++ [y], by simp [hl], fun i hi => ?_⟩
  by_cases hc : i < n
  ·rw [getD_left _ _ _ _ (by omega)]; exact hr i hc
  ·obtain rfl : i = n := by omega
   rw [getD_right _ _ _ _ (by omega), hl, Nat.sub_self]
   exact hy
theorem cdc_slice {α : Type} [Inhabited α] {P : Program} {t e : TypeId} {sz by8 : Nat} {E : α → List PV} {Ok : α → Prop} (ht : P.underlying t = some (.slice e)) (hs : P.cellsOf e = sz) (hpos : 0 < sz) (hb : P.bytesOf e = by8) (h : Cdc P e E Ok) :
  Cdc P t (fun l : List α => [PV.lst sz l.length (fnOf E l)]) (fun l => l.length * by8 ≤ reachBytes ∧ ∀ x ∈ l, Ok x) := by
 intro H enc w sp held fuel cs x hx hw
 rcases DataW.trod_slice ht hx with ⟨rfl, rfl⟩ | ⟨a, len, cap, elems, rest, m, rfl, rfl, rfl, hbase, hle, hcap, hel, hev, _, _⟩
 ·exact ⟨[], ⟨by simp, fun x hx => by cases hx⟩, Cells.one1 rfl ⟨none, 0, rfl, Nat.le_refl 0, fun h => absurd h (Nat.lt_irrefl 0)⟩⟩
 ·simp only [DataW.weights, ht, List.all_cons, List.all_append, Bool.and_eq_true, decide_eq_true_eq, List.length_map, hb] at hw
  obtain ⟨hw1, hw2, _⟩ := hw
  have hall := weightsAll_mem hw2
  have each : ∀ i, i < len → ∃ y : α, Ok y ∧ ∃ c, c.length = sz ∧ (∀ j, j < sz → w.cell? ((a.add (i * sz)).add j) = c[j]?) ∧ Cells w c (E y) := by
   intro i hi
   have := hev i hi
   rw [hs, List.getElem?_eq_getElem (by omega), Option.bind_eq_some_iff] at this
   obtain ⟨c, hc, htr⟩ := this
   obtain ⟨_, hlen, hcell⟩ := World.cells?_some hc
   obtain ⟨y, hy, hcy⟩ := h H enc w sp held m c _ htr (hall _ (List.mem_map_of_mem (List.getElem_mem _)))
   exact ⟨y, hy, c, hlen, hcell, hcy⟩
  obtain ⟨l, hl, hR⟩ := choose_list len each
  refine ⟨l, ⟨Nat.le_trans (by rw [hl, ← hel]; exact Nat.mul_le_mul_right _ (Nat.le_add_right _ _)) hw1, fun y hy => ?_⟩, Cells.one1 rfl ⟨some a, cap, by rw [hl], by rw [hl]; exact hle, fun hp => ?_⟩⟩
  ·obtain ⟨i, hi, rfl⟩ := List.getElem_of_mem hy
   have := (hR i (by omega)).1
   rwa [List.getD_eq_getElem?_getD, List.getElem?_eq_getElem hi] at this
  ·rw [hl] at hp
   obtain ⟨b, o, sp0⟩ := a
   obtain ⟨_, c, hlc, hc, hcc⟩ := hR 0 hp
   have h0 := hc 0 hpos
   rw [List.getElem?_eq_getElem (by omega)] at h0
   have hspot : sp0 = none := by simpa [Addr.add] using World.cell?_spot h0
   subst hspot
   refine ⟨b, o, rfl, ?_, fun i hi j hj => ?_⟩
   ·simp only [Nat.zero_mul, Addr.add, if_true] at h0
    unfold World.cell? at h0
    split at h0
    ·rename_i hh
     exact (Array.getElem?_eq_some_iff.1 hh).1
    ·cases h0
   ·rw [hl] at hi
    obtain ⟨_, c, hlc, hc, hcc⟩ := hR i hi
    have hj' := hc j hj
    rw [List.getElem?_eq_getElem (by omega)] at hj'
    have e1 : (Addr.add (Addr.add ⟨b, o, none⟩ (i * sz)) j) = ⟨b, o + (i * sz + j), none⟩ := by
     unfold Addr.add
     by_cases h1 : i * sz = 0 <;> by_cases h2 : j = 0 <;> simp [h1, h2, Nat.add_assoc]
    rw [e1] at hj'
    have o1 := hcc.one j (by omega)
    have d1 := hcc.den j (by omega)
    rw [List.getD_eq_getElem?_getD, List.getElem?_eq_getElem (by omega), Option.getD_some] at o1
    rw [List.getD_eq_getElem?_getD (l := c), List.getElem?_eq_getElem (by omega), Option.getD_some] at d1
    exact ⟨_, hj', o1, d1⟩
theorem Cdc.argN {α : Type} {P : Program} {t : TypeId} {E : α → List PV} {Ok : α → Prop} (h : Cdc P t E Ok) {H : Type} {enc : TypeId × Value → H} {w : World} {sp : Nat → Bool} {held : Bool} {us : Array Value} {d : DataW H} {ps : List MemPlace}
  (hd : DataW.Trod enc P w 0 sp held t (.agg us) d ps) (hw : (DataW.weights P t d).all (· ≤ reachBytes) = true) : ∃ a, Ok a ∧ DenB noRho (· < w.heap.size) w (.agg ((E a).map CV.p)) (.agg us) := by
 obtain ⟨fuel, hf⟩ := hd
 obtain ⟨a, ha, hc⟩ := h H enc w sp held fuel _ _ hf hw
 have hlen : us.size = (E a).length := by have := hc.len; simpa [Value.cells] using this
 refine ⟨a, ha, us, rfl, by simpa using hlen, fun j hj => ?_, fun j => ?_⟩
 ·have := hc.one j (by simpa [Value.cells] using hj)
  simpa [Value.cells] using this
 ·by_cases hj : j < us.size
  ·have h1 := hc.den j (by simpa [Value.cells] using hj)
   have e1 : ((E a).map CV.p).getD j .any = CV.p ((E a).getD j .any) := by
    rw [List.getD_eq_getElem?_getD, List.getD_eq_getElem?_getD, List.getElem?_map]
    cases (E a)[j]? <;> rfl
   rw [e1]
   simpa [Value.cells, DenC] using h1
  ·have e1 : ((E a).map CV.p).getD j .any = CV.any := by
    rw [List.getD_eq_getElem?_getD, List.getElem?_eq_none (by simp; omega)]; rfl
   rw [e1]
   simp [DenC, DenP]
def litV : Lit → Value
 | .int k n => .int k n
 | .bool b => .bool b
 | .string s => .string ⟨s.toArray⟩
 | .float k b => .float k b
 | .nil => .nilIface
mutual
def litCells {H : Type} : DataW H → List Value
 | .lit l => [litV l]
 | .agg parts => litCellsL parts
 | .nil => []
 | .ptr _ => []
 | .slice _ _ => []
 | .iface _ _ => []
 | .map _ => []
 | .held _ => []
def litCellsL {H : Type} : List (DataW H) → List Value
 | [] => []
 | d :: r => litCells d ++ litCellsL r
end
def Lay (H : Type) (P : Program) (t : TypeId) (n : Nat) (d : DataW H) : Prop :=
 ∀ (enc : TypeId × Value → H) (w : World) (sp : Nat → Bool) (held : Bool) (fuel : Nat) (cs : List Value) (ps : List MemPlace), DataW.trod enc P w 0 sp held fuel t cs = some (d, ps) → cs = litCells d ∧ cs.length = n
def LayT (P : Program) (t : TypeId) (n : Nat) : Prop := P.cellsOf t = n ∧ ∀ (H : Type) (d : DataW H), Lay H P t n d
theorem layT_int {P : Program} {t : TypeId} {k : IntKind} (ht : P.underlying t = some (.int k)) (hn : P.cellsOf t = 1) : LayT P t 1 := by
 refine ⟨hn, fun H d enc w sp held fuel cs ps h => ?_⟩
 obtain ⟨n, rfl, hx, _⟩ := DataW.trod_int ht h
 cases hx
 exact ⟨rfl, rfl⟩
theorem layT_str {P : Program} {t : TypeId} (ht : P.underlying t = some .string) (hn : P.cellsOf t = 1) : LayT P t 1 := by
 refine ⟨hn, fun H d enc w sp held fuel cs ps h => ?_⟩
 obtain ⟨s, rfl, hx, _⟩ := DataW.trod_string ht h
 cases hx
 exact ⟨by simp [litCells, litV], rfl⟩
def LayL (P : Program) (fs : List (TypeId × Nat)) (off n : Nat) : Prop :=
 ∀ (H : Type) (enc : TypeId × Value → H) (w : World) (sp : Nat → Bool) (held : Bool) (fuel : Nat) (cs : List Value) (xs : List (DataW H × List MemPlace)),
  xs.length = fs.length → (∀ (i : Nat) (f : TypeId × Nat), fs[i]? = some f → DataW.trod enc P w 0 sp held fuel f.1 ((cs.drop f.2).take (P.cellsOf f.1)) = xs[i]?) →
  (cs.drop off).take n = litCellsL (xs.map (·.1))
theorem layL_nil {P : Program} {off : Nat} : LayL P [] off 0 := by
 intro H enc w sp held fuel cs xs hl _
 obtain rfl : xs = [] := List.length_eq_zero_iff.1 hl
 simp [litCellsL]
theorem layL_cons {P : Program} {f : TypeId} {fs : List (TypeId × Nat)} {off k n : Nat} (h : LayT P f k) (hl : LayL P fs (off + k) n) : LayL P ((f, off) :: fs) off (k + n) := by
 intro H enc w sp held fuel cs xs hlen hx
 obtain ⟨y, ys, rfl⟩ : ∃ y ys, xs = y :: ys := by
  cases xs with
  | nil => simp at hlen
  | cons y ys => exact ⟨y, ys, rfl⟩
 have h0 := hx 0 (f, off) rfl
 simp only [h.1] at h0
 simp only [List.getElem?_cons_zero] at h0
 have e0 := (h.2 H y.1 enc w sp held fuel _ y.2 h0).1
 have e1 := hl H enc w sp held fuel cs ys (by simpa using hlen) (fun i g hg => by have := hx (i + 1) g (by simpa using hg); simpa using this)
 rw [List.take_add, List.drop_drop, e0, e1]
 rfl
theorem layT_struct {P : Program} {t : TypeId} {fs : List (TypeId × Nat)} {n : Nat} (ht : fieldsOf P t = some fs) (hn : P.cellsOf t = n) (h : LayL P fs 0 n) : LayT P t n := by
 refine ⟨hn, fun H d enc w sp held fuel cs ps hx => ?_⟩
 obtain ⟨xs, m, hd, hlen, hxl, hf, _⟩ := trod_parts ht hx
 cases hd
 have := h H enc w sp held m cs xs hxl hf
 rw [List.drop_zero, List.take_of_length_le (by omega)] at this
 exact ⟨by rw [this]; rfl, by omega⟩
theorem lay_rows {H : Type} {P : Program} {e : TypeId} {k : Nat} (h : LayT P e k) {enc : TypeId × Value → H} {w : World} {sp : Nat → Bool} {held : Bool} {fuel : Nat} {cs : List Value} :
  ∀ (m off : Nat) (xs : List (DataW H × List MemPlace)), xs.length = m → (∀ i, i < m → DataW.trod enc P w 0 sp held fuel e ((cs.drop (off + i * k)).take k) = xs[i]?) → (cs.drop off).take (m * k) = litCellsL (xs.map (·.1))
 | 0, off, xs, hl, _ => by
  obtain rfl : xs = [] := List.length_eq_zero_iff.1 hl
  simp [litCellsL]
 | m + 1, off, [], hl, _ => by simp at hl
 | m + 1, off, y :: ys, hl, hx => by
  have h0 := hx 0 (by omega)
  simp only [Nat.zero_mul, Nat.add_zero, List.getElem?_cons_zero] at h0
  have e0 := (h.2 H y.1 enc w sp held fuel _ y.2 h0).1
  have e1 := lay_rows h m (off + k) ys (by simpa using hl) (fun i hi => by
   have := hx (i + 1) (by omega)
   rw [show off + (i + 1) * k = off + k + i * k by rw [Nat.succ_mul]; omega] at this
   simpa using this)
  rw [show (m + 1) * k = k + m * k by rw [Nat.succ_mul]; omega, List.take_add, List.drop_drop, e0, e1]
  rfl
theorem layT_arr {P : Program} {t e : TypeId} {m k n : Nat} (ht : P.underlying t = some (.array m e)) (hn : P.cellsOf t = n) (hm : n = m * k) (h : LayT P e k) : LayT P t n := by
 refine ⟨hn, fun H d enc w sp held fuel cs ps hx => ?_⟩
 cases fuel with
 | zero => simp [DataW.trod] at hx
 | succ fuel =>
  simp only [DataW.trod, ht, h.1] at hx
  split at hx
  ·rename_i hl
   obtain ⟨xs, hmm, hxx⟩ := Option.map_eq_some_iff.1 hx
   cases hxx
   have hxl : xs.length = m := by simpa using Lib.mapM_length hmm
   have := lay_rows (k := k) h (enc := enc) (w := w) (sp := sp) (held := held) (fuel := fuel) (cs := cs) m 0 xs hxl (fun i hi => by
    obtain ⟨b, hb, hf⟩ := Lib.mapM_at hmm i i (by simp [hi])
    rw [Nat.zero_add, hf, hb])
   rw [List.drop_zero, List.take_of_length_le (by omega)] at this
   exact ⟨by rw [this]; rfl, by omega⟩
  ·cases hx
theorem laidVars_mem {P : Program} {w : World} : ∀ {l : List (String × DataW Unit)} {ps : List MemPlace}, DataW.LaidVars P w l ps → ∀ n d, (n, d) ∈ l →
  ∃ g t cs fuel p, P.globalNamed n = some g ∧ (P.globals[g]?).map (·.type) = some t ∧ w.var? P n = some cs ∧ DataW.trod (fun _ => ()) P w 0 (fun _ => true) false fuel t cs.toList = some (d, p)
 | [], _, _, n, d, hm => by cases hm
 | (n0, d0) :: r, ps, h, n, d, hm => by
  obtain ⟨g, t, cs, fuel, p, q, h1, h2, h3, h4, h5, _⟩ := h
  cases hm with
  | head => exact ⟨g, t, cs, fuel, p, h1, h2, h3, h4⟩
  | tail _ hm => exact laidVars_mem h5 n d hm
theorem laid_cells {P : Program} {w : World} {laid : List (String × DataW Unit)} (h : laidMet P laid w) {n : String} {d : DataW Unit} (hm : (n, d) ∈ laid) {g : Nat} {t : TypeId} {k : Nat} (hg : P.globalNamed n = some g)
  (hty : (P.globals[g]?).map (·.type) = some t) (hl : LayT P t k) : g < w.heap.size ∧ ∀ j, j < k → w.cell? ⟨g, j, none⟩ = (litCells d)[j]? := by
 obtain ⟨ps, hv, _⟩ := h
 obtain ⟨g', t', cs, fuel, p, h1, h2, h3, h4⟩ := laidVars_mem hv n d hm
 obtain rfl : g = g' := Option.some.inj (hg.symm.trans h1)
 obtain rfl : t = t' := Option.some.inj (hty.symm.trans h2)
 obtain ⟨e1, e2⟩ := hl.2 Unit d _ _ _ _ _ _ _ h4
 unfold World.var? at h3
 rw [hg, Option.bind_some] at h3
 split at h3
 ·rename_i c tt fr hh
  cases h3
  refine ⟨(Array.getElem?_eq_some_iff.1 hh).1, fun j hj => ?_⟩
  unfold World.cell?
  simp only [hh, Option.isSome_none]
  rw [← e1, Array.getElem?_toList]
  rfl
 ·cases h3
theorem gl_vals {w : World} {g k : Nat} {d : DataW Unit} {vs : List Value} (h : g < w.heap.size ∧ ∀ j, j < k → w.cell? ⟨g, j, none⟩ = (litCells d)[j]?) (hd : litCells d = vs) (hk : vs.length = k) (h1 : vs.all Value.oneCell' = true) :
  g < w.heap.size ∧ ∀ j, j < k → ∃ x, w.cell? ⟨g, j, none⟩ = some x ∧ x.oneCell' = true ∧ DenP (· < w.heap.size) w ((vs.map PV.val).getD j .any) x := by
 refine ⟨h.1, fun j hj => ⟨vs[j]'(by omega), ?_, ?_, ?_⟩⟩
 ·rw [h.2 j hj, hd, List.getElem?_eq_getElem]
 ·exact List.all_eq_true.1 h1 _ (List.getElem_mem _)
 ·rw [List.getD_eq_getElem?_getD, List.getElem?_map, List.getElem?_eq_getElem (by omega)]
  rfl
section
variable {H : Type} {enc : TypeId × Value → H} {P : Program}
theorem trodAll_below (hl : laidOutB P = true) {W W' : World} (hb : RowKit.Below W.heap.size W W') {sp : Nat → Bool} : ∀ {ts : List TypeId} {vs : List Value} {ds : List (DataW H)} {ps : List MemPlace},
  (ts.all fun t => P.readableRec t && decide (t < P.types.size)) = true → DataW.TrodAll enc P W 0 (fun _ => true) true ts vs ds ps → (∀ x ∈ ps, x.block < W.heap.size) → (∀ x ∈ ps, sp x.block = true) → DataW.TrodAll enc P W' 0 sp true ts vs ds ps
 | [], [], [], ps, _, h, _, _ => h
 | t :: ts, v :: vs, d :: ds, ps, hr, h, hlt, hsp => by
  obtain ⟨p, q, h1, h2, rfl⟩ := h
  simp only [List.all_cons, Bool.and_eq_true, decide_eq_true_eq] at hr
  exact ⟨p, q, WideElems.Trod_stays hl hr.1.1 hr.1.2 h1 (fun x hx => hb.same (hlt x (List.mem_append_left _ hx))) (fun x hx => hsp x (List.mem_append_left _ hx)),
   trodAll_below hl hb hr.2 h2 (fun x hx => hlt x (List.mem_append_right _ hx)) (fun x hx => hsp x (List.mem_append_right _ hx)), rfl⟩
 | [], _ :: _, _, _, _, h, _, _ => absurd h (by simp [DataW.TrodAll])
 | [], [], _ :: _, _, _, h, _, _ => absurd h (by simp [DataW.TrodAll])
 | _ :: _, [], _, _, _, h, _, _ => absurd h (by simp [DataW.TrodAll])
 | _ :: _, _ :: _, [], _, _, h, _, _ => absurd h (by simp [DataW.TrodAll])
theorem post_true {fn : Func} {s : ChangeSpec} {fresh handsOn again : Bool} {W W' : World} {args : Array Value} {ds gs : List (DataW H)} {before : List MemPlace} {tb : TypeId} (hl : laidOutB P = true)
  (hread : (fn.params.toList.all fun t => P.readableRec t && decide (t < P.types.size)) = true) (hrt : fn.resultTypes = #[tb]) (htb : P.underlying tb = some .bool) (hv : s.vars = [])
  (hW : DataW.Whole enc P fn.params.toList s.vars false W args.toList ds gs before) (hs : s.fn H ds = { results := [.lit (.bool true)], args := ds }) (hb : RowKit.Below W.heap.size W W') :
  s.post enc P fn false fresh handsOn again W args (.bool true) W' := by
 have hlt := fun p hp => hW.lt p hp
 have hW0 := hW
 obtain ⟨p, q, hA, hV, rfl, hz, hn⟩ := hW0
 rw [hv] at hV
 obtain ⟨rfl, rfl⟩ := trodVars_none hV
 simp only [List.append_nil] at hW hlt hz hn
 have hone : (Value.bool true).resultList fn.resultTypes.size = [.bool true] := by rw [hrt]; rfl
 refine ⟨ds, [], p, [], p, [], hW, ?_, ?_, ?_, hb.frame _, fun _ => ⟨?_, [.lit (.bool true)] ++ ds, [], p, ⟨p, [], ?_, ?_, (List.append_nil p).symm, ?_, fun h => by cases h⟩, fun x hx _ => hx⟩⟩
 ·rw [List.append_nil, hs, hrt]
  exact trodAll_mk1 (RowKit.shut_bool htb _)
 ·rw [List.append_nil, hs]
  exact trodAll_below hl hb hread hA hlt (fun x hx => by simpa using hlt x hx)
 ·rw [List.append_nil, hs, hv]
  rfl
 ·exact RowKit.ok_one hrt rfl (RowKit.okWide_bool_mk htb _)
 ·have := trodAll_append (enc := enc) (P := P) (w := W') (base := 0) (spare := fun _ => true) (held := true) (trodAll_below hl hb hread hA hlt (fun _ _ => rfl)) (ts := fn.resultTypes.toList) (vs := (Value.bool true).resultList fn.resultTypes.size) (ds := [.lit (.bool true)]) (p := []) (by rw [hrt]; exact trodAll_mk1 (RowKit.shut_bool htb _))
  exact this
 ·rw [hv]
  rfl
 ·intro b off hm
  have := hz b off hm
  rw [hb.frozen (p := ⟨b, off, none⟩) (hlt _ hm)]
  exact this
theorem den_nil {ok : Nat → Prop} {w : World} : ∀ j, DenB noRho ok w (([] : List BV).getD j .any) (([] : List Value).getD j undef) := fun j => by simp [DenB, DenC, DenP]
theorem den_cons {ok : Nat → Prop} {w : World} {b : BV} {v : Value} {bs : List BV} {vs : List Value} (h : DenB noRho ok w b v) (k : ∀ j, DenB noRho ok w (bs.getD j .any) (vs.getD j undef)) :
  ∀ j, DenB noRho ok w ((b :: bs).getD j .any) ((v :: vs).getD j undef)
 | 0 => h
 | j + 1 => k j
theorem law_calls {S : Env} {f : FuncId} {fn : Func} {s : ChangeSpec} {bvs : List BV} {fresh handsOn again : Bool} {W : World} {args : Array Value} {ds gs : List (DataW H)} {before : List MemPlace} {tb : TypeId}
  (hp : Pure S f bvs (fun r => r = .b (.c (.p (.val (.bool true)))))) (hl : laidOutB S.P = true) (hread : (fn.params.toList.all fun t => S.P.readableRec t && decide (t < S.P.types.size)) = true)
  (hrt : fn.resultTypes = #[tb]) (htb : S.P.underlying tb = some .bool) (hv : s.vars = []) (hW : DataW.Whole enc S.P fn.params.toList s.vars false W args.toList ds gs before)
  (hs : s.fn H ds = { results := [.lit (.bool true)], args := ds }) (hG : GlOk S (· < W.heap.size) W) (hn : args.toList.length = bvs.length) (hd : ∀ j, DenB noRho (· < W.heap.size) W (bvs.getD j .any) (args.toList.getD j undef)) :
  Calls S.P f args W fun e W' => ∃ v, e = .returned v ∧ s.post enc S.P fn false fresh handsOn again W args v W' := by
 have := hp.2 (· < W.heap.size) W args (fun _ h => h) hG (by simpa using hn) (fun j => by have := hd j; rwa [show args.toList.getD j undef = args.getD j undef by simp [List.getD_eq_getElem?_getD, Array.getD_eq_getD_getElem?]] at this)
 refine this.mono fun e W' h => ?_
 obtain ⟨v, r, he, hr, _, hb, hdn⟩ := h
 subst hr
 obtain rfl : v = .bool true := hdn
 exact ⟨_, he, post_true hl hread hrt htb hv hW hs hb⟩
theorem arg_struct {α : Type} {t : TypeId} {E : α → List PV} {Ok : α → Prop} (C : Cdc P t E Ok) (ht : (fieldsOf P t).isSome = true) {W : World} {r : Reach} {b0 : Nat} {v : Value} {d : DataW H} {ps : List MemPlace} {sp : Nat → Bool} {held : Bool}
  (hval : Value.okWide P W r b0 t v) (hd : DataW.Trod enc P W 0 sp held t v d ps) (hw : (DataW.weights P t d).all (· ≤ reachBytes) = true) : ∃ a, Ok a ∧ DenB noRho (· < W.heap.size) W (.agg ((E a).map CV.p)) v := by
 unfold fieldsOf at ht
 unfold Value.okWide at hval
 split at ht
 ·rename_i fs hu
  rw [hu] at hval
  obtain ⟨cs, rfl, _⟩ := hval
  exact C.argN hd hw
 ·rename_i m e hu
  rw [hu] at hval
  obtain ⟨cs, rfl, _⟩ := hval
  exact C.argN hd hw
 ·cases ht
theorem arg_int {t : TypeId} {k : IntKind} (ht : P.underlying t = some (.int k)) {W : World} {r : Reach} {b0 : Nat} {v : Value} {d : DataW H} {ps : List MemPlace} {sp : Nat → Bool} {held : Bool}
  (hval : Value.okWide P W r b0 t v) (hd : DataW.Trod enc P W 0 sp held t v d ps) : ∃ n, (Lit.int k n).wf = true ∧ DenB noRho (· < W.heap.size) W (.c (.p (.val (.int k n)))) v := by
 obtain ⟨n, rfl, _, _, hw⟩ := open_int ht hval hd
 exact ⟨n, hw, rfl⟩
end
end Go.SL
set_option maxRecDepth 100000
namespace Go.Proofs.YtlblgkelhibdoaaGreatDoor
open Go Go.SL
theorem lt223 : LayT Tryz.prog 223 13 := layT_arr (e := 9) (m := 13) (k := 1) (by kernel_rfl) (by kernel_rfl) (by rfl) (layT_str (t := 9) (by kernel_rfl) (by kernel_rfl))
def gx0 : List Value := [.string ⟨#[]⟩, .string ⟨#[110, 111, 114, 109, 97, 108]⟩, .string ⟨#[109, 117, 108, 116, 105, 112, 108, 121]⟩, .string ⟨#[115, 99, 114, 101, 101, 110]⟩, .string ⟨#[111, 118, 101, 114, 108, 97, 121]⟩, .string ⟨#[100, 97, 114, 107, 101, 110]⟩, .string ⟨#[108, 105, 103, 104, 116, 101, 110]⟩, .string ⟨#[99, 111, 108, 111, 114, 45, 100, 111, 100, 103, 101]⟩, .string ⟨#[99, 111, 108, 111, 114, 45, 98, 117, 114, 110]⟩, .string ⟨#[104, 97, 114, 100, 45, 108, 105, 103, 104, 116]⟩, .string ⟨#[115, 111, 102, 116, 45, 108, 105, 103, 104, 116]⟩, .string ⟨#[100, 105, 102, 102, 101, 114, 101, 110, 99, 101]⟩, .string ⟨#[101, 120, 99, 108, 117, 115, 105, 111, 110]⟩]
theorem gxe0 : g0 = gx0.map PV.val := rfl
theorem gok0 {laid : List (String × DataW Unit)} {W : World} (h : laidMet Tryz.prog laid W) (hm : ∃ n, (n, Rows.laid_compositor_blend_names) ∈ laid ∧ Tryz.prog.globalNamed n = some 0) : 0 < W.heap.size ∧ ∀ j, j < 13 → ∃ x, W.cell? ⟨0, j, none⟩ = some x ∧ x.oneCell' = true ∧ DenP (· < W.heap.size) W (g0.getD j .any) x := by
 rw [gxe0]
 obtain ⟨n, hm, hn⟩ := hm
 exact gl_vals (vs := gx0) (laid_cells h hm (g := 0) (t := 223) hn (by kernel_rfl) lt223) (by kernel_rfl) rfl (by kernel_rfl)
theorem lt220 : LayT Tryz.prog 220 4 := layT_struct (fs := [(9, 0), (3, 1), (3, 2), (3, 3)]) (by kernel_rfl) (by kernel_rfl) (layL_cons (layT_str (t := 9) (by kernel_rfl) (by kernel_rfl)) (layL_cons (layT_int (t := 3) (k := .i64) (by kernel_rfl) (by kernel_rfl)) (layL_cons (layT_int (t := 3) (k := .i64) (by kernel_rfl) (by kernel_rfl)) (layL_cons (layT_int (t := 3) (k := .i64) (by kernel_rfl) (by kernel_rfl)) (layL_nil)))))
theorem lt229 : LayT Tryz.prog 229 52 := layT_arr (e := 220) (m := 13) (k := 4) (by kernel_rfl) (by kernel_rfl) (by rfl) (lt220)
def gx1 : List Value := [.string ⟨#[]⟩, .int .i64 0, .int .i64 0, .int .i64 0, .string ⟨#[99, 108, 101, 97, 114]⟩, .int .i64 0, .int .i64 0, .int .i64 0, .string ⟨#[115, 114, 99]⟩, .int .i64 1, .int .i64 0, .int .i64 1, .string ⟨#[100, 115, 116]⟩, .int .i64 0, .int .i64 1, .int .i64 2, .string ⟨#[115, 114, 99, 45, 111, 118, 101, 114]⟩, .int .i64 1, .int .i64 3, .int .i64 3, .string ⟨#[100, 115, 116, 45, 111, 118, 101, 114]⟩, .int .i64 3, .int .i64 1, .int .i64 3, .string ⟨#[115, 114, 99, 45, 105, 110]⟩, .int .i64 2, .int .i64 0, .int .i64 4, .string ⟨#[100, 115, 116, 45, 105, 110]⟩, .int .i64 0, .int .i64 2, .int .i64 4, .string ⟨#[115, 114, 99, 45, 111, 117, 116]⟩, .int .i64 3, .int .i64 0, .int .i64 1, .string ⟨#[100, 115, 116, 45, 111, 117, 116]⟩, .int .i64 0, .int .i64 3, .int .i64 2, .string ⟨#[115, 114, 99, 45, 97, 116, 111, 112]⟩, .int .i64 2, .int .i64 3, .int .i64 2, .string ⟨#[100, 115, 116, 45, 97, 116, 111, 112]⟩, .int .i64 3, .int .i64 2, .int .i64 1, .string ⟨#[120, 111, 114]⟩, .int .i64 3, .int .i64 3, .int .i64 3]
theorem gxe1 : g1 = gx1.map PV.val := rfl
theorem gok1 {laid : List (String × DataW Unit)} {W : World} (h : laidMet Tryz.prog laid W) (hm : ∃ n, (n, Rows.laid_compositor_operator_rules) ∈ laid ∧ Tryz.prog.globalNamed n = some 1) : 1 < W.heap.size ∧ ∀ j, j < 52 → ∃ x, W.cell? ⟨1, j, none⟩ = some x ∧ x.oneCell' = true ∧ DenP (· < W.heap.size) W (g1.getD j .any) x := by
 rw [gxe1]
 obtain ⟨n, hm, hn⟩ := hm
 exact gl_vals (vs := gx1) (laid_cells h hm (g := 1) (t := 229) hn (by kernel_rfl) lt229) (by kernel_rfl) rfl (by kernel_rfl)
theorem glOk {laid : List (String × DataW Unit)} {W : World} (h : laidMet Tryz.prog laid W) (h0 : ∃ n, (n, Rows.laid_compositor_blend_names) ∈ laid ∧ Tryz.prog.globalNamed n = some 0 := by first | exact ⟨_, .head _, by kernel_rfl⟩ | exact ⟨_, .tail _ (.head _), by kernel_rfl⟩ | exact ⟨_, .tail _ (.tail _ (.head _)), by kernel_rfl⟩ | exact ⟨_, .tail _ (.tail _ (.tail _ (.head _))), by kernel_rfl⟩) (h1 : ∃ n, (n, Rows.laid_compositor_operator_rules) ∈ laid ∧ Tryz.prog.globalNamed n = some 1 := by first | exact ⟨_, .head _, by kernel_rfl⟩ | exact ⟨_, .tail _ (.head _), by kernel_rfl⟩ | exact ⟨_, .tail _ (.tail _ (.head _)), by kernel_rfl⟩ | exact ⟨_, .tail _ (.tail _ (.tail _ (.head _))), by kernel_rfl⟩) : GlOk Sg (· < W.heap.size) W := by
 intro g n f hg
 have hg : glob g = some (n, f) := hg
 unfold glob at hg
 split at hg
 ·rename_i e; subst e; cases hg; exact gok0 h h0
 split at hg
 ·rename_i e; subst e; cases hg; exact gok1 h h1
 cases hg
noncomputable def laidWorld (os : Os) : World := { World.holding Tryz.prog os ⟨#[], #[], []⟩ with heap := (((((World.holding Tryz.prog os ⟨#[], #[], []⟩).heap).modify 0 fun
   | .cells _ t fr => .cells #[.string ⟨#[]⟩, .string ⟨#[110, 111, 114, 109, 97, 108]⟩, .string ⟨#[109, 117, 108, 116, 105, 112, 108, 121]⟩, .string ⟨#[115, 99, 114, 101, 101, 110]⟩, .string ⟨#[111, 118, 101, 114, 108, 97, 121]⟩, .string ⟨#[100, 97, 114, 107, 101, 110]⟩, .string ⟨#[108, 105, 103, 104, 116, 101, 110]⟩, .string ⟨#[99, 111, 108, 111, 114, 45, 100, 111, 100, 103, 101]⟩, .string ⟨#[99, 111, 108, 111, 114, 45, 98, 117, 114, 110]⟩, .string ⟨#[104, 97, 114, 100, 45, 108, 105, 103, 104, 116]⟩, .string ⟨#[115, 111, 102, 116, 45, 108, 105, 103, 104, 116]⟩, .string ⟨#[100, 105, 102, 102, 101, 114, 101, 110, 99, 101]⟩, .string ⟨#[101, 120, 99, 108, 117, 115, 105, 111, 110]⟩] t fr
   | o => o)).modify 1 fun
   | .cells _ t fr => .cells #[.string ⟨#[]⟩, .int .i64 0, .int .i64 0, .int .i64 0, .string ⟨#[99, 108, 101, 97, 114]⟩, .int .i64 0, .int .i64 0, .int .i64 0, .string ⟨#[115, 114, 99]⟩, .int .i64 1, .int .i64 0, .int .i64 1, .string ⟨#[100, 115, 116]⟩, .int .i64 0, .int .i64 1, .int .i64 2, .string ⟨#[115, 114, 99, 45, 111, 118, 101, 114]⟩, .int .i64 1, .int .i64 3, .int .i64 3, .string ⟨#[100, 115, 116, 45, 111, 118, 101, 114]⟩, .int .i64 3, .int .i64 1, .int .i64 3, .string ⟨#[115, 114, 99, 45, 105, 110]⟩, .int .i64 2, .int .i64 0, .int .i64 4, .string ⟨#[100, 115, 116, 45, 105, 110]⟩, .int .i64 0, .int .i64 2, .int .i64 4, .string ⟨#[115, 114, 99, 45, 111, 117, 116]⟩, .int .i64 3, .int .i64 0, .int .i64 1, .string ⟨#[100, 115, 116, 45, 111, 117, 116]⟩, .int .i64 0, .int .i64 3, .int .i64 2, .string ⟨#[115, 114, 99, 45, 97, 116, 111, 112]⟩, .int .i64 2, .int .i64 3, .int .i64 2, .string ⟨#[100, 115, 116, 45, 97, 116, 111, 112]⟩, .int .i64 3, .int .i64 2, .int .i64 1, .string ⟨#[120, 111, 114]⟩, .int .i64 3, .int .i64 3, .int .i64 3] t fr
   | o => o) }
end Go.Proofs.YtlblgkelhibdoaaGreatDoor
set_option maxRecDepth 8000
namespace Go.Proofs.YtlblgkelhibdoaaGreatDoor
open Go Go.SL
theorem wf_i64 {n : Int} (h : (Lit.int .i64 n).wf = true) : i64 n := bounds_i64 h
theorem all_getD {α : Type} [Inhabited α] {p : α → Prop} {l : List α} (h : ∀ x ∈ l, p x) (i : Nat) (hi : i < l.length) : p (l.getD i default) := by
 rw [List.getD_eq_getElem?_getD, List.getElem?_eq_getElem hi]
 exact h _ (List.getElem_mem _)
theorem len_le {n b : Nat} (hb : 0 < b) (h : n * b ≤ reachBytes) : n ≤ 4611686018427387904 := by
 have : n ≤ n * b := Nat.le_mul_of_pos_right _ hb
 have e : reachBytes = 140737488351232 := rfl
 omega
theorem c_int : Cdc Sg.P 3 (fun n => [PI n]) i64 := (cdc_int (k := .i64) (by kernel_rfl)).to id (fun _ => rfl) (fun _ h => wf_i64 h)
theorem c_ints : Cdc Sg.P 22 (fun l => [ints l]) (fun l => l.length ≤ 4611686018427387904 ∧ ∀ x ∈ l, i64 x) :=
 (cdc_slice (sz := 1) (by8 := 8) (by kernel_rfl) (by kernel_rfl) (by decide) (by kernel_rfl) c_int).to id (fun _ => rfl) (fun _ h => ⟨len_le (by decide) h.1, h.2⟩)
theorem c_raw : Cdc Sg.P 87 rawE RawOk := by
 refine Cdc.to (cdc_struct ?_ ?_ (cdcL_cons c_int rfl (cdcL_cons c_int rfl (cdcL_cons c_int rfl (cdcL_cons c_int rfl (cdcL_cons c_int rfl (cdcL_cons c_int rfl (cdcL_cons c_int rfl (cdcL_cons c_int rfl (cdcL_cons c_int rfl (cdcL_cons c_int rfl (cdcL_cons c_int rfl cdcL_nil))))))))))))
  (fun (a, b, c, d, e, f, g, h, i, j, k, _) => (⟨a, b, c, d, e, f, g, h, i, j, k⟩ : Raw)) (fun _ => rfl) ?_
 ·kernel_rfl
 ·kernel_rfl
 ·rintro _ ⟨h1, h2, h3, h4, h5, h6, h7, h8, h9, h10, h11, _⟩
  exact ⟨h1, h2, h3, h4, h5, h6, h7, h8, h9, h10, h11⟩
theorem c_n5 : Cdc Sg.P 136 n5E N5ok := by
 refine Cdc.to (cdc_struct ?_ ?_ (cdcL_cons c_int rfl (cdcL_cons c_int rfl (cdcL_cons c_int rfl (cdcL_cons c_int rfl (cdcL_cons c_int rfl cdcL_nil)))))) (fun (a, b, c, d, e, _) => (⟨a, b, c, d, e⟩ : N5)) (fun _ => rfl) ?_
 ·kernel_rfl
 ·kernel_rfl
 ·rintro _ ⟨h1, h2, h3, h4, h5, _⟩
  exact ⟨h1, h2, h3, h4, h5⟩
theorem c_n5s : Cdc Sg.P 28 (fun l => [n5L l]) (fun l => l.length ≤ 4611686018427387904 ∧ ∀ x ∈ l, N5ok x) :=
 (cdc_slice (sz := 5) (by8 := 40) (by kernel_rfl) (by kernel_rfl) (by decide) (by kernel_rfl) c_n5).to id (fun _ => rfl) (fun _ h => ⟨len_le (by decide) h.1, h.2⟩)
theorem c_row : Cdc Sg.P 30 rowE RowOk := by
 refine Cdc.to (cdc_struct ?_ ?_ (cdcL_cons c_int rfl (cdcL_cons c_n5s rfl cdcL_nil))) (fun (a, b, _) => (⟨a, b⟩ : Row)) (fun _ => rfl) ?_
 ·kernel_rfl
 ·kernel_rfl
 ·rintro _ ⟨h1, h2, _⟩
  exact ⟨h1, all_getD h2.2, h2.1⟩
theorem c_pic : Cdc Sg.P 84 picE PicOk := by
 refine Cdc.to (cdc_struct ?_ ?_ (cdcL_cons c_int rfl (cdcL_cons c_int rfl (cdcL_cons c_int rfl (cdcL_cons c_row rfl cdcL_nil))))) (fun (a, b, c, d, _) => (⟨a, b, c, d⟩ : Pic)) (fun _ => rfl) ?_
 ·kernel_rfl
 ·kernel_rfl
 ·rintro _ ⟨h1, h2, h3, h4, _⟩
  exact ⟨h1, h2, h3, h4⟩
theorem c_pics : Cdc Sg.P 23 (fun l => [picL l]) (fun l => l.length ≤ 4611686018427387904 ∧ ∀ x ∈ l, PicOk x) :=
 (cdc_slice (sz := 5) (by8 := 56) (by kernel_rfl) (by kernel_rfl) (by decide) (by kernel_rfl) c_pic).to id (fun _ => rfl) (fun _ h => ⟨len_le (by decide) h.1, h.2⟩)
theorem c_raws : Cdc Sg.P 24 (fun l => [rawL l]) (fun l => l.length ≤ 4611686018427387904 ∧ ∀ x ∈ l, RawOk x) :=
 (cdc_slice (sz := 11) (by8 := 88) (by kernel_rfl) (by kernel_rfl) (by decide) (by kernel_rfl) c_raw).to id (fun _ => rfl) (fun _ h => ⟨len_le (by decide) h.1, h.2⟩)
theorem c_scene : Cdc Sg.P 26 sceneE SceneOk := by
 refine Cdc.to (cdc_struct ?_ ?_ (cdcL_cons c_int rfl (cdcL_cons c_int rfl (cdcL_cons c_int rfl (cdcL_cons c_int rfl (cdcL_cons c_int rfl (cdcL_cons c_int rfl (cdcL_cons c_int rfl (cdcL_cons c_ints rfl (cdcL_cons c_pics rfl (cdcL_cons c_raws rfl cdcL_nil)))))))))))
  (fun (a, b, c, d, e, f, g, h, i, j, _) => (⟨a, b, c, d, e, f, g, h, i, j⟩ : Scene)) (fun _ => rfl) ?_
 ·kernel_rfl
 ·kernel_rfl
 ·rintro _ ⟨h1, h2, h3, h4, h5, h6, h7, h8, h9, h10, _⟩
  exact ⟨h1, h2, h3, h4, h5, h6, h7, h8.1, h9.1, h10.1, all_getD h9.2, all_getD h10.2⟩
end Go.Proofs.YtlblgkelhibdoaaGreatDoor
namespace Go.SL
open Go Go.ChangeShapes Go.WideShapes Go.ChangeAt Go.RowKit
section
variable {P : Program} {H : Type} {enc : TypeId × Value → H}
theorem arg_slice {α : Type} {t e : TypeId} {E : α → List PV} {Ok : α → Prop} (C : Cdc P t E Ok) (ht : P.underlying t = some (.slice e)) (h1 : ∀ a, (E a).length = 1) {W : World} {r : Reach} {b0 : Nat} {v : Value} {d : DataW H} {ps : List MemPlace} {sp : Nat → Bool} {held : Bool}
  (hval : Value.okWide P W r b0 t v) (hd : DataW.Trod enc P W 0 sp held t v d ps) (hw : (DataW.weights P t d).all (· ≤ reachBytes) = true) : ∃ a, Ok a ∧ DenB noRho (· < W.heap.size) W (.c (.p ((E a).getD 0 .any))) v := by
 obtain ⟨fuel, hf⟩ := hd
 obtain ⟨a, ha, hc⟩ := C H enc W sp held fuel _ _ hf hw
 have hcell : v.cells = #[v] := by
  unfold Value.okWide at hval
  rw [ht] at hval
  cases v <;> first | rfl | (simp [Cell.okWide, Cell.ok, ht] at hval)
 rw [hcell] at hc
 refine ⟨a, ha, ?_⟩
 have := hc.den 0 (by simp)
 show DenP _ _ _ _
 simpa using this
end
end Go.SL
set_option maxHeartbeats 8000000
set_option maxRecDepth 16000
namespace Go.Proofs.YtlblgkelhibdoaaGreatDoor
open Go Go.SL
open Go.RowKit (wrap64)
theorem arr_push_junk {l jk : List Op} {x : Op} {g : Nat → Nat → PV} (hg : ∀ j, j < 12 → g 0 j = (opE x).getD j .any) :
  ∀ i, i < l.length + 1 → ∀ j, j < 12 → PV.le (appF l.length (fnOf opE (l ++ jk)) g i j) (fnOf opE (l ++ [x]) i j) := fun i hi j hj => by
 have := arr_push (enc := opE) (xs := l) (x := x) (s := 12) (g := g) hg i hi j hj
 unfold appF at this ⊢
 by_cases h : i < l.length
 ·rw [if_pos h] at this ⊢
  have e : (l ++ jk).getD i default = l.getD i default := by
   rw [List.getD_eq_getElem?_getD, List.getD_eq_getElem?_getD, List.getElem?_append_left h]
  unfold fnOf at this ⊢
  rw [e]; exact this
 ·rw [if_neg h] at this ⊢
  exact this
def scrO9 (s : Script) : List (Option PV) := [some (PI s.bits), some (PI s.canvas.x0), some (PI s.canvas.y0), some (PI s.canvas.x1), some (PI s.canvas.y1), some (PI s.tileW), some (PI s.tileH), some (ints s.order), some (imgL s.images), none]
attribute [local go_sem] scrO9
theorem gscript_own (s : Scene) (hs : SceneOk s) : PureOwnK Sg 8 [ag (sceneE s)] (scrO9 (gScript s)) 9 89 12 (gScript s).ops.length (fnOf opE (gScript s).ops) := by
 obtain ⟨hb, ⟨x1, x2⟩, ⟨y1, y2⟩, ⟨w1, w2⟩, ⟨v1, v2⟩, ⟨t1, t2⟩, ⟨u1, u2⟩, ho, hp, hop, hpic, hraw⟩ := hs
 have hm := gMax_u s.bits
 have hsm := gCanvas_small s
 have htw := tiles_wrap (gCanvas s) (gTileW s) (gTileH s)
 have hw0 : 1 ≤ 1 + s.w % 5 ∧ 1 + s.w % 5 ≤ 5 := by omega
 have hh0 : 1 ≤ 1 + s.h % 4 ∧ 1 + s.h % 4 ≤ 4 := by omega
 have ew : s.tileW % (1 + s.w % 5) = gTileW s - 1 := by unfold gTileW; omega
 have eh : s.tileH % (1 + s.h % 4) = gTileH s - 1 := by unfold gTileH; omega
 have bw := Int.emod_nonneg s.tileW (show 1 + s.w % 5 ≠ 0 by omega)
 have bw2 := Int.emod_lt_of_pos s.tileW (show 0 < 1 + s.w % 5 by omega)
 have bh := Int.emod_nonneg s.tileH (show 1 + s.h % 4 ≠ 0 by omega)
 have bh2 := Int.emod_lt_of_pos s.tileH (show 0 < 1 + s.h % 4 by omega)
 have hmx : Pure Sg 27 [I s.bits] (fun r => r = .b (U (gMax s.bits))) := max_spec _
 refine ownK_of Tryz.func8 rfl (rs := [.cell 2 36]) rfl rfl mixed (by decide +kernel) (Nat.le_of_ble_eq_true rfl) (argsLt_mem (by simp (maxSteps := 1000000) (disch := omega) only [go_sem])) ?_
 repeat' (first | refine un_a ?_ | ((with_reducible refine cw_stepV (id := 10) (fun K hW => ?_)); (try simp (maxSteps := 1000000) (disch := omega) only [go_sem]); and_intros; (all_goals first | (refine hK _ ?_; clear hK K) | exact auto_cl | skip)) | ((first | refine st_a (fun K hK => ?_) | refine call_c (hmx) ?_ | refine call_c (modp_spec _ _ (by omega) (by omega)) ?_ | refine call_c (tiles_spec ⟨_, _, _, _⟩ _ _) ?_); and_intros; (all_goals first | (refine hK _ ?_; clear hK K) | exact auto_cl | skip)) | (apply cw_ite; (case hf => rfl); (case hc => exact ev_a); (all_goals first | (intro hb; (try simp only [hbs] at hb)) | skip)) | exact atN_intro)
 refine call_as ?_ ?_ (by simp (maxSteps := 1000000) (disch := omega) only [go_sem]) (permutation_spec s.order (tilesX (gCanvas s) (gTileW s) (gTileH s) * tilesY (gCanvas s) (gTileW s) (gTileH s)) ho htw.2)
 try simp (maxSteps := 1000000) (disch := omega) only [go_sem]
 try (refine hK _ ?_; clear hK K)
 rotate_left
 ·rw [← htw.1]
  have e1 : 1 + s.tileW % (1 + s.w % 5) = gTileW s := rfl
  have e2 : 1 + s.tileH % (1 + s.h % 4) = gTileH s := rfl
  simp only [e1, e2]
  rfl
 refine hW _ (mkSt [(1, .b (.c (.ptr 0 0))), (2, .b (.c (.ptr 1 0))), (3, .b (U (gMax s.bits))), (4, .b (.c (.ptr 2 0))), (7, .b (I (1 + s.w % 5))), (8, .b (I (1 + s.h % 4)))]
  [(0, .fix ((sceneE s).map CV.p)), (1, .fix ((List.range 10).map fun _ => CV.p .any)), (2, .fix [.p (PI (gScript s).bits), .p (PI (gCanvas s).x0), .p (PI (gCanvas s).y0), .p (PI (gCanvas s).x1), .p (PI (gCanvas s).y1), .p (PI (gTileW s)), .p (PI (gTileH s)), .p (ints (gScript s).order), .p Nil, .p Nil])] 3) ?_ ?_
 ·clear hW
  refine le_a [(1, some 1), (2, some 2)] ?_ ?_
  and_intros
  all_goals first | exact le_cl | skip
 clear hW
 refine cw_assoc ?_
 refine cw_step fun K hK => ?_
 simp (maxSteps := 1000000) (disch := omega) only [go_sem]
 and_intros
 all_goals first | (refine hK _ ?_; clear hK K) | exact auto_cl | skip
 refine cw_blocksV fun KB hV => ?_
 refine cw_loop (X := Nat) (fun i => mkSt [(1, .b (.c (.ptr 0 0))), (2, .b (.c (.ptr 1 0))), (3, .b (U (gMax s.bits))), (4, .b (.c (.ptr 2 0))), (7, .b (I (1 + s.w % 5))), (8, .b (I (1 + s.h % 4))), (12, .b (I i))]
  [(0, .fix ((sceneE s).map CV.p)), (1, .fix ((List.range 10).map fun _ => CV.p .any)), (2, .fix [.p (PI (gScript s).bits), .p (PI (gCanvas s).x0), .p (PI (gCanvas s).y0), .p (PI (gCanvas s).x1), .p (PI (gCanvas s).y1), .p (PI (gTileW s)), .p (PI (gTileH s)), .p (ints (gScript s).order), .own 3 i, .p Nil]),
   (3, .arr 71 28 i (fnOf imageE ((gImages0 s).take i)))] 4) (fun i => i ≤ s.pics.length ∧ i ≤ 4) (fun i => 4 - i) 0 ?_ ?_ ?_
 ·omega
 ·refine le_a [(1, some 1), (2, some 2), (3, none)] ?_ ?_
  and_intros
  all_goals first | exact le_cl | skip
 ·rintro i ⟨hi, hi4⟩
  have him : i < s.pics.length → PicOk (s.pics.getD i default) := hpic i
  repeat' (first | (((with_reducible refine cw_lastDK (id := 14) [] (by decide +kernel) (by decide +kernel) ?_ (fun K hK => ?_)); (first | (refine And.intro (fun iw hiw => ?_) ?_; (focus ((try simp (maxSteps := 1000000) (disch := omega) only [go_sem] at hiw ⊢); (repeat (refine Eq.trans (if_neg ?_) ?_; (focus omega))); exact hw iw (by omega))); (focus (first | exact Nat.zero_le _ | (simp (maxSteps := 1000000) (disch := omega) only [go_sem]; done) | (simp (maxSteps := 1000000) (disch := omega) only [go_sem]; omega)))) | exact wf_a)); (try simp (maxSteps := 1000000) (disch := omega) only [go_sem]); and_intros; (all_goals first | (refine hK _ (by simp (maxSteps := 1000000) (disch := omega) only [go_sem]) ?_; clear hK K) | exact auto_cl | skip)) | refine un_a ?_ | (refine st_a (fun K hK => ?_); and_intros; (all_goals first | (refine hK _ ?_; clear hK K) | exact auto_cl | skip)) | (refine if_a (fun hb => ?_) (fun hb => ?_); all_goals try exact bad_a))
  ·refine call_eq (image_spec (s.pics.getD (i : Int).toNat default) (gCanvas s) (gMax s.bits) (by rw [Int.toNat_natCast]; exact hpic i (by omega)) hsm (by unfold u16; omega)) (by simp (maxSteps := 1000000) (disch := omega) only [go_sem]) ?_
   try simp (maxSteps := 1000000) (disch := omega) only [go_sem]
   and_intros
   all_goals first | (refine hK _ ?_; clear hK K) | exact auto_cl | skip
   refine hK _ trivial ?_
   clear hK
   repeat' (first | refine un_a ?_ | (refine st_a (fun K hK => ?_); and_intros; (all_goals first | (refine hK _ ?_; clear hK K) | exact auto_cl | skip)))
   rw [thenQ_normal]
   refine wk_loop (i + 1) ?_ (by omega) (by omega)
   have hl1 : ((gImages0 s).take i).length = i := by simp [gImages0]; omega
   have he : (gImages0 s).take (i + 1) = (gImages0 s).take i ++ [gImage (s.pics.getD i default) (gCanvas s) (gMax s.bits)] := by
    have h1 : i < (s.pics.take 4).length := by rw [List.length_take]; omega
    have h2 : i < s.pics.length := by omega
    simp only [gImages0, ← List.map_take]
    rw [List.take_add_one, List.map_append, List.getElem?_eq_getElem h1, List.getD_eq_getElem?_getD, List.getElem?_eq_getElem h2, List.getElem_take]
    rfl
   refine le_a [(1, some 1), (2, some 2), (3, some 5)] ?_ ?_
   and_intros
   all_goals first | exact le_cl | skip
   have key := fun g hg => arr_push (enc := imageE) (xs := (gImages0 s).take i) (x := gImage (s.pics.getD i default) (gCanvas s) (gMax s.bits)) (s := 28) (g := g) hg
   simp only [hl1, ← he] at key
   refine .inr (key _ fun j hj => ?_)
   simp only [Int.toNat_natCast]
   have hivl : j = 0 ∨ j = 1 ∨ j = 2 ∨ j = 3 ∨ j = 4 ∨ j = 5 ∨ j = 6 ∨ j = 7 ∨ j = 8 ∨ j = 9 ∨ j = 10 ∨ j = 11 ∨ j = 12 ∨ j = 13 ∨ j = 14 ∨ j = 15 ∨ j = 16 ∨ j = 17 ∨ j = 18 ∨ j = 19 ∨ j = 20 ∨ j = 21 ∨ j = 22 ∨ j = 23 ∨ j = 24 ∨ j = 25 ∨ j = 26 ∨ j = 27 := by omega
   rcases hivl with rfl | rfl | rfl | rfl | rfl | rfl | rfl | rfl | rfl | rfl | rfl | rfl | rfl | rfl | rfl | rfl | rfl | rfl | rfl | rfl | rfl | rfl | rfl | rfl | rfl | rfl | rfl | rfl <;> rfl
  ·have hn0 : i = (gImages0 s).length := by simp [gImages0]; omega
   refine hV _ (mkSt [(1, .b (.c (.ptr 0 0))), (2, .b (.c (.ptr 1 0))), (3, .b (U (gMax s.bits))), (4, .b (.c (.ptr 2 0))), (7, .b (I (1 + s.w % 5))), (8, .b (I (1 + s.h % 4)))]
    [(0, .fix ((sceneE s).map CV.p)), (1, .fix ((List.range 10).map fun _ => CV.p .any)), (2, .fix [.p (PI (gScript s).bits), .p (PI (gCanvas s).x0), .p (PI (gCanvas s).y0), .p (PI (gCanvas s).x1), .p (PI (gCanvas s).y1), .p (PI (gTileW s)), .p (PI (gTileH s)), .p (ints (gScript s).order), .own 3 (gImages0 s).length, .p Nil]), (3, .arr 71 28 (gImages0 s).length (fnOf imageE (gImages0 s)))] 4) ?_ ?_
   ·rw [hn0, List.take_of_length_le (Nat.le_refl _)]
    refine le_a [(1, some 1), (2, some 2), (3, some 3)] ?_ ?_
    and_intros
    all_goals first | exact le_cl | skip
   clear hV hn0 him
   refine cw_assoc ?_
   refine cw_step fun K hK => ?_
   simp (maxSteps := 1000000) (disch := omega) only [go_sem]
   and_intros
   all_goals first | (refine hK _ ?_; clear hK K) | exact auto_cl | skip
   refine cw_ifM (t := (((gImages0 s).length : Int) == 0)) (mkSt [(1, .b (.c (.ptr 0 0))), (2, .b (.c (.ptr 1 0))), (3, .b (U (gMax s.bits))), (4, .b (.c (.ptr 2 0)))]
    [(0, .fix ((sceneE s).map CV.p)), (1, .fix ((List.range 10).map fun _ => CV.p .any)), (2, .fix [.p (PI (gScript s).bits), .p (PI (gCanvas s).x0), .p (PI (gCanvas s).y0), .p (PI (gCanvas s).x1), .p (PI (gCanvas s).y1), .p (PI (gTileW s)), .p (PI (gTileH s)), .p (ints (gScript s).order), .p (imgL (gImages s)), .p Nil])] 3) ?_ ?_ ?_ ?_
   ·simp (maxSteps := 1000000) (disch := omega) only [go_sem]
   ·intro hb
    have h0 : (gImages0 s).length = 0 := by simpa using hb
    have hi1 : gImages s = [solidOf (1 + s.w % 5) (1 + s.h % 4) ⟨gMax s.bits, 0, 0, gMax s.bits, gMax s.bits⟩] := by rw [gImages, if_pos h0]
    repeat' (first | (((with_reducible refine cw_lastDK (id := 16) [] (by decide +kernel) (by decide +kernel) ?_ (fun K hK => ?_)); (first | (refine And.intro (fun iw hiw => ?_) ?_; (focus ((try simp (maxSteps := 1000000) (disch := omega) only [go_sem] at hiw ⊢); (repeat (refine Eq.trans (if_neg ?_) ?_; (focus omega))); exact hw iw (by omega))); (focus (first | exact Nat.zero_le _ | (simp (maxSteps := 1000000) (disch := omega) only [go_sem]; done) | (simp (maxSteps := 1000000) (disch := omega) only [go_sem]; omega)))) | exact wf_a)); (try simp (maxSteps := 1000000) (disch := omega) only [go_sem]); and_intros; (all_goals first | (refine hK _ (by simp (maxSteps := 1000000) (disch := omega) only [go_sem]) ?_; clear hK K) | exact auto_cl | skip)) | (refine call_c (solid_spec (1 + s.w % 5) (1 + s.h % 4) ⟨gMax s.bits, 0, 0, gMax s.bits, gMax s.bits⟩) ?_; and_intros; (all_goals first | (refine hK _ ?_; clear hK K) | exact auto_cl | skip)))
    refine hK _ trivial ?_
    clear hK
    rw [thenQ_normal, hi1]
    refine ⟨_, ?_, rfl⟩
    refine le_a [(1, some 1), (2, some 2)] ?_ ?_
    and_intros
    all_goals first | exact le_cl | skip
    have h00 : gImages0 s = [] := List.eq_nil_of_length_eq_zero h0
    rw [h00]
    intro a ha j hj
    have : a = 0 := by simpa using ha
    subst this
    have hivl : j = 0 ∨ j = 1 ∨ j = 2 ∨ j = 3 ∨ j = 4 ∨ j = 5 ∨ j = 6 ∨ j = 7 ∨ j = 8 ∨ j = 9 ∨ j = 10 ∨ j = 11 ∨ j = 12 ∨ j = 13 ∨ j = 14 ∨ j = 15 ∨ j = 16 ∨ j = 17 ∨ j = 18 ∨ j = 19 ∨ j = 20 ∨ j = 21 ∨ j = 22 ∨ j = 23 ∨ j = 24 ∨ j = 25 ∨ j = 26 ∨ j = 27 := by omega
    rcases hivl with rfl | rfl | rfl | rfl | rfl | rfl | rfl | rfl | rfl | rfl | rfl | rfl | rfl | rfl | rfl | rfl | rfl | rfl | rfl | rfl | rfl | rfl | rfl | rfl | rfl | rfl | rfl | rfl <;> exact PV.le_refl _
   ·intro hb
    have h0 : ¬ (gImages0 s).length = 0 := by simpa using hb
    have hi1 : gImages s = gImages0 s := by rw [gImages, if_neg h0]
    refine cw_skip ?_
    rw [thenQ_normal, hi1]
    refine ⟨_, ?_, rfl⟩
    refine le_a [(1, some 1), (2, some 2)] ?_ ?_
    and_intros
    all_goals first | exact le_cl | skip
    exact fun _ _ _ _ => PV.le_refl _
   have h3m : u16 (gMax s.bits) := by unfold u16; omega
   have him1 : 1 ≤ (gImages s).length ∧ (gImages s).length ≤ 4 := by
    unfold gImages
    split
    ·simp
    ·have : (gImages0 s).length ≤ 4 := by simp [gImages0]; omega
     omega
   refine cw_step fun K hK => ?_
   simp (maxSteps := 1000000) (disch := omega) only [go_sem]
   and_intros
   all_goals first | (refine hK _ ?_; clear hK K) | exact auto_cl | skip
   refine cw_assoc ?_
   refine cw_step fun K hK => ?_
   simp (maxSteps := 1000000) (disch := omega) only [go_sem]
   and_intros
   all_goals first | (refine hK _ ?_; clear hK K) | exact auto_cl | skip
   refine cw_blocksV fun KB2 hV2 => ?_
   refine cw_loop (X := Nat × List Op × List Op × List Op) (fun x => mkSt [(1, .b (.c (.ptr 0 0))), (2, .b (.c (.ptr 1 0))), (3, .b (U (gMax s.bits))), (4, .b (.c (.ptr 2 0))), (13, .b (.c (.own 4 x.2.2.1.length))), (14, .b (I x.1))]
    [(0, .fix ((sceneE s).map CV.p)), (1, .fix ((List.range 10).map fun _ => CV.p .any)), (2, .fix [.p (PI (gScript s).bits), .p (PI (gCanvas s).x0), .p (PI (gCanvas s).y0), .p (PI (gCanvas s).x1), .p (PI (gCanvas s).y1), .p (PI (gTileW s)), .p (PI (gTileH s)), .p (ints (gScript s).order), .p (imgL (gImages s)), .own 3 x.2.1.length]),
     (3, .arr 89 12 x.2.1.length (fnOf opE x.2.1)), (4, .arr 89 12 (x.2.2.1.length + x.2.2.2.length) (fnOf opE (x.2.2.1 ++ x.2.2.2)))] 5)
    (fun x => x.1 ≤ s.ops.length ∧ x.1 ≤ 9 ∧ (s.ops.take x.1).foldl (gStep (gImages s).length (gCanvas s) (gMax s.bits)) ([], []) = (x.2.1, x.2.2.1) ∧ x.2.1.length ≤ x.1 ∧ x.2.2.1.length ≤ x.1) (fun x => 9 - x.1) (0, [], [], []) ?_ ?_ ?_
   ·exact ⟨by omega, by omega, rfl, Nat.le_refl _, Nat.le_refl _⟩
   ·refine le_a [(1, some 1), (2, some 2), (3, none), (4, none)] ?_ ?_
    and_intros
    all_goals first | exact le_cl | skip
   ·rintro ⟨i, ops, l, jk⟩ ⟨hi, hi9, hf, ho1, hl1⟩
    dsimp only at hi hi9 hf ho1 hl1 ⊢
    have hstep : ∀ (hlt : i < s.ops.length) (q : List Op × List Op), gStep (gImages s).length (gCanvas s) (gMax s.bits) (ops, l) (s.ops.getD i default) = q → (s.ops.take (i + 1)).foldl (gStep (gImages s).length (gCanvas s) (gMax s.bits)) ([], []) = q := by
     rintro hlt q rfl
     rw [List.take_add_one, List.getElem?_eq_getElem hlt, List.foldl_append, hf, List.getD_eq_getElem?_getD, List.getElem?_eq_getElem hlt]
     rfl
    by_cases hc : i < s.ops.length ∧ i < 9
    ·by_cases hk0 : (s.ops.getD i default).kind % 8 = 0 ∧ 0 < l.length
     ·have hkT : ((s.ops.getD i default).kind % 8 == 0 && decide ((l.length : Int) > 0)) = true := by
       simp only [Bool.and_eq_true, beq_iff_eq, decide_eq_true_eq]; omega
      repeat' (first | refine dec_a hkT ?_ | refine un_a ?_ | ((first | refine st_a (fun K hK => ?_) | refine call_c (modp_spec _ _ (by omega) (by omega)) ?_); and_intros; (all_goals first | (refine hK _ ?_; clear hK K) | exact auto_cl | skip)) | (refine if_a (fun hb => ?_) (fun hb => ?_); all_goals try exact bad_a))
      rw [thenQ_normal]
      have hp := hk0.2
      have hne : l ≠ [] := fun h => by rw [h] at hp; simp at hp
      have hj : l.dropLast ++ (l.getLast hne :: jk) = l ++ jk := by
       conv => rhs; rw [← List.dropLast_concat_getLast hne]
       simp
      refine wk_loop (i + 1, ops ++ [popOp], l.dropLast, l.getLast hne :: jk) ?_ ⟨by dsimp only; omega, by dsimp only; omega, hstep hc.1 _ (by rw [gStep, if_pos hk0]), by simp; omega, by rw [List.length_dropLast]; dsimp only; omega⟩ (by dsimp only; omega)
      dsimp only
      rw [hj]
      refine le_a [(1, some 1), (2, some 2), (3, some 6), (4, some 4)] ?_ ?_
      and_intros
      all_goals first | exact le_cl | skip
      ·rw [List.length_dropLast]; omega
      ·simp
      ·simp
      ·refine .inr fun a ha j hj => arr_push (fun j hj => ?_) a ha j hj
       have hivl : j = 0 ∨ j = 1 ∨ j = 2 ∨ j = 3 ∨ j = 4 ∨ j = 5 ∨ j = 6 ∨ j = 7 ∨ j = 8 ∨ j = 9 ∨ j = 10 ∨ j = 11 := by omega
       rcases hivl with rfl | rfl | rfl | rfl | rfl | rfl | rfl | rfl | rfl | rfl | rfl | rfl <;> rfl
      ·rw [List.length_dropLast]; omega
     ·have hkF : ((s.ops.getD i default).kind % 8 == 0 && decide ((l.length : Int) > 0)) = false := by
       rw [Bool.eq_false_iff]
       intro h
       simp only [Bool.and_eq_true, beq_iff_eq, decide_eq_true_eq] at h
       exact hk0 ⟨h.1, by omega⟩
      have hraw1 : RawOk (s.ops.getD (i : Int).toNat default) := hraw i hc.1
      have hcb : -2000000000 ≤ (gCanvas s).x0 ∧ (gCanvas s).x0 ≤ 2000000000 ∧ -2000000000 ≤ (gCanvas s).y0 ∧ (gCanvas s).y0 ≤ 2000000000 := by
       unfold gCanvas
       dsimp only
       omega
      repeat' (first | refine dec_a hkF ?_ | refine un_a ?_ | ((first | refine st_a (fun K hK => ?_) | refine call_c (modp_spec _ _ (by omega) (by omega)) ?_); and_intros; (all_goals first | (refine hK _ ?_; clear hK K) | exact auto_cl | skip)) | (refine if_a (fun hb => ?_) (fun hb => ?_); all_goals try exact bad_a))
      any_goals (focus (simp only [beq_eq_false_iff_ne, ne_eq]; omega))
      any_goals (focus (rintro ⟨q1, q2⟩; refine ⟨⟨q1, q2⟩, ?_⟩; simp only [beq_eq_false_iff_ne, ne_eq] at q1; omega))
      repeat' (first | (((with_reducible refine cw_stepDK (id := 27) [] (by decide +kernel) (by decide +kernel) ?_ (fun K hK => ?_)); (first | (refine And.intro (fun iw hiw => ?_) ?_; (focus ((try simp (maxSteps := 1000000) (disch := omega) only [go_sem] at hiw ⊢); (repeat (refine Eq.trans (if_neg ?_) ?_; (focus omega))); exact hw iw (by omega))); (focus (first | exact Nat.zero_le _ | (simp (maxSteps := 1000000) (disch := omega) only [go_sem]; done) | (simp (maxSteps := 1000000) (disch := omega) only [go_sem]; omega)))) | exact wf_a)); (try simp (maxSteps := 1000000) (disch := omega) only [go_sem]); and_intros; (all_goals first | (refine hK _ (by simp (maxSteps := 1000000) (disch := omega) only [go_sem]) ?_; clear hK K) | exact auto_cl | skip)) | (refine call_c (op_spec _ _ _ (gCanvas s) _ (gMax s.bits) hraw1 (by omega) (by omega) hcb.1 hcb.2.1 hcb.2.2.1 hcb.2.2.2 h3m) ?_; and_intros; (all_goals first | (refine hK _ ?_; clear hK K) | exact auto_cl | skip)))
      refine hK _ trivial ?_
      clear hK
      have hfr : ((l.length : Int) == 0 || ((l ++ jk).getD ((l.length : Int) - 1).toNat default).isolated && !((l ++ jk).getD ((l.length : Int) - 1).toNat default).knockout) = ctxOk l := by
       cases hl0 : l with
       | nil => rfl
       | cons a r =>
        rw [← hl0]
        have hpos : 0 < l.length := by rw [hl0]; simp
        have e1 : ((l.length : Int) - 1).toNat = l.length - 1 := by omega
        have e2 : (l ++ jk).getD (l.length - 1) default = l.getD (l.length - 1) default := by
         rw [List.getD_eq_getElem?_getD, List.getD_eq_getElem?_getD, List.getElem?_append_left (by omega)]
        have e3 : ((l.length : Int) == 0) = false := beq_eq_false_iff_ne.2 (by omega)
        have e4 : l.isEmpty = false := by rw [hl0]; rfl
        rw [e1, e2, e3, ctxOk, e4]
      generalize hO : gOp (s.ops.getD i default) (decide ((s.ops.getD i default).kind % 8 < 3)) (gImages s).length (gCanvas s).x0 (gCanvas s).y0 (ctxOk l) (gMax s.bits) = O at *
      by_cases hp : (s.ops.getD i default).kind % 8 < 3
      ·have gk : ∀ f x y, ((gOp (s.ops.getD i default) (decide ((s.ops.getD i default).kind % 8 < 3)) (gImages s).length x y f (gMax s.bits)).kind == 2) = true := fun f x y => by rw [decide_eq_true hp]; rfl
       repeat' (first | refine dec_a gk ?_ | refine un_a ?_ | (refine st_a (fun K hK => ?_); and_intros; (all_goals first | (refine hK _ ?_; clear hK K) | exact auto_cl | skip)))
       rw [thenQ_normal]
       simp only [hfr, Int.toNat_natCast, hO]
       refine wk_loop (i + 1, ops ++ [O], l ++ [O], []) ?_ ⟨by dsimp only; omega, by dsimp only; omega, hstep hc.1 _ (by rw [gStep, if_neg hk0, if_pos hp]; dsimp only; rw [hO]), by simp; omega, by simp; omega⟩ (by dsimp only; omega)
       simp only [List.append_nil, List.length_nil, Nat.add_zero]
       refine le_a [(1, some 1), (2, some 2), (3, some 7), (4, some 9)] ?_ ?_
       and_intros
       all_goals first | exact le_cl | skip
       ·simp
       ·simp
       ·simp
       ·refine .inr fun a ha j hj => arr_push (fun j hj => ?_) a ha j hj
        have hivl : j = 0 ∨ j = 1 ∨ j = 2 ∨ j = 3 ∨ j = 4 ∨ j = 5 ∨ j = 6 ∨ j = 7 ∨ j = 8 ∨ j = 9 ∨ j = 10 ∨ j = 11 := by omega
        rcases hivl with rfl | rfl | rfl | rfl | rfl | rfl | rfl | rfl | rfl | rfl | rfl | rfl <;> rfl
       ·simp
       ·refine .inr fun a ha j hj => arr_push_junk (fun j hj => ?_) a ha j hj
        have hivl : j = 0 ∨ j = 1 ∨ j = 2 ∨ j = 3 ∨ j = 4 ∨ j = 5 ∨ j = 6 ∨ j = 7 ∨ j = 8 ∨ j = 9 ∨ j = 10 ∨ j = 11 := by omega
        rcases hivl with rfl | rfl | rfl | rfl | rfl | rfl | rfl | rfl | rfl | rfl | rfl | rfl <;> rfl
      ·have gk : ∀ f x y, ((gOp (s.ops.getD i default) (decide ((s.ops.getD i default).kind % 8 < 3)) (gImages s).length x y f (gMax s.bits)).kind == 2) = false := fun f x y => by rw [decide_eq_false hp]; rfl
       repeat' (first | refine dec_a gk ?_ | refine un_a ?_ | (refine st_a (fun K hK => ?_); and_intros; (all_goals first | (refine hK _ ?_; clear hK K) | exact auto_cl | skip)))
       rw [thenQ_normal]
       simp only [hfr, Int.toNat_natCast, hO]
       refine wk_loop (i + 1, ops ++ [O], l, jk) ?_ ⟨by dsimp only; omega, by dsimp only; omega, hstep hc.1 _ (by rw [gStep, if_neg hk0, if_neg hp]; dsimp only; rw [hO]), by simp; omega, by dsimp only; omega⟩ (by dsimp only; omega)
       dsimp only
       refine le_a [(1, some 1), (2, some 2), (3, some 7), (4, some 4)] ?_ ?_
       and_intros
       all_goals first | exact le_cl | skip
       ·simp
       ·simp
       ·refine .inr fun a ha j hj => arr_push (fun j hj => ?_) a ha j hj
        have hivl : j = 0 ∨ j = 1 ∨ j = 2 ∨ j = 3 ∨ j = 4 ∨ j = 5 ∨ j = 6 ∨ j = 7 ∨ j = 8 ∨ j = 9 ∨ j = 10 ∨ j = 11 := by omega
        rcases hivl with rfl | rfl | rfl | rfl | rfl | rfl | rfl | rfl | rfl | rfl | rfl | rfl <;> rfl
    ·repeat' (first | refine un_a ?_ | (refine st_a (fun K hK => ?_); and_intros; (all_goals first | (refine hK _ ?_; clear hK K) | exact auto_cl | skip)) | (refine if_a (fun hb => ?_) (fun hb => ?_); all_goals try exact bad_a))
     have hc2 : i = s.ops.length ∨ i = 9 := by omega
     have hfin : gOps s = (ops, l) := by
      rw [gOps, ← hf]
      rcases hc2 with h | h
      ·rw [h, List.take_of_length_le (Nat.le_refl _), List.take_of_length_le (by omega)]
      ·rw [h]
     refine hV2 _ (mkSt [(1, .b (.c (.ptr 0 0))), (2, .b (.c (.ptr 1 0))), (4, .b (.c (.ptr 2 0))), (13, .b (.c (.own 4 l.length)))]
      [(0, .fix ((sceneE s).map CV.p)), (1, .fix ((List.range 10).map fun _ => CV.p .any)), (2, .fix [.p (PI (gScript s).bits), .p (PI (gCanvas s).x0), .p (PI (gCanvas s).y0), .p (PI (gCanvas s).x1), .p (PI (gCanvas s).y1), .p (PI (gTileW s)), .p (PI (gTileH s)), .p (ints (gScript s).order), .p (imgL (gImages s)), .own 3 ops.length]),
       (3, .arr 89 12 ops.length (fnOf opE ops)), (4, .arr 89 12 (l.length + jk.length) (fnOf opE (l ++ jk)))] 5) ?_ ?_
     ·refine le_a [(1, some 1), (2, some 2), (3, some 3), (4, some 4)] ?_ ?_
      and_intros
      all_goals first | exact le_cl | skip
     clear hV2 hraw hstep hf
     refine cw_assoc ?_
     refine cw_step fun K hK => ?_
     simp (maxSteps := 1000000) (disch := omega) only [go_sem]
     and_intros
     all_goals first | (refine hK _ ?_; clear hK K) | exact auto_cl | skip
     refine cw_blocks fun KB3 hB3 => ?_
     refine cw_loop (X := Nat) (fun k => mkSt [(1, .b (.c (.ptr 0 0))), (2, .b (.c (.ptr 1 0))), (4, .b (.c (.ptr 2 0))), (13, .b (.c (.own 4 l.length))), (19, .b (I k))]
      [(0, .fix ((sceneE s).map CV.p)), (1, .fix ((List.range 10).map fun _ => CV.p .any)), (2, .fix [.p (PI (gScript s).bits), .p (PI (gCanvas s).x0), .p (PI (gCanvas s).y0), .p (PI (gCanvas s).x1), .p (PI (gCanvas s).y1), .p (PI (gTileW s)), .p (PI (gTileH s)), .p (ints (gScript s).order), .p (imgL (gImages s)), .own 3 (ops.length + k)]),
       (3, .arr 89 12 (ops.length + k) (fnOf opE (ops ++ List.replicate k popOp))), (4, .arr 89 12 (l.length + jk.length) (fnOf opE (l ++ jk)))] 5) (fun k => k ≤ l.length) (fun k => l.length - k) 0 ?_ ?_ ?_
     ·omega
     ·refine le_a [(1, some 1), (2, some 2), (3, some 3), (4, some 4)] ?_ ?_
      and_intros
      all_goals first | exact le_cl | skip
      exact .inl (by rw [List.replicate_zero, List.append_nil])
     ·intro k hk
      repeat' (first | refine un_a ?_ | (refine st_a (fun K hK => ?_); and_intros; (all_goals first | (refine hK _ ?_; clear hK K) | exact auto_cl | skip)) | (refine if_a (fun hb => ?_) (fun hb => ?_); all_goals try exact bad_a) | refine exit_by (S := Sg) (by assumption) ?_ | (refine ret_a ?_; (try clear hB KB); (try clear hK K)))
      ·rw [thenQ_normal]
       refine wk_loop (k + 1) ?_ (by omega) (by omega)
       have hl1 : (ops ++ List.replicate k popOp).length = ops.length + k := by simp
       have he : (ops ++ List.replicate k popOp) ++ [popOp] = ops ++ List.replicate (k + 1) popOp := by rw [List.append_assoc, List.replicate_succ']
       refine le_a [(1, some 1), (2, some 2), (3, some 6), (4, some 4)] ?_ ?_
       and_intros
       all_goals first | exact le_cl | skip
       have key := fun g hg => arr_push (enc := opE) (xs := ops ++ List.replicate k popOp) (x := popOp) (s := 12) (g := g) hg
       simp only [hl1, he] at key
       refine .inr (key _ fun j hj => ?_)
       have hivl : j = 0 ∨ j = 1 ∨ j = 2 ∨ j = 3 ∨ j = 4 ∨ j = 5 ∨ j = 6 ∨ j = 7 ∨ j = 8 ∨ j = 9 ∨ j = 10 ∨ j = 11 := by omega
       rcases hivl with rfl | rfl | rfl | rfl | rfl | rfl | rfl | rfl | rfl | rfl | rfl | rfl <;> rfl
      ·have hk2 : k = l.length := by omega
       have e2 : ops ++ List.replicate k popOp = (gScript s).ops := by
        rw [hk2]
        show _ = (gOps s).1 ++ List.replicate (gOps s).2.length popOp
        rw [hfin]
       have e1 : ops.length + k = (gScript s).ops.length := by rw [← e2]; simp
       rw [e1, e2]
       refine ⟨⟨_, rfl, rfl, fun _ _ _ _ => PV.le_refl _⟩, ?_⟩
       and_intros
       all_goals first | exact .inl rfl | trivial | skip
theorem gscript_spec (s : Scene) (hs : SceneOk s) : Pure Sg 8 [ag (sceneE s)] (fun r => r = .b (ag (scriptE (gScript s)))) :=
 pure_ownK (gscript_own s hs) rfl
end Go.Proofs.YtlblgkelhibdoaaGreatDoor
set_option maxHeartbeats 1000000
namespace Go.Proofs.YtlblgkelhibdoaaGreatDoor
def inB (r : Rect) (x y : Int) : Prop := emptyR r = false ∧ inR r x y
section
variable {s : Script} {m x y : Int}
open Classical in
end
structure Twin (s t : Script) : Prop where
 im : s.images = t.images
 c : s.canvas = t.canvas
theorem Twin.box {s t : Script} (T : Twin s t) (o : Op) (r : Rect) : boxM s o r = boxM t o r := by
 unfold boxM maskRectM placedM
 rw [T.im, T.c]
theorem Twin.img {s t : Script} (T : Twin s t) (o : Op) : imageRectM s o = imageRectM t o := by
 unfold imageRectM placedM
 rw [T.im, T.c]
section
variable {s t : Script} {x y : Int} {p q : Nat}
structure Ends (s t : Script) (x y : Int) (p q : Nat) : Prop where
 T : Twin s t
 W : Wf s.ops
 U : Wf t.ops
 ls : p + q ≤ s.ops.length
 lt : p + q ≤ t.ops.length
 pre : ∀ i, i < p → opAt s.ops i = opAt t.ops i
 suf : ∀ k, k < q → opAt s.ops (s.ops.length - q + k) = opAt t.ops (t.ops.length - q + k)
 os : ∀ g, (p ≤ g ∧ g < s.ops.length - q ∨ g ∈ stk s.ops p) → ¬ inB (boxesM s g) x y
 ot : ∀ g, (p ≤ g ∧ g < t.ops.length - q ∨ g ∈ stk t.ops p) → ¬ inB (boxesM t g) x y
theorem Ends.symm (E : Ends s t x y p q) : Ends t s x y p q := ⟨⟨E.T.im.symm, E.T.c.symm⟩, E.U, E.W, E.lt, E.ls, fun i h => (E.pre i h).symm, fun k h => (E.suf k h).symm, E.ot, E.os⟩
end
end Go.Proofs.YtlblgkelhibdoaaGreatDoor
set_option maxHeartbeats 2000000
set_option maxRecDepth 16000
namespace Go.Proofs.YtlblgkelhibdoaaGreatDoor
open Go Go.SL
open Go.RowKit (wrap64)
attribute [local go_sem] Int.toNat_natCast
theorem leC_clo {r : Nat → Option Nat} {bx bx' : Nat → Option Bx} {f f' : Nat} {ps ps' : List (Nat × Nat)} : leC r bx bx' (.clo f ps) (.clo f' ps') = (f = f' ∧ ps.map (·.2) = ps'.map (·.2) ∧ ps'.map (fun p => r p.1) = ps.map (fun p => some p.1)) := rfl
attribute [local go_sem] leC_clo
end Go.Proofs.YtlblgkelhibdoaaGreatDoor
set_option maxHeartbeats 4000000
set_option maxRecDepth 16000
namespace Go.Proofs.YtlblgkelhibdoaaGreatDoor
open Go Go.SL
open Go.RowKit (wrap64)
attribute [local go_sem] Int.toNat_natCast
def mostM (b : Int) : Int := if b = 16 then 65535 else 255
def zS : List CV := [CV.p (PI 0), CV.p (PI 0), CV.p (PI 0), CV.p (PI 0), CV.p (PI 0), CV.p (PI 0), CV.p (PI 0), CV.p Nil, CV.p Nil, CV.p Nil]
def tS (s : Script) (m : Nat) : List CV := [CV.p (PI s.bits), CV.p (PI s.canvas.x0), CV.p (PI s.canvas.y0), CV.p (PI s.canvas.x1), CV.p (PI s.canvas.y1), CV.p (PI s.tileW), CV.p (PI s.tileH), CV.p (ints s.order), CV.p (imgL s.images), CV.own 3 m]
attribute [local go_sem] zS tS
end Go.Proofs.YtlblgkelhibdoaaGreatDoor
