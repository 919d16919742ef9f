/- Part of the proof: T6, TC. -/
import Derived.Test.YtlblgkelhibdoaaGreatDoorM20
import Derived.Test.YtlblgkelhibdoaaGreatDoorM22
import Derived.Test.YtlblgkelhibdoaaGreatDoorM25
set_option linter.unusedSimpArgs false
set_option linter.unusedVariables false
namespace Go.Proofs.YtlblgkelhibdoaaGreatDoor
section
variable {m : Int} {z : Op → Pixel × Int}
theorem acc_app {x y : List Op} (hx : Elm x) {ko : Bool} {a : Acc} {b : Pixel} : accL m z (x ++ y) ko a b = accL m z y ko (accL m z x ko a b) b := by
 conv => lhs; unfold accL
 rw [run_app, run_elm hx]; rfl
end
section
variable {ops : List Op}
end
end Go.Proofs.YtlblgkelhibdoaaGreatDoor
set_option maxHeartbeats 1000000
namespace Go.Proofs.YtlblgkelhibdoaaGreatDoor
theorem isect_out {r q : Rect} {x y : Int} (h : ¬ inB (isect r q) x y) : ¬ inB r x y ∨ ¬ inB q x y := by
 by_cases h1 : inB r x y
 ·by_cases h2 : inB q x y
  ·exact absurd ((isect_in h1.1 h2.1).2 ⟨h1.2, h2.2⟩) h
  ·exact .inr h2
 ·exact .inl h1
theorem hull_out {l : List Rect} {x y : Int} (h : ¬ inB (hullM l) x y) : ∀ r ∈ l, ¬ inB r x y := fun r hr ⟨h1, h2⟩ => by
 obtain ⟨a, b, c, d, e⟩ := hull_in hr h1
 refine h ⟨a, ?_⟩
 unfold inR at *
 omega
theorem wlk_le {e : Nat → Nat} {b : Nat} : ∀ {l : List Nat} {a : Nat}, Wlk e a b l → (∀ k ∈ l, k ≤ e k) → a ≤ b
 | [], a, h, _ => Nat.le_of_eq h
 | k :: l, a, ⟨h1, h2⟩, h3 => by
  have := wlk_le h2 fun j hj => h3 j (List.mem_cons_of_mem _ hj)
  have := h3 k (List.mem_cons_self ..)
  omega
section
variable {s : Script} {m x y : Int}
theorem walk_out (C : Pt s m x y) {b : Nat} (hb : b ≤ s.ops.length) : ∀ (l : List Nat) (a : Nat), Wlk (endsM s.ops) a b l →
  (∀ k ∈ l, k < b ∧ (opAt s.ops k).kind ≠ 3 ∧ ∀ t r, At s m k (t :: r) → accL m (smpM s x y) (seg s.ops k (endsM s.ops k + 1)) t.op.knockout t.acc t.back = t.acc) →
  ∀ t r, At s m a (t :: r) → accL m (smpM s x y) (seg s.ops a b) t.op.knockout t.acc t.back = t.acc
 | [], a, h, _, t, r, _ => by
  obtain rfl : a = b := h
  rw [seg_nil]; rfl
 | k :: l, a, ⟨h1, h2⟩, h3, t, r, ha => by
  subst h1
  obtain ⟨q1, q2, q3⟩ := h3 a (List.mem_cons_self ..)
  have W := C.V.wf
  have hle := wlk_le h2 fun j hj => ends_ge W (Nat.lt_of_lt_of_le (h3 j (List.mem_cons_of_mem _ hj)).1 hb)
  have hge := ends_ge W (Nat.lt_of_lt_of_le q1 hb)
  have h4 := at_run C ha (show a ≤ endsM s.ops a + 1 by omega) (by omega)
  rw [run_elem C (by omega) q2, q3 t r ha] at h4
  have := walk_out C hb l _ h2 (fun j hj => h3 j (List.mem_cons_of_mem _ hj)) t r h4
  rw [seg_app (show a ≤ endsM s.ops a + 1 by omega) hle, acc_app (elm_at W (by omega) q2), q3 t r ha]
  exact this
theorem box_src (C : Pt s m x y) {i : Nat} (hi : i < s.ops.length) (hk : (opAt s.ops i).kind ≠ 3) {R : Rect} (hb : ¬ inB (boxM s (opAt s.ops i) R) x y) {t : Lv} {r : List Lv} (h : At s m i (t :: r))
  (hR : ¬ inB R x y → srcE s m x y i t.op.knockout t.acc t.back = zPix) : accL m (smpM s x y) (seg s.ops i (endsM s.ops i + 1)) t.op.knockout t.acc t.back = t.acc := by
 unfold boxM at hb
 cases hn : neutralM (opAt s.ops i).operator with
 | false =>
  rw [hn, if_pos rfl] at hb
  exact absurd ⟨C.c, C.xy⟩ hb
 | true =>
  refine elem_neutral C hi hk hn h ?_
  rw [hn, if_neg (by decide)] at hb
  by_cases h0 : (opAt s.ops i).opacity = 0
  ·exact scaled_op0 C.hm h0
  rw [if_neg h0] at hb
  rcases isect_out hb with q | q
  ·rw [hR q]; exact scaled_zero C.hm
  ·by_cases hm0 : (opAt s.ops i).mask = 0
   ·rw [maskRectM, if_pos hm0] at q
    exact absurd ((isect_in C.c C.c).2 ⟨C.xy, C.xy⟩) q
   ·rw [(mask_at C hi hk hm0).2 q]; exact scaled_void C.hm hm0
theorem box_out (C : Pt s m x y) : ∀ (d i : Nat), s.ops.length - i ≤ d → i < s.ops.length → (opAt s.ops i).kind ≠ 3 → ¬ inB (boxesM s i) x y → ∀ t r, At s m i (t :: r) →
  accL m (smpM s x y) (seg s.ops i (endsM s.ops i + 1)) t.op.knockout t.acc t.back = t.acc
 | 0, i, hd, hi, _, _, _, _, _ => absurd hi (by omega)
 | d + 1, i, hd, hi, hk, hb, t, r, h => by
  have W := C.V.wf
  rcases W.kinds i hi with h1 | h2 | h3
  ·rw [box_draw W hi h1] at hb
   refine box_src C hi hk hb h fun q => ?_
   rw [srcE, if_pos h1]
   exact (image_at C hi h1).2 q
  ·obtain ⟨l, q1, q2, q3⟩ := box_push W hi h2
   rw [q3] at hb
   refine box_src C hi hk hb h fun q => ?_
   rw [srcE, if_neg (by omega)]
   have hel := ends_lt W hi
   have ho := hull_out q
   have hin := at_in C hi h2 h
   have key : ∀ k ∈ l, k < endsM s.ops i ∧ (opAt s.ops k).kind ≠ 3 ∧ ∀ t r, At s m k (t :: r) → accL m (smpM s x y) (seg s.ops k (endsM s.ops k + 1)) t.op.knockout t.acc t.back = t.acc := fun k hk => by
    obtain ⟨⟨k1, k2⟩, k3⟩ := q2 k hk
    exact ⟨k2, k3, box_out C d k (by omega) (by omega) k3 (ho _ (List.mem_map_of_mem hk))⟩
   have := walk_out C (Nat.le_of_lt hel) l _ q1 key _ _ hin
   have e : accL m (smpM s x y) (seg s.ops (i + 1) (endsM s.ops i)) (opAt s.ops i).knockout (accOf (beginA (opAt s.ops i).isolated t.op.knockout t.acc t.back)) (beginA (opAt s.ops i).isolated t.op.knockout t.acc t.back) = accOf (beginA (opAt s.ops i).isolated t.op.knockout t.acc t.back) := this
   rw [grpP, e]
   exact grp_nil (z := smpM s x y) (ko := false)
  ·exact absurd h3 hk
theorem run_out (C : Pt s m x y) {i : Nat} (hi : i < s.ops.length) (hk : (opAt s.ops i).kind ≠ 3) (hb : ¬ inB (boxesM s i) x y) : stAt m (smpM s x y) s.ops (endsM s.ops i + 1) = stAt m (smpM s x y) s.ops i := by
 obtain ⟨t, r, e⟩ := (at_i C i (by omega)).ne
 have ha := at_i C i (by omega)
 rw [e] at ha
 have hge := ends_ge C.V.wf hi
 have h1 : stAt m (smpM s x y) s.ops (endsM s.ops i + 1) = runL m (smpM s x y) (seg s.ops i (endsM s.ops i + 1)) (stAt m (smpM s x y) s.ops i) := by
  unfold stAt
  rw [← run_app]
  congr 1
  have := seg_app (ops := s.ops) (show 0 ≤ i by omega) (show i ≤ endsM s.ops i + 1 by omega)
  exact this
 rw [h1, e, run_elem C hi hk, box_out C _ i (Nat.le_refl _) hi hk hb t r ha]
def actM (s : Script) (x y : Int) (i : Nat) : Prop := (∀ g ∈ stk s.ops i, inB (boxesM s g) x y) ∧ inB (boxesM s i) x y
open Classical in
noncomputable def actSt (s : Script) (m x y : Int) : Nat → List Lv
 | 0 => [base]
 | i + 1 => if actM s x y i then stepL m (smpM s x y) (actSt s m x y i) (opAt s.ops i) else actSt s m x y i
theorem act_yes {i : Nat} (h : actM s x y i) : actSt s m x y (i + 1) = stepL m (smpM s x y) (actSt s m x y i) (opAt s.ops i) := by rw [actSt, if_pos h]
theorem act_no {i : Nat} (h : ¬ actM s x y i) : actSt s m x y (i + 1) = actSt s m x y i := by rw [actSt, if_neg h]
theorem act_inv (C : Pt s m x y) : ∀ i, i ≤ s.ops.length →
  ((∀ g ∈ stk s.ops i, inB (boxesM s g) x y) → actSt s m x y i = stAt m (smpM s x y) s.ops i) ∧
  (∀ a g b, stk s.ops i = a ++ g :: b → ¬ inB (boxesM s g) x y → (∀ q ∈ b, inB (boxesM s q) x y) → actSt s m x y i = stAt m (smpM s x y) s.ops g)
 | 0, _ => ⟨fun _ => rfl, fun a g b h => by
   have : ([] : List Nat) = a ++ g :: b := h
   cases a <;> cases this⟩
 | i + 1, hi => by
  have W := C.V.wf
  have hil : i < s.ops.length := hi
  obtain ⟨ih1, ih2⟩ := act_inv C i (by omega)
  rcases W.kinds i hil with k | k | k
  ·have hs := stk_draw (ops := s.ops) k
   rw [hs]
   refine ⟨fun h => ?_, fun a g b h1 h2 h3 => ?_⟩
   ·by_cases hb : inB (boxesM s i) x y
    ·rw [act_yes ⟨h, hb⟩, ih1 h, stAt_succ hil]
    ·rw [act_no fun q => hb q.2, ih1 h]
     have := run_out C hil (by omega) hb
     rw [ends_draw W hil k] at this
     exact this.symm
   ·rw [act_no fun q => h2 (q.1 g (by rw [h1]; simp)), ih2 a g b h1 h2 h3]
  ·have hs := stk_push (ops := s.ops) k
   rw [hs]
   refine ⟨fun h => ?_, fun a g b h1 h2 h3 => ?_⟩
   ·have h' : ∀ g ∈ stk s.ops i, inB (boxesM s g) x y := fun g hg => h g (List.mem_cons_of_mem _ hg)
    rw [act_yes ⟨h', h i (List.mem_cons_self ..)⟩, ih1 h', stAt_succ hil]
   ·cases a with
    | nil =>
     obtain ⟨rfl, rfl⟩ := List.cons.inj h1
     rw [act_no fun q => h2 q.2, ih1 h3]
    | cons a0 a =>
     obtain ⟨_, h1⟩ := List.cons.inj h1
     rw [act_no fun q => h2 (q.1 g (by rw [h1]; simp)), ih2 a g b h1 h2 h3]
  ·have hs := stk_pop (ops := s.ops) k
   rw [hs]
   cases hp : stk s.ops i with
   | nil => exact absurd hp (W.pops i hil k)
   | cons p t =>
    have hbx := box_pop W hil k
    rw [hp] at hbx
    have hbx : boxesM s i = boxesM s p := hbx
    have hpk : (opAt s.ops p).kind = 2 := stk_kind (i := i) (by rw [hp]; exact List.mem_cons_self ..)
    have hpl : p < i := stk_lt (ops := s.ops) (by rw [hp]; exact List.mem_cons_self ..)
    refine ⟨fun h => ?_, fun a g b h1 h2 h3 => ?_⟩
    ·have h : ∀ g ∈ t, inB (boxesM s g) x y := h
     by_cases hb : inB (boxesM s p) x y
     ·have h' : ∀ g ∈ stk s.ops i, inB (boxesM s g) x y := fun g hg => by
       rw [hp] at hg
       rcases List.mem_cons.1 hg with rfl | hg
       ·exact hb
       ·exact h g hg
      rw [act_yes ⟨h', by rw [hbx]; exact hb⟩, ih1 h', stAt_succ hil]
     ·rw [act_no fun q => hb (by rw [← hbx]; exact q.2), ih2 [] p t hp hb h]
      have := run_out C (show p < s.ops.length by omega) (by omega) hb
      rw [ends_pop W hil k hp] at this
      exact this.symm
    ·have h1 : t = a ++ g :: b := h1
     have h1' : stk s.ops i = (p :: a) ++ g :: b := by rw [hp, h1]; rfl
     rw [act_no fun q => h2 (q.1 g (by rw [h1']; simp)), ih2 (p :: a) g b h1' h2 h3]
theorem act_value (C : Pt s m x y) : valueM s x y = valL m (actSt s m x y s.ops.length) := by
 rw [(act_inv C _ (Nat.le_refl _)).1 (by rw [C.V.wf.fin]; intro g hg; cases hg)]
 unfold valueM stAt
 rw [C.mx, List.take_length]
end
theorem stk_pre {a b : List Op} {p : Nat} (h : ∀ i, i < p → opAt a i = opAt b i) : ∀ i, i ≤ p → stk a i = stk b i
 | 0, _ => rfl
 | i + 1, hi => by
  have ih := stk_pre h i (by omega)
  rw [stk, stk, h i (by omega), ih]
theorem Twin.smp {s t : Script} (T : Twin s t) (x y : Int) : smpM s x y = smpM t x y := by
 funext o
 unfold smpM imgM
 rw [T.im]
theorem bx_pre {s t : Script} (T : Twin s t) {p : Nat} (h : ∀ i, i < p → opAt s.ops i = opAt t.ops i) : ∀ i, i ≤ p → bxAt s i = bxAt t i
 | 0, _ => rfl
 | i + 1, hi => by
  have ih := bx_pre T h i (by omega)
  have e := stk_pre h i (by omega)
  simp only [bxAt, h i (by omega), ih, e, T.img, T.box]
  split
  ·rfl
  split
  ·rfl
  ·have : opAt s.ops ((stk t.ops i).headD 0) = opAt t.ops ((stk t.ops i).headD 0) := by
    refine h _ ?_
    cases hq : stk t.ops i with
    | nil => show 0 < p; omega
    | cons g r =>
     have := stk_lt (ops := t.ops) (i := i) (p := g) (by rw [hq]; exact List.mem_cons_self ..)
     show g < p; omega
   rw [this]
section
variable {s t : Script} {x y : Int} {p q : Nat}
theorem Ends.pre_box (E : Ends s t x y p q) {g : Nat} (hg : g < p) : inB (boxesM s g) x y ↔ inB (boxesM t g) x y := by
 have e := stk_pre E.pre p (Nat.le_refl _)
 by_cases h : g ∈ stk s.ops p
 ·have h1 := E.os g (.inr h)
  have h2 := E.ot g (.inr (by rw [← e]; exact h))
  exact ⟨fun q => absurd q h1, fun q => absurd q h2⟩
 ·have e1 : boxesM s g = (bxAt s p).1 g := bx_keep E.W hg h _ (by have := E.ls; omega) (Nat.le_refl _)
  have e2 : boxesM t g = (bxAt t p).1 g := bx_keep E.U hg (by rw [← e]; exact h) _ (by have := E.lt; omega) (Nat.le_refl _)
  rw [e1, e2, bx_pre E.T E.pre p (Nat.le_refl _)]
theorem Ends.pre_act (E : Ends s t x y p q) {i : Nat} (hi : i < p) : actM s x y i ↔ actM t x y i := by
 unfold actM
 rw [stk_pre E.pre i (by omega), E.pre_box hi]
 have : (∀ g ∈ stk t.ops i, inB (boxesM s g) x y) ↔ ∀ g ∈ stk t.ops i, inB (boxesM t g) x y := by
  refine ⟨fun h g hg => ?_, fun h g hg => ?_⟩
  ·have := stk_lt hg
   exact (E.pre_box (by omega)).1 (h g hg)
  ·have := stk_lt hg
   exact (E.pre_box (by omega)).2 (h g hg)
 rw [this]
theorem Ends.open_out (E : Ends s t x y p q) {g : Nat} (hg : g ∈ stk s.ops (s.ops.length - q)) : ¬ inB (boxesM s g) x y := by
 have hl := E.ls
 have := stk_lt hg
 rcases Nat.lt_or_ge g p with h | h
 ·refine E.os g (.inr ?_)
  by_cases h2 : g ∈ stk s.ops p
  ·exact h2
  ·exact absurd hg (stk_keep E.W h h2 _ (by omega))
 ·exact E.os g (.inl ⟨h, this⟩)
structure Suf (s t : Script) (q k : Nat) (L : List Nat) (j : Nat) (H : List Rect) : Prop where
 e1 : stk s.ops (s.ops.length - q + k) = L.map (s.ops.length - q + ·) ++ (stk s.ops (s.ops.length - q)).drop j
 e2 : stk t.ops (t.ops.length - q + k) = L.map (t.ops.length - q + ·) ++ (stk t.ops (t.ops.length - q)).drop j
 j1 : j ≤ (stk s.ops (s.ops.length - q)).length
 j2 : j ≤ (stk t.ops (t.ops.length - q)).length
 h1 : ∃ R, (bxAt s (s.ops.length - q + k)).2 = H ++ R
 h2 : ∃ R, (bxAt t (t.ops.length - q + k)).2 = H ++ R
 hl : H.length = L.length
 ll : ∀ l ∈ L, l < k
 bx : ∀ l, l < k → l ∉ L → (bxAt s (s.ops.length - q + k)).1 (s.ops.length - q + l) = (bxAt t (t.ops.length - q + k)).1 (t.ops.length - q + l) ∨
  ((∃ g ∈ stk s.ops (s.ops.length - q + l), g < s.ops.length - q) ∧ ∃ g ∈ stk t.ops (t.ops.length - q + l), g < t.ops.length - q)
def topH (H : List Rect) (X : Rect) : List Rect := match H with
 | [] => []
 | h :: H => hullM [h, X] :: H
theorem topH_len {H : List Rect} {X : Rect} : (topH H X).length = H.length := by cases H <;> rfl
theorem topH_push {H R : List Rect} {X : Rect} : ∃ R', push1 (H ++ R) X = topH H X ++ R' := by
 cases H with
 | nil => exact ⟨_, rfl⟩
 | cons h H => exact ⟨R, rfl⟩
theorem Ends.sufs (E : Ends s t x y p q) : ∀ k, k ≤ q → ∃ L j H, Suf s t q k L j H
 | 0, _ => ⟨[], 0, [], rfl, rfl, Nat.zero_le _, Nat.zero_le _, ⟨_, rfl⟩, ⟨_, rfl⟩, rfl, (fun _ h => by cases h), fun l h => absurd h (Nat.not_lt_zero _)⟩
 | k + 1, hk => by
  obtain ⟨L, j, H, S⟩ := E.sufs k (by omega)
  have hls := E.ls
  have hlt := E.lt
  have ho := E.suf k (by omega)
  have hia : s.ops.length - q + k < s.ops.length := by omega
  have hib : t.ops.length - q + k < t.ops.length := by omega
  have n1 := E.W.pops _ hia
  have n2 := E.U.pops _ hib
  obtain ⟨e1, e2, j1, j2, ⟨R, h1⟩, ⟨R', h2⟩, hl, ll, bx⟩ := S
  have hsuf := E.suf
  rcases E.W.kinds _ hia with d | d | d
  ·have d2 : (opAt t.ops (t.ops.length - q + k)).kind = 1 := by rw [← ho]; exact d
   have b1 : (bxAt s (s.ops.length - q + k + 1)) = (upd (bxAt s (s.ops.length - q + k)).1 (s.ops.length - q + k) (boxM s (opAt s.ops (s.ops.length - q + k)) (imageRectM s (opAt s.ops (s.ops.length - q + k)))), push1 (bxAt s (s.ops.length - q + k)).2 (boxM s (opAt s.ops (s.ops.length - q + k)) (imageRectM s (opAt s.ops (s.ops.length - q + k))))) := by
    rw [bxAt, if_neg (by omega), if_pos d]
   have b2 : (bxAt t (t.ops.length - q + k + 1)) = (upd (bxAt t (t.ops.length - q + k)).1 (t.ops.length - q + k) (boxM s (opAt s.ops (s.ops.length - q + k)) (imageRectM s (opAt s.ops (s.ops.length - q + k)))), push1 (bxAt t (t.ops.length - q + k)).2 (boxM s (opAt s.ops (s.ops.length - q + k)) (imageRectM s (opAt s.ops (s.ops.length - q + k))))) := by
    rw [bxAt, if_neg (by omega), if_pos d2, ← ho, ← E.T.img, ← E.T.box]
   generalize boxM s (opAt s.ops (s.ops.length - q + k)) (imageRectM s (opAt s.ops (s.ops.length - q + k))) = X at b1 b2
   refine ⟨L, j, topH H X, ?_, ?_, j1, j2, ?_, ?_, ?_, fun l h => Nat.lt_succ_of_lt (ll l h), fun l h hn => ?_⟩
   ·rw [← Nat.add_assoc, stk_draw d]; exact e1
   ·rw [← Nat.add_assoc, stk_draw d2]; exact e2
   ·rw [← Nat.add_assoc, b1, h1]; exact topH_push
   ·rw [← Nat.add_assoc, b2, h2]; exact topH_push
   ·rw [topH_len]; exact hl
   ·rw [← Nat.add_assoc, ← Nat.add_assoc, b1, b2]
    dsimp only
    rcases Nat.lt_or_ge l k with c | c
    ·rw [upd_ne _ _ (by omega), upd_ne _ _ (by omega)]
     exact bx l c hn
    ·obtain rfl : l = k := by omega
     rw [upd_self, upd_self]; exact .inl rfl
  ·have d2 : (opAt t.ops (t.ops.length - q + k)).kind = 2 := by rw [← ho]; exact d
   have b1 : (bxAt s (s.ops.length - q + k + 1)) = ((bxAt s (s.ops.length - q + k)).1, zeroR :: (bxAt s (s.ops.length - q + k)).2) := by rw [bxAt, if_pos d]
   have b2 : (bxAt t (t.ops.length - q + k + 1)) = ((bxAt t (t.ops.length - q + k)).1, zeroR :: (bxAt t (t.ops.length - q + k)).2) := by rw [bxAt, if_pos d2]
   refine ⟨k :: L, j, zeroR :: H, ?_, ?_, j1, j2, ⟨R, ?_⟩, ⟨R', ?_⟩, by rw [List.length_cons, List.length_cons, hl], fun l h => ?_, fun l h hn => ?_⟩
   ·rw [← Nat.add_assoc, stk_push d, e1]; rfl
   ·rw [← Nat.add_assoc, stk_push d2, e2]; rfl
   ·rw [← Nat.add_assoc, b1, h1]; rfl
   ·rw [← Nat.add_assoc, b2, h2]; rfl
   ·rcases List.mem_cons.1 h with rfl | h
    ·omega
    ·have := ll l h; omega
   ·rw [← Nat.add_assoc, ← Nat.add_assoc, b1, b2]
    have : l ≠ k := fun e => hn (by rw [e]; exact List.mem_cons_self ..)
    exact bx l (by omega) fun h => hn (List.mem_cons_of_mem _ h)
  ·have d2 : (opAt t.ops (t.ops.length - q + k)).kind = 3 := by rw [← ho]; exact d
   have n1 := n1 d
   have n2 := n2 d2
   have b1 : ∀ g r, stk s.ops (s.ops.length - q + k) = g :: r → (bxAt s (s.ops.length - q + k + 1)) = (upd (upd (bxAt s (s.ops.length - q + k)).1 (s.ops.length - q + k) (boxM s (opAt s.ops g) ((bxAt s (s.ops.length - q + k)).2.headD zeroR))) g (boxM s (opAt s.ops g) ((bxAt s (s.ops.length - q + k)).2.headD zeroR)), push1 (bxAt s (s.ops.length - q + k)).2.tail (boxM s (opAt s.ops g) ((bxAt s (s.ops.length - q + k)).2.headD zeroR))) := fun g r e => by
    rw [bxAt, if_neg (by omega), if_neg (by omega), e]; rfl
   have b2 : ∀ g r, stk t.ops (t.ops.length - q + k) = g :: r → (bxAt t (t.ops.length - q + k + 1)) = (upd (upd (bxAt t (t.ops.length - q + k)).1 (t.ops.length - q + k) (boxM t (opAt t.ops g) ((bxAt t (t.ops.length - q + k)).2.headD zeroR))) g (boxM t (opAt t.ops g) ((bxAt t (t.ops.length - q + k)).2.headD zeroR)), push1 (bxAt t (t.ops.length - q + k)).2.tail (boxM t (opAt t.ops g) ((bxAt t (t.ops.length - q + k)).2.headD zeroR))) := fun g r e => by
    rw [bxAt, if_neg (by omega), if_neg (by omega), e]; rfl
   cases L with
   | nil =>
    have e1 : stk s.ops (s.ops.length - q + k) = (stk s.ops (s.ops.length - q)).drop j := e1
    have e2 : stk t.ops (t.ops.length - q + k) = (stk t.ops (t.ops.length - q)).drop j := e2
    have H0 : H = [] := List.eq_nil_of_length_eq_zero hl
    subst H0
    cases f1 : stk s.ops (s.ops.length - q + k) with
    | nil => exact absurd f1 n1
    | cons g r =>
     cases f2 : stk t.ops (t.ops.length - q + k) with
     | nil => exact absurd f2 n2
     | cons g' r' =>
      have m1 : g ∈ stk s.ops (s.ops.length - q) := List.mem_of_mem_drop (i := j) (by rw [← e1, f1]; exact List.mem_cons_self ..)
      have m2 : g' ∈ stk t.ops (t.ops.length - q) := List.mem_of_mem_drop (i := j) (by rw [← e2, f2]; exact List.mem_cons_self ..)
      have l1 := stk_lt m1
      have l2 := stk_lt m2
      have len1 := congrArg List.length (e1.symm.trans f1)
      have len2 := congrArg List.length (e2.symm.trans f2)
      rw [List.length_drop, List.length_cons] at len1 len2
      refine ⟨[], j + 1, [], ?_, ?_, by omega, by omega, ⟨_, rfl⟩, ⟨_, rfl⟩, rfl, (fun _ h => by cases h), fun l h hn => ?_⟩
      ·rw [← Nat.add_assoc, stk_pop d, e1, List.tail_drop]; rfl
      ·rw [← Nat.add_assoc, stk_pop d2, e2, List.tail_drop]; rfl
      ·rw [← Nat.add_assoc, ← Nat.add_assoc, b1 g r f1, b2 g' r' f2]
       dsimp only
       rcases Nat.lt_or_ge l k with c | c
       ·rw [upd_ne _ _ (by omega), upd_ne _ _ (by omega), upd_ne _ _ (by omega), upd_ne _ _ (by omega)]
        exact bx l c hn
       ·obtain rfl : l = k := by omega
        exact .inr ⟨⟨g, by rw [f1]; exact List.mem_cons_self .., l1⟩, ⟨g', by rw [f2]; exact List.mem_cons_self .., l2⟩⟩
   | cons l0 L =>
    cases H with
    | nil => cases hl
    | cons h H =>
     have hl0 := ll l0 (List.mem_cons_self ..)
     have ho0 := hsuf l0 (by omega)
     have b1 := b1 _ _ e1
     have b2 := b2 _ _ e2
     rw [h1] at b1
     rw [h2, ← ho0, ← E.T.box] at b2
     have b1 : bxAt s (s.ops.length - q + k + 1) = (upd (upd (bxAt s (s.ops.length - q + k)).1 (s.ops.length - q + k) (boxM s (opAt s.ops (s.ops.length - q + l0)) h)) (s.ops.length - q + l0) (boxM s (opAt s.ops (s.ops.length - q + l0)) h), push1 (H ++ R) (boxM s (opAt s.ops (s.ops.length - q + l0)) h)) := b1
     have b2 : bxAt t (t.ops.length - q + k + 1) = (upd (upd (bxAt t (t.ops.length - q + k)).1 (t.ops.length - q + k) (boxM s (opAt s.ops (s.ops.length - q + l0)) h)) (t.ops.length - q + l0) (boxM s (opAt s.ops (s.ops.length - q + l0)) h), push1 (H ++ R') (boxM s (opAt s.ops (s.ops.length - q + l0)) h)) := b2
     generalize boxM s (opAt s.ops (s.ops.length - q + l0)) h = X at b1 b2
     refine ⟨L, j, topH H X, ?_, ?_, j1, j2, ?_, ?_, ?_, fun l h => Nat.lt_succ_of_lt (ll l (List.mem_cons_of_mem _ h)), fun l h hn => ?_⟩
     ·rw [← Nat.add_assoc, stk_pop d, e1]; rfl
     ·rw [← Nat.add_assoc, stk_pop d2, e2]; rfl
     ·rw [← Nat.add_assoc, b1]; exact topH_push
     ·rw [← Nat.add_assoc, b2]; exact topH_push
     ·rw [topH_len]; simpa using hl
     ·rw [← Nat.add_assoc, ← Nat.add_assoc, b1, b2]
      dsimp only
      have u1 : ∀ (f : Nat → Rect) (a b c : Nat), c ≠ a → c ≠ b → upd (upd f a X) b X c = f c := fun f a b c h1 h2 => by rw [upd_ne _ _ h2, upd_ne _ _ h1]
      have u2 : ∀ (f : Nat → Rect) (a b c : Nat), c = a ∨ c = b → upd (upd f a X) b X c = X := fun f a b c h => by
       by_cases h2 : c = b
       ·rw [h2, upd_self]
       ·rw [upd_ne _ _ h2, h.resolve_right h2, upd_self]
      by_cases c0 : l = l0
      ·rw [u2 _ _ _ _ (.inr (by rw [c0])), u2 _ _ _ _ (.inr (by rw [c0]))]; exact .inl rfl
      rcases Nat.lt_or_ge l k with c | c
      ·rw [u1 _ _ _ _ (by omega) (by omega), u1 _ _ _ _ (by omega) (by omega)]
       refine bx l c fun q => ?_
       rcases List.mem_cons.1 q with q | q
       ·exact c0 q
       ·exact hn q
      ·have ek : l = k := by omega
       rw [u2 _ _ _ _ (.inl (by rw [ek])), u2 _ _ _ _ (.inl (by rw [ek]))]; exact .inl rfl
theorem Ends.suf_box (E : Ends s t x y p q) {l : Nat} (hl : l < q) : boxesM s (s.ops.length - q + l) = boxesM t (t.ops.length - q + l) ∨
  ((∃ g ∈ stk s.ops (s.ops.length - q + l), g < s.ops.length - q) ∧ ∃ g ∈ stk t.ops (t.ops.length - q + l), g < t.ops.length - q) := by
 obtain ⟨L, j, H, S⟩ := E.sufs q (Nat.le_refl _)
 have hls := E.ls
 have hlt := E.lt
 have e1 := S.e1
 rw [show s.ops.length - q + q = s.ops.length by omega, E.W.fin] at e1
 have hL : L = [] := by
  cases L with
  | nil => rfl
  | cons a L => cases e1
 subst hL
 have := S.bx l hl (fun h => by cases h)
 rw [show s.ops.length - q + q = s.ops.length by omega, show t.ops.length - q + q = t.ops.length by omega] at this
 exact this
theorem Ends.suf_len (E : Ends s t x y p q) : (stk s.ops (s.ops.length - q)).length = (stk t.ops (t.ops.length - q)).length := by
 obtain ⟨L, j, H, S⟩ := E.sufs q (Nat.le_refl _)
 have hls := E.ls
 have hlt := E.lt
 have e1 := S.e1
 have e2 := S.e2
 rw [show s.ops.length - q + q = s.ops.length by omega, E.W.fin] at e1
 rw [show t.ops.length - q + q = t.ops.length by omega, E.U.fin] at e2
 have f1 := congrArg List.length e1
 have f2 := congrArg List.length e2
 rw [List.length_append, List.length_drop, List.length_nil] at f1 f2
 have := S.j1
 have := S.j2
 omega
theorem Ends.suf_act (E : Ends s t x y p q) {k : Nat} (hk : k < q) : actM s x y (s.ops.length - q + k) ↔ actM t x y (t.ops.length - q + k) := by
 obtain ⟨L, j, H, S⟩ := E.sufs k (by omega)
 have hlen := E.suf_len
 have e1 := S.e1
 have e2 := S.e2
 cases hd : (stk s.ops (s.ops.length - q)).drop j with
 | cons g r =>
  have g1 : g ∈ stk s.ops (s.ops.length - q) := List.mem_of_mem_drop (i := j) (by rw [hd]; exact List.mem_cons_self ..)
  have n1 : ¬ actM s x y (s.ops.length - q + k) := fun h => E.open_out g1 (h.1 g (by rw [e1, hd]; simp))
  cases hd2 : (stk t.ops (t.ops.length - q)).drop j with
  | nil =>
   have f1 := congrArg List.length hd
   have f2 := congrArg List.length hd2
   rw [List.length_drop] at f1 f2
   rw [List.length_cons] at f1
   rw [List.length_nil] at f2
   omega
  | cons g' r' =>
   have g2 : g' ∈ stk t.ops (t.ops.length - q) := List.mem_of_mem_drop (i := j) (by rw [hd2]; exact List.mem_cons_self ..)
   have n2 : ¬ actM t x y (t.ops.length - q + k) := fun h => E.symm.open_out g2 (h.1 g' (by rw [e2, hd2]; simp))
   exact ⟨fun h => absurd h n1, fun h => absurd h n2⟩
 | nil =>
  have hd2 : (stk t.ops (t.ops.length - q)).drop j = [] := by
   have f1 := congrArg List.length hd
   rw [List.length_drop, List.length_nil] at f1
   exact List.drop_eq_nil_of_le (by omega)
  rw [hd, List.append_nil] at e1
  rw [hd2, List.append_nil] at e2
  have hb : ∀ l, l < q → (∀ g ∈ stk s.ops (s.ops.length - q + l), g ∈ L.map (s.ops.length - q + ·)) → boxesM s (s.ops.length - q + l) = boxesM t (t.ops.length - q + l) := fun l hl hs => by
   rcases E.suf_box hl with h | ⟨⟨g, h1, h2⟩, _⟩
   ·exact h
   ·obtain ⟨z, _, hz⟩ := List.mem_map.1 (hs g h1)
    omega
  have hbk := hb k hk (fun g hg => by rw [← e1]; exact hg)
  have hbl : ∀ l ∈ L, boxesM s (s.ops.length - q + l) = boxesM t (t.ops.length - q + l) := fun l hl => by
   refine hb l (by have := S.ll l hl; omega) fun g hg => ?_
   have hm : s.ops.length - q + l ∈ L.map (s.ops.length - q + ·) := List.mem_map_of_mem hl
   obtain ⟨a, b, hab⟩ := List.append_of_mem hm
   rw [stk_suf (e1.trans hab)] at hg
   rw [hab]; simp [hg]
  unfold actM
  rw [e1, e2, hbk]
  have : (∀ g ∈ L.map (s.ops.length - q + ·), inB (boxesM s g) x y) ↔ ∀ g ∈ L.map (t.ops.length - q + ·), inB (boxesM t g) x y := by
   refine ⟨fun h g hg => ?_, fun h g hg => ?_⟩
   ·obtain ⟨l, h1, rfl⟩ := List.mem_map.1 hg
    rw [← hbl l h1]; exact h _ (List.mem_map_of_mem h1)
   ·obtain ⟨l, h1, rfl⟩ := List.mem_map.1 hg
    rw [hbl l h1]; exact h _ (List.mem_map_of_mem h1)
  rw [this]
theorem Ends.act_eq (E : Ends s t x y p q) (m : Int) : actSt s m x y s.ops.length = actSt t m x y t.ops.length := by
 have hls := E.ls
 have hlt := E.lt
 have hz := E.T.smp x y
 have h1 : ∀ i, i ≤ p → actSt s m x y i = actSt t m x y i := fun i => by
  induction i with
  | zero => exact fun _ => rfl
  | succ i ih =>
   intro hi
   have ih := ih (by omega)
   by_cases h : actM s x y i
   ·rw [act_yes h, act_yes ((E.pre_act (by omega)).1 h), ih, hz, E.pre i (by omega)]
   ·rw [act_no h, act_no (fun q => h ((E.pre_act (by omega)).2 q)), ih]
 have h2 : ∀ {u v : Script}, Ends u v x y p q → ∀ d, p + d ≤ u.ops.length - q → actSt u m x y (p + d) = actSt u m x y p := fun {u v} F d => by
  induction d with
  | zero => exact fun _ => rfl
  | succ d ih =>
   intro hd
   rw [← Nat.add_assoc, act_no fun h => F.os (p + d) (.inl ⟨by omega, by omega⟩) h.2]
   exact ih (by omega)
 have h3 : ∀ k, k ≤ q → actSt s m x y (s.ops.length - q + k) = actSt t m x y (t.ops.length - q + k) := fun k => by
  induction k with
  | zero =>
   intro _
   have a := h2 E (s.ops.length - q - p) (by omega)
   have b := h2 E.symm (t.ops.length - q - p) (by omega)
   rw [show p + (s.ops.length - q - p) = s.ops.length - q by omega] at a
   rw [show p + (t.ops.length - q - p) = t.ops.length - q by omega] at b
   rw [Nat.add_zero, Nat.add_zero, a, b, h1 p (Nat.le_refl _)]
  | succ k ih =>
   intro hk
   have ih := ih (by omega)
   rw [← Nat.add_assoc, ← Nat.add_assoc]
   by_cases h : actM s x y (s.ops.length - q + k)
   ·rw [act_yes h, act_yes ((E.suf_act (by omega)).1 h), ih, hz, E.suf k (by omega)]
   ·rw [act_no h, act_no (fun q => h ((E.suf_act (by omega)).2 q)), ih]
 have := h3 q (Nat.le_refl _)
 rw [show s.ops.length - q + q = s.ops.length by omega, show t.ops.length - q + q = t.ops.length by omega] at this
 exact this
end
theorem between_value {s t : Script} {m x y : Int} (C : Pt s m x y) (D : Pt t m x y) (T : Twin s t) (h : ¬ inB (betweenM s t).1 x y) (e1 : (opsM s).1 = 0) (e2 : (opsM t).1 = 0) (hz : sizesM s t = true) : valueM s x y = valueM t x y := by
 rw [act_value C, act_value D]
 rw [betweenM, if_neg (by simp [e1]), if_neg (by simp [e2]), if_neg (by simp [hz])] at h
 by_cases he : s.ops = t.ops
 ·refine congrArg (valL m) (Ends.act_eq (p := s.ops.length) (q := 0) ⟨T, C.V.wf, D.V.wf, by omega, by rw [he]; omega, fun i _ => by rw [he], fun k hk => absurd hk (Nat.not_lt_zero _), fun g hg => ?_, fun g hg => ?_⟩ m)
  ·rw [C.V.wf.fin] at hg
   rcases hg with hg | hg
   ·omega
   ·cases hg
  ·rw [he, D.V.wf.fin] at hg
   rcases hg with hg | hg
   ·omega
   ·cases hg
 rw [if_neg he] at h
 obtain ⟨p1, p2⟩ := pre_le s.ops t.ops
 obtain ⟨q1, q2⟩ := suf_le s.ops t.ops p1 p2
 obtain ⟨_, _, hp⟩ := upTo_ge (P := fun k => decide (k < s.ops.length ∧ k < t.ops.length ∧ opAt s.ops k = opAt t.ops k)) s.ops.length 0
 obtain ⟨_, _, hq⟩ := upTo_ge (P := fun k => decide (preM s.ops t.ops + k < s.ops.length ∧ preM s.ops t.ops + k < t.ops.length ∧ opAt s.ops (s.ops.length - 1 - k) = opAt t.ops (t.ops.length - 1 - k))) s.ops.length 0
 have hp : ∀ i, i < preM s.ops t.ops → opAt s.ops i = opAt t.ops i := fun i hi => by
  have := hp i (Nat.zero_le _) hi
  simp only [decide_eq_true_eq] at this
  exact this.2.2
 have hq : ∀ k, k < sufM s.ops t.ops (preM s.ops t.ops) → opAt s.ops (s.ops.length - 1 - k) = opAt t.ops (t.ops.length - 1 - k) := fun k hk => by
  have := hq k (Nat.zero_le _) hk
  simp only [decide_eq_true_eq] at this
  exact this.2.2
 have ho := hull_out h
 generalize preM s.ops t.ops = p at *
 generalize sufM s.ops t.ops p = q at *
 refine congrArg (valL m) (Ends.act_eq (p := p) (q := q) ⟨T, C.V.wf, D.V.wf, q1, q2, hp, fun k hk => ?_, fun g hg => ?_, fun g hg => ?_⟩ m)
 ·have := hq (q - 1 - k) (by omega)
  rw [show s.ops.length - 1 - (q - 1 - k) = s.ops.length - q + k by omega, show t.ops.length - 1 - (q - 1 - k) = t.ops.length - q + k by omega] at this
  exact this
 ·refine ho _ (List.mem_append_left _ ?_)
  unfold touchedM
  rcases hg with hg | hg
  ·refine List.mem_append_left _ (List.mem_map_of_mem (List.mem_range'_1.2 (by omega)))
  ·exact List.mem_append_right _ (List.mem_map_of_mem (List.mem_reverse.2 hg))
 ·refine ho _ (List.mem_append_right _ ?_)
  unfold touchedM
  rcases hg with hg | hg
  ·refine List.mem_append_left _ (List.mem_map_of_mem (List.mem_range'_1.2 (by omega)))
  ·exact List.mem_append_right _ (List.mem_map_of_mem (List.mem_reverse.2 hg))
end Go.Proofs.YtlblgkelhibdoaaGreatDoor
