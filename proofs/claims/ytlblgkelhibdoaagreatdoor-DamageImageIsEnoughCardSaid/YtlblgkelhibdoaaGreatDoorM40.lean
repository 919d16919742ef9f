/- Part of the proof: DC. -/
import Derived.Test.YtlblgkelhibdoaaGreatDoorM30
set_option linter.unusedSimpArgs false
set_option linter.unusedVariables false
set_option maxHeartbeats 4000000
set_option maxRecDepth 16000
namespace Go.Proofs.YtlblgkelhibdoaaGreatDoor
open Go Go.SL
open Go.RowKit (wrap64)
attribute [local go_sem] Int.toNat_natCast
theorem cle_den2 {ρ : Rho} {ok : Nat → Prop} {w : World} : ∀ {l r : List CV}, CLeL l r → l.length = r.length ∧ ∀ {u : Nat → Value}, (∀ j, DenC ρ ok w (l.getD j .any) (u j)) → ∀ j, DenC ρ ok w (r.getD j .any) (u j)
 | [], [], _ => ⟨rfl, fun h => h⟩
 | .p x :: l, .p y :: r, h => by
  rw [cleL_cons] at h
  obtain ⟨h1, h2⟩ := h
  obtain ⟨q1, q2⟩ := cle_den2 (ρ := ρ) (ok := ok) (w := w) h2
  refine ⟨by simp [q1], fun {u} hu j => ?_⟩
  cases j with
  | zero =>
   rcases h1 with e | e
   ·rw [← e]; exact hu 0
   ·exact e _ _ _ (hu 0)
  | succ j => exact q2 (u := fun k => u (k + 1)) (fun k => hu (k + 1)) j
theorem bvle_agg2 {l r : List CV} (h : CLeL l r) : BV.le (.agg l) (.agg r) := fun ρ ok w u ⟨us, hu, hs, h1, hd⟩ => by
 obtain ⟨q1, q2⟩ := cle_den2 (ρ := ρ) (ok := ok) (w := w) h
 exact ⟨us, hu, by rw [hs, q1], h1, q2 hd⟩
theorem flatR (r : Rect) (b : Int) : SV.flat (.tup [ag (rectE r), I b]) := fun v hv => by
 rcases List.mem_cons.1 hv with rfl | hv
 ·exact rect_flat _
 ·rw [List.mem_singleton.1 hv]; trivial
def dOp (x y : Int) : Op := ⟨1, 0, x, y, 0, 0, 0, 255, 4, 1, false, false⟩
def dImage : Image := ⟨2, 2, true, ⟨0, 0, 0, 0, 0⟩, ⟨0, 0, 0, []⟩, ⟨0, 0, 0, []⟩, ⟨0, 0, 0, []⟩, ⟨0, 0, 0, []⟩, ⟨0, 0, 0, []⟩⟩
def dScript : Script := ⟨8, ⟨0, 0, 9, 9⟩, 1, 1, [], [dImage], [dOp 0 0, dOp 3 2]⟩
theorem dScript_i : dimageM dScript 0 ⟨0, 0, 1, 1⟩ = (⟨0, 0, 4, 3⟩, 0) := by decide +kernel
theorem dScript_b : betweenM dScript dScript = (zeroR, 0) := by decide +kernel
theorem awake31_spec : Pure Sg 13 [] (fun r => r = .b (B true)) := by
 have hl : ScriptLen dScript := ⟨by decide, by decide, by decide⟩
 have h1 := dimage_spec dScript hl 0 ⟨0, 0, 1, 1⟩ ⟨by decide, by decide⟩
 rw [dScript_i] at h1
 have h2 := between_spec dScript dScript hl hl
 rw [dScript_b] at h2
 refine fn_a Tryz.func13 [.tmp 0] ?_
 repeat' (first | with_reducible exact tr_a | refine un_a ?_ | ((first | refine st_a (fun K hK => ?_) | refine rg_a ?_); and_intros; (all_goals first | (refine hK _ ?_; clear hK K) | exact auto_cl | skip)) | ((first | apply cw_ite | apply cw_iteN); (case hf => rfl); (case hc => exact ev_a); (all_goals first | (intro hb; (try simp only [hbs] at hb)) | skip)) | exact atN_intro | (refine if_a (fun hb => ?_) (fun hb => ?_); all_goals try exact bad_a) | refine cw_blocks (fun KB hB => ?_) | (refine hB _ ?_; clear hB KB) | refine exit_by (S := Sg) (by assumption) ?_ | (refine ret_a ?_; (try clear hB KB); (try clear hK K)))
 refine call_lends ?_ ?_ (by simp (maxSteps := 1000000) (disch := omega) only [go_sem]) ?_ (h1)
 try simp (maxSteps := 1000000) (disch := omega) only [go_sem]
 try (refine hK _ ?_; clear hK K)
 ·repeat' (first | with_reducible exact tr_a | refine un_a ?_ | ((first | refine st_a (fun K hK => ?_) | refine rg_a ?_); and_intros; (all_goals first | (refine hK _ ?_; clear hK K) | exact auto_cl | skip)) | ((first | apply cw_ite | apply cw_iteN); (case hf => rfl); (case hc => exact ev_a); (all_goals first | (intro hb; (try simp only [hbs] at hb)) | skip)) | exact atN_intro | (refine if_a (fun hb => ?_) (fun hb => ?_); all_goals try exact bad_a) | refine cw_blocks (fun KB hB => ?_) | (refine hB _ ?_; clear hB KB) | refine exit_by (S := Sg) (by assumption) ?_ | (refine ret_a ?_; (try clear hB KB); (try clear hK K)))
  refine call_lends ?_ ?_ (by simp (maxSteps := 1000000) (disch := omega) only [go_sem]) ?_ (h2)
  try simp (maxSteps := 1000000) (disch := omega) only [go_sem]
  try (refine hK _ ?_; clear hK K)
  ·repeat' (first | with_reducible exact tr_a | refine un_a ?_ | ((first | refine st_a (fun K hK => ?_) | refine rg_a ?_); and_intros; (all_goals first | (refine hK _ ?_; clear hK K) | exact auto_cl | skip)) | ((first | apply cw_ite | apply cw_iteN); (case hf => rfl); (case hc => exact ev_a); (all_goals first | (intro hb; (try simp only [hbs] at hb)) | skip)) | exact atN_intro | (refine if_a (fun hb => ?_) (fun hb => ?_); all_goals try exact bad_a) | refine cw_blocks (fun KB hB => ?_) | (refine hB _ ?_; clear hB KB) | refine exit_by (S := Sg) (by assumption) ?_ | (refine ret_a ?_; (try clear hB KB); (try clear hK K)))
   rfl
  ·refine ⟨bvle_agg2 ?_, bvle_agg2 ?_, trivial⟩
   all_goals (simp only [List.map_cons, List.map_nil, cleL_cons, cleL_nil])
   all_goals and_intros
   all_goals first | exact .inl rfl | exact .inl trivial | exact .inr nil_le | trivial | skip
   ·refine .inr (lst_leQ fun i hi j hj => ?_)
    have : i = 0 := by omega
    subst this
    have hivl : j = 0 ∨ j = 1 ∨ j = 2 ∨ j = 3 ∨ j = 4 ∨ j = 5 ∨ j = 6 ∨ j = 7 ∨ j = 8 ∨ j = 9 ∨ j = 10 ∨ j = 11 ∨ j = 12 ∨ j = 13 ∨ j = 14 ∨ j = 15 ∨ j = 16 ∨ j = 17 ∨ j = 18 ∨ j = 19 ∨ j = 20 ∨ j = 21 ∨ j = 22 ∨ j = 23 ∨ j = 24 ∨ j = 25 ∨ j = 26 ∨ j = 27 := by omega
    rcases hivl with rfl | rfl | rfl | rfl | rfl | rfl | rfl | rfl | rfl | rfl | rfl | rfl | rfl | rfl | rfl | rfl | rfl | rfl | rfl | rfl | rfl | rfl | rfl | rfl | rfl | rfl | rfl | rfl <;> (first | exact PV.le_refl _ | exact nil_le)
   ·refine .inr (lst_leQ fun i hi j hj => ?_)
    have : i = 0 ∨ i = 1 := by omega
    rcases this with rfl | rfl
    ·have hivl : j = 0 ∨ j = 1 ∨ j = 2 ∨ j = 3 ∨ j = 4 ∨ j = 5 ∨ j = 6 ∨ j = 7 ∨ j = 8 ∨ j = 9 ∨ j = 10 ∨ j = 11 := by omega
     rcases hivl with rfl | rfl | rfl | rfl | rfl | rfl | rfl | rfl | rfl | rfl | rfl | rfl <;> exact PV.le_refl _
    ·have hivl : j = 0 ∨ j = 1 ∨ j = 2 ∨ j = 3 ∨ j = 4 ∨ j = 5 ∨ j = 6 ∨ j = 7 ∨ j = 8 ∨ j = 9 ∨ j = 10 ∨ j = 11 := by omega
     rcases hivl with rfl | rfl | rfl | rfl | rfl | rfl | rfl | rfl | rfl | rfl | rfl | rfl <;> exact PV.le_refl _
   ·refine .inr (lst_leQ fun i hi j hj => ?_)
    have : i = 0 := by omega
    subst this
    have hivl : j = 0 ∨ j = 1 ∨ j = 2 ∨ j = 3 ∨ j = 4 ∨ j = 5 ∨ j = 6 ∨ j = 7 ∨ j = 8 ∨ j = 9 ∨ j = 10 ∨ j = 11 ∨ j = 12 ∨ j = 13 ∨ j = 14 ∨ j = 15 ∨ j = 16 ∨ j = 17 ∨ j = 18 ∨ j = 19 ∨ j = 20 ∨ j = 21 ∨ j = 22 ∨ j = 23 ∨ j = 24 ∨ j = 25 ∨ j = 26 ∨ j = 27 := by omega
    rcases hivl with rfl | rfl | rfl | rfl | rfl | rfl | rfl | rfl | rfl | rfl | rfl | rfl | rfl | rfl | rfl | rfl | rfl | rfl | rfl | rfl | rfl | rfl | rfl | rfl | rfl | rfl | rfl | rfl <;> (first | exact PV.le_refl _ | exact nil_le)
   ·refine .inr (lst_leQ fun i hi j hj => ?_)
    have : i = 0 ∨ i = 1 := by omega
    rcases this with rfl | rfl
    ·have hivl : j = 0 ∨ j = 1 ∨ j = 2 ∨ j = 3 ∨ j = 4 ∨ j = 5 ∨ j = 6 ∨ j = 7 ∨ j = 8 ∨ j = 9 ∨ j = 10 ∨ j = 11 := by omega
     rcases hivl with rfl | rfl | rfl | rfl | rfl | rfl | rfl | rfl | rfl | rfl | rfl | rfl <;> exact PV.le_refl _
    ·have hivl : j = 0 ∨ j = 1 ∨ j = 2 ∨ j = 3 ∨ j = 4 ∨ j = 5 ∨ j = 6 ∨ j = 7 ∨ j = 8 ∨ j = 9 ∨ j = 10 ∨ j = 11 := by omega
     rcases hivl with rfl | rfl | rfl | rfl | rfl | rfl | rfl | rfl | rfl | rfl | rfl | rfl <;> exact PV.le_refl _
  exact flatR _ _
 ·refine ⟨bvle_agg2 ?_, bvle_refl, bvle_refl, trivial⟩
  simp only [List.map_cons, List.map_nil, cleL_cons, cleL_nil]
  and_intros
  all_goals first | exact .inl rfl | exact .inl trivial | exact .inr nil_le | trivial | skip
  ·refine .inr (lst_leQ fun i hi j hj => ?_)
   have : i = 0 := by omega
   subst this
   have hivl : j = 0 ∨ j = 1 ∨ j = 2 ∨ j = 3 ∨ j = 4 ∨ j = 5 ∨ j = 6 ∨ j = 7 ∨ j = 8 ∨ j = 9 ∨ j = 10 ∨ j = 11 ∨ j = 12 ∨ j = 13 ∨ j = 14 ∨ j = 15 ∨ j = 16 ∨ j = 17 ∨ j = 18 ∨ j = 19 ∨ j = 20 ∨ j = 21 ∨ j = 22 ∨ j = 23 ∨ j = 24 ∨ j = 25 ∨ j = 26 ∨ j = 27 := by omega
   rcases hivl with rfl | rfl | rfl | rfl | rfl | rfl | rfl | rfl | rfl | rfl | rfl | rfl | rfl | rfl | rfl | rfl | rfl | rfl | rfl | rfl | rfl | rfl | rfl | rfl | rfl | rfl | rfl | rfl <;> (first | exact PV.le_refl _ | exact nil_le)
  ·refine .inr (lst_leQ fun i hi j hj => ?_)
   have : i = 0 ∨ i = 1 := by omega
   rcases this with rfl | rfl
   ·have hivl : j = 0 ∨ j = 1 ∨ j = 2 ∨ j = 3 ∨ j = 4 ∨ j = 5 ∨ j = 6 ∨ j = 7 ∨ j = 8 ∨ j = 9 ∨ j = 10 ∨ j = 11 := by omega
    rcases hivl with rfl | rfl | rfl | rfl | rfl | rfl | rfl | rfl | rfl | rfl | rfl | rfl <;> exact PV.le_refl _
   ·have hivl : j = 0 ∨ j = 1 ∨ j = 2 ∨ j = 3 ∨ j = 4 ∨ j = 5 ∨ j = 6 ∨ j = 7 ∨ j = 8 ∨ j = 9 ∨ j = 10 ∨ j = 11 := by omega
    rcases hivl with rfl | rfl | rfl | rfl | rfl | rfl | rfl | rfl | rfl | rfl | rfl | rfl <;> exact PV.le_refl _
 exact flatR _ _
theorem tree_br {S : Env} {ops : Array Oper} {L : List Oper} {i : Nat} {t r : Tr} {st : St} {K : St → Prop} (h : ∀ K' : St → Prop, (∀ s, treeP S ops L t s K → K' s) → opsP S ops [L.getD i default] st K') (hr : treeP S ops L r st K) : treeP S ops L (.br i t r) st K :=
 ⟨h _ (fun _ h => h), hr⟩
theorem tree_leaf {S : Env} {ops : Array Oper} {L : List Oper} {st : St} {K : St → Prop} (h : K st) : treeP S ops L .leaf st K := h
theorem tree_nil {S : Env} {ops : Array Oper} {L : List Oper} {st : St} {K : St → Prop} : treeP S ops L .nil st K := trivial
def uBase (s : Script) (d : Scene) : Script := { gScript d with bits := s.bits, canvas := s.canvas, tileW := s.tileW, tileH := s.tileH, order := s.order, images := s.images }
def uI (s : Script) (d : Scene) : Script := ⟨s.bits, s.canvas, s.tileW, s.tileH, s.order, s.images ++ [s.images.getD 0 default], (gScript d).ops⟩
attribute [local go_sem] uBase uI
end Go.Proofs.YtlblgkelhibdoaaGreatDoor
