/- Part of the proof: VC. -/
import Derived.Test.YtlblgkelhibdoaaGreatDoorM39
import Derived.Test.YtlblgkelhibdoaaGreatDoorM57
set_option linter.unusedSimpArgs false
set_option linter.unusedVariables false
set_option maxHeartbeats 8000000
set_option maxRecDepth 16000
namespace Go.Proofs.YtlblgkelhibdoaaGreatDoor
open Go Go.SL
open Go.RowKit (wrap64)
attribute [local go_sem] lastP mcP Int.toNat_natCast
def ptM (s : Script) (q : Nat) : Pixel := valueM s (s.canvas.x0 + ((q % (s.canvas.x1 - s.canvas.x0).toNat : Nat) : Int)) (s.canvas.y0 + ((q / (s.canvas.x1 - s.canvas.x0).toNat : Nat) : Int))
def pointsM (s : Script) (n : Nat) : List Pixel := (List.range n).map (ptM s)
theorem points_len {s : Script} {n : Nat} : (pointsM s n).length = n := by simp [pointsM]
theorem points_next {s : Script} {n : Nat} : pointsM s (n + 1) = pointsM s n ++ [ptM s n] := by simp [pointsM, List.range_succ]
theorem points_sp (s : Script) (hs : ScriptLen s) (hc : Small s.canvas) (hP : ∀ x y, inR s.canvas x y → ∃ m, Pt s m x y) :
  Pure Sg 58 [ag (scriptE s), ag (rectE s.canvas)] (fun r => r = .b (.c (.p (pixL (pointsM s ((s.canvas.x1 - s.canvas.x0) * (s.canvas.y1 - s.canvas.y0)).toNat))))) := by
 obtain ⟨x0, x1, y0, y1, hw, hh⟩ := hc
 have ht : True := trivial
 obtain ⟨W, hW⟩ : ∃ W : Nat, (W : Int) = s.canvas.x1 - s.canvas.x0 := ⟨(s.canvas.x1 - s.canvas.x0).toNat, by omega⟩
 obtain ⟨H, hH⟩ : ∃ H : Nat, (H : Int) = s.canvas.y1 - s.canvas.y0 := ⟨(s.canvas.y1 - s.canvas.y0).toNat, by omega⟩
 have eWH : ((s.canvas.x1 - s.canvas.x0) * (s.canvas.y1 - s.canvas.y0)).toNat = H * W := by
  rw [← hW, ← hH, ← Int.natCast_mul, Int.toNat_natCast, Nat.mul_comm]
 have eW : (s.canvas.x1 - s.canvas.x0).toNat = W := by omega
 have hle : ∀ a, a ≤ H → a * W ≤ 20 := fun a ha => Nat.le_trans (Nat.mul_le_mul ha (Nat.le_refl W)) (Nat.le_trans (Nat.mul_le_mul (show H ≤ 4 by omega) (show W ≤ 5 by omega)) (by decide))
 have hval : ∀ a k, a < H → k < W → Pure Sg 16 [ag (scriptE s), I (s.canvas.x0 + (k : Nat)), I (s.canvas.y0 + (a : Nat))] (fun r => r = .b (ag (pixE (ptM s (a * W + k))))) := fun a k ha hk => by
  obtain ⟨m, C⟩ := hP (s.canvas.x0 + k) (s.canvas.y0 + a) (by unfold inR; omega)
  have e1 : (a * W + k) % W = k := by rw [Nat.mul_comm, Nat.mul_add_mod]; exact Nat.mod_eq_of_lt hk
  have e2 : (a * W + k) / W = a := by rw [Nat.mul_comm, Nat.mul_add_div (by omega), Nat.div_eq_of_lt hk]; omega
  have := value_pt s _ _ m C hs ⟨by omega, by omega⟩ ⟨by omega, by omega⟩
  unfold ptM
  rw [eW, e1, e2]
  exact this
 rw [eWH]
 refine fn_a Tryz.func58 [.tmp 4] ?_
 repeat' (first | refine un_a ?_ | (refine st_a (fun K hK => ?_); and_intros; (all_goals first | (refine hK _ ?_; clear hK K) | exact auto_cl | skip)))
 refine cw_loop (X := Nat) (fun a => mkSt [(2, .b (.c (.ptr 0 0))), (3, .b (.c (.ptr 1 0))), (5, .b (.c (.own 2 (a * W)))), (6, .b (I (s.canvas.y0 + a)))] [(0, .fix ((scriptE s).map CV.p)), (1, .fix ((rectE s.canvas).map CV.p)), (2, .arr 52 5 (a * W) (fnOf pixE (pointsM s (a * W))))] 3) (fun a => a ≤ H) (fun a => H - a) 0 ?_ ?_ ?_
 ·exact Nat.zero_le _
 ·refine le_a [(1, some 1), (2, none)] ?_ ?_
  and_intros
  all_goals first | exact le_cl | skip
  all_goals exact .inl (congrArg (fun z => PV.val (Value.int IntKind.i64 z)) (by omega))
 intro a haH
 rcases Nat.lt_or_ge a H with ha | ha
 ·have g1 : decide (s.canvas.y0 + (a : Int) < s.canvas.y1) = true := decide_eq_true (by omega)
  repeat' (first | refine dec_a g1 ?_ | refine un_a ?_ | (refine st_a (fun K hK => ?_); and_intros; (all_goals first | (refine hK _ ?_; clear hK K) | exact auto_cl | skip)))
  refine cw_loop (X := Nat) (fun k => mkSt [(2, .b (.c (.ptr 0 0))), (3, .b (.c (.ptr 1 0))), (5, .b (.c (.own 2 (a * W + k)))), (6, .b (I (s.canvas.y0 + a))), (7, .b (I (s.canvas.x0 + k)))] [(0, .fix ((scriptE s).map CV.p)), (1, .fix ((rectE s.canvas).map CV.p)), (2, .arr 52 5 (a * W + k) (fnOf pixE (pointsM s (a * W + k))))] 3) (fun k => k ≤ W) (fun k => W - k) 0 ?_ ?_ ?_
  ·exact Nat.zero_le _
  ·refine le_a [(1, some 1), (2, some 2)] ?_ ?_
   and_intros
   all_goals first | exact le_cl | skip
   all_goals exact .inl (congrArg (fun z => PV.val (Value.int IntKind.i64 z)) (by omega))
  intro k hkW
  have hb1 := hle (a + 1) (by omega)
  rw [Nat.succ_mul] at hb1
  rcases Nat.lt_or_ge k W with hk | hk
  ·have g2 : decide (s.canvas.x0 + (k : Int) < s.canvas.x1) = true := decide_eq_true (by omega)
   have hv := hval a k ha hk
   generalize hq : ptM s (a * W + k) = q at *
   repeat' (first | refine dec_a g2 ?_ | refine un_a ?_ | ((first | refine st_a (fun K hK => ?_) | refine call_c (hv) ?_); and_intros; (all_goals first | (refine hK _ ?_; clear hK K) | exact auto_cl | skip)))
   rw [thenQ_normal]
   refine wk_loop (k + 1) ?_ (by omega) (by omega)
   have key := fun g hg => arr_push (enc := pixE) (xs := pointsM s (a * W + k)) (x := q) (s := 5) (g := g) hg
   simp only [points_len] at key
   have e : pointsM s (a * W + (k + 1)) = pointsM s (a * W + k) ++ [q] := by rw [← hq]; exact points_next
   refine le_a [(1, some 1), (2, some 4)] ?_ ?_
   and_intros
   all_goals first | exact le_cl | skip
   ·exact .inl (congrArg (fun z => PV.val (Value.int IntKind.i64 z)) (by omega))
   ·refine .inr fun i hi j hj => ?_
    rw [e]
    refine key _ (fun j hj => ?_) i hi j hj
    have : j = 0 ∨ j = 1 ∨ j = 2 ∨ j = 3 ∨ j = 4 := by omega
    rcases this with rfl | rfl | rfl | rfl | rfl <;> rfl
  ·have g2 : decide (s.canvas.x0 + (k : Int) < s.canvas.x1) = false := decide_eq_false (by omega)
   repeat' (first | refine dec_a g2 ?_ | refine un_a ?_ | (refine st_a (fun K hK => ?_); and_intros; (all_goals first | (refine hK _ ?_; clear hK K) | exact auto_cl | skip)))
   rw [thenQ_normal]
   refine wk_loop (a + 1) ?_ (by omega) (by omega)
   have hkW2 : k = W := by omega
   have e2 : a * W + k = (a + 1) * W := by rw [hkW2, Nat.succ_mul]
   rw [e2]
   refine le_a [(1, some 1), (2, some 2)] ?_ ?_
   and_intros
   all_goals first | exact le_cl | skip
   all_goals exact .inl (congrArg (fun z => PV.val (Value.int IntKind.i64 z)) (by omega))
 ·have g1 : decide (s.canvas.y0 + (a : Int) < s.canvas.y1) = false := decide_eq_false (by omega)
  have : a = H := by omega
  subst this
  repeat' (first | refine dec_a g1 ?_ | refine un_a ?_ | (refine st_a (fun K hK => ?_); and_intros; (all_goals first | (refine hK _ ?_; clear hK K) | exact auto_cl | skip)) | (refine ret_a ?_; (try clear hB KB); (try clear hK K)))
  rw [points_len]
def renderM (s : Script) : Image := imageOfM (s.canvas.x1 - s.canvas.x0) (s.canvas.y1 - s.canvas.y0) (pointsM s ((s.canvas.x1 - s.canvas.x0) * (s.canvas.y1 - s.canvas.y0)).toNat)
theorem render_sp (s : Script) (hs : ScriptLen s) (hc : Small s.canvas) (V : VOps s) (hm : Full (maxOf s.bits)) (hi : ImgsV s) (hP : ∀ x y, inR s.canvas x y → ∃ m, Pt s m x y) :
  Pure Sg 23 [ag (scriptE s)] (fun r => r = .tup [ag (imageE (renderM s)), I 0, I 0]) := by
 have ht : True := trivial
 have h1 := check_sp s V hs hm hi
 have h2 := points_sp s hs hc hP
 obtain ⟨x0, x1, y0, y1, hw, hh⟩ := hc
 have hl : ((s.canvas.x1 - s.canvas.x0) * (s.canvas.y1 - s.canvas.y0)).toNat ≤ 20 := by
  have := Int.mul_le_mul hw.2 hh.2 (by omega) (by decide : (0 : Int) ≤ 5)
  omega
 have hok : imageOk (s.canvas.x1 - s.canvas.x0) (s.canvas.y1 - s.canvas.y0) (pointsM s ((s.canvas.x1 - s.canvas.x0) * (s.canvas.y1 - s.canvas.y0)).toNat).length = true := by
  rw [points_len]
  exact gImage_ok hw hh rfl
 have h3 := imageOf_spec (s.canvas.x1 - s.canvas.x0) (s.canvas.y1 - s.canvas.y0) (pointsM s ((s.canvas.x1 - s.canvas.x0) * (s.canvas.y1 - s.canvas.y0)).toNat) (by rw [points_len]; omega)
 rw [hok] at h3
 unfold renderM
 generalize pointsM s ((s.canvas.x1 - s.canvas.x0) * (s.canvas.y1 - s.canvas.y0)).toNat = l at *
 generalize imageOfM (s.canvas.x1 - s.canvas.x0) (s.canvas.y1 - s.canvas.y0) l = img at *
 refine fn_a Tryz.func23 [.cell 2 71, .tmp 3, .tmp 4] ?_
 repeat' (first | refine dec_a ht ?_ | refine un_a ?_ | ((first | refine st_a (fun K hK => ?_) | refine call_c (h1) ?_); and_intros; (all_goals first | (refine hK _ ?_; clear hK K) | exact auto_cl | skip)))
 refine cw_stepR (id := 4) (.br 0 (.br 1 (.br 2 (.br 3 (.br 4 (.br 5 (.br 6 (.br 7 (.br 8 (.br 9 (.br 10 (.br 11 (.br 12 (.br 13 (.br 14 (.br 15 (.br 16 (.br 17 (.br 18 (.br 19 (.br 20 (.br 21 (.br 22 (.br 23 (.br 24 .leaf .nil) .nil) .nil) .nil) .nil) .nil) (.br 22 (.br 18 (.br 19 (.br 20 (.br 21 (.br 23 (.br 24 .leaf .nil) .nil) .nil) .nil) .nil) .nil) .nil)) (.br 22 (.br 17 (.br 18 (.br 19 (.br 20 (.br 21 (.br 23 (.br 24 .leaf .nil) .nil) .nil) .nil) .nil) .nil) .nil) .nil)) .nil) .nil) .nil) .nil) .nil) .nil) .nil) .nil) .nil) .nil) .nil) .nil) .nil) .nil) .nil) .nil) .nil) (by decide +kernel) (by (first | (refine And.intro (fun iw hiw => ?_) ?_; (focus ((try simp (maxSteps := 1000000) (disch := omega) only [go_sem] at hiw ⊢); (repeat (refine Eq.trans (if_neg ?_) ?_; (focus omega))); exact hw iw (by omega))); (focus (first | exact Nat.zero_le _ | (simp (maxSteps := 1000000) (disch := omega) only [go_sem]; done) | (simp (maxSteps := 1000000) (disch := omega) only [go_sem]; omega)))) | exact wf_a)) (fun K0 hW => ?_)
 refine (fun (tl : ∀ st, Le st (mkSt [(2, .b (.c (.ptr 1 0))), (3, .b (I 0)), (4, .b (I 0)), (7, .b (.c (.ptr 2 0))), (8, .b (B true))] [(1, .fix (List.replicate 28 (.p .any))), (2, .fix ((imageE img).map CV.p))] 3) → K0 st) => ?_) (fun st hl => hW st _ hl ?_)
 ·clear hW
  repeat' (first | exact tree_nil | (refine tree_br (fun K' hK' => ?_) ?_) | (refine tree_leaf (tl _ ?_); clear tl) | ((first | refine call_c (h2) ?_ | refine call_c (h3) ?_); (try simp (maxSteps := 1000000) (disch := omega) only [go_sem]); and_intros; (all_goals first | (refine hK' _ ?_; clear hK' K') | trivial | omega | exact Nat.le_of_ble_eq_true rfl | exact auto_cl | skip)) | (simp (maxSteps := 1000000) (disch := omega) only [go_sem]; and_intros; (all_goals first | (refine hK' _ ?_; clear hK' K') | trivial | omega | exact Nat.le_of_ble_eq_true rfl | exact auto_cl | skip)))
  all_goals
   refine le_a [(1, some 1), (2, some 2)] ?_ ?_
   and_intros
   all_goals first | exact le_cl | skip
 clear hW
 repeat' (first | (refine st_a (fun K hK => ?_); and_intros; (all_goals first | (refine hK _ ?_; clear hK K) | exact auto_cl | skip)) | (refine ret_a ?_; (try clear hB KB); (try clear hK K)))
 rfl
end Go.Proofs.YtlblgkelhibdoaaGreatDoor
