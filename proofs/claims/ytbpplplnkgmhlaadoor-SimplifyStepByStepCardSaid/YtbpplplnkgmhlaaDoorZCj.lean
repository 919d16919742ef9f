/-
  The law SimplifyStepByStep of compositorlaw27 answers true for every scene and every list of integers that it is given, and leaves both as they were. It asks nothing else of its arguments; the package-level variables that its row lists hold what the row says.
-/
import Derived.Test.YtbpplplnkgmhlaaDoorCards
import Derived.Test.YtbpplplnkgmhlaaDoorTie
import Derived.Deep.DeepHandedRow
import Derived.Test.YtbpplplnkgmhlaaDoorM0
import Derived.Test.YtbpplplnkgmhlaaDoorM1
import Derived.Test.YtbpplplnkgmhlaaDoorM2
import Derived.Test.YtbpplplnkgmhlaaDoorM3
import Derived.Test.YtbpplplnkgmhlaaDoorM4
import Derived.Test.YtbpplplnkgmhlaaDoorM5
set_option maxRecDepth 100000
namespace Go.Proofs.YtbpplplnkgmhlaaDoor.simplifyStepByStep
open Go.ChangeShapes Go.WideShapes Go.ChangeAt Go.RowKit Go.SL

theorem own : ownKnob Tryd.prog.godebug = none := by kernel_rfl

/-- The function's contract, as the row asks it. -/
theorem contract (H : Type) (enc : TypeId × Value → H) (W : World) (base : Nat) (args : Array Value) (ds gs : List (DataW H)) (before : List MemPlace)
    (hval : ∀ (j : Nat) t v, Tryd.f3.params[j]? = some t → args[j]? = some v → Value.okWide Tryd.prog W .any base t v)
    (hW : DataW.Whole enc Tryd.prog Tryd.f3.params.toList Rows.simplifyStepByStepSpec.vars false W args.toList ds gs before)
    (hsz : (DataW.weightsEach Tryd.prog Tryd.f3.params.toList ds).all (· ≤ reachBytes) = true) (hL : laidMetH Tryd.prog Rows.simplifyStepByStepRow.laid W) :
    Calls Tryd.prog 3 args W fun e W' => ∃ v, e = .returned v ∧ Rows.simplifyStepByStepSpec.post enc Tryd.prog Tryd.f3 false true false false W args v W' := by
  have hG : GlOk Sg (· < W.heap.size) W := glOk (laid := Rows.simplifyStepByStepRow.laid) hL
  have hW0 := hW
  obtain ⟨p, q, hA, hV, rfl, _, _⟩ := hW0
  obtain ⟨rfl, rfl⟩ := trodVars_none hV
  have hA : DataW.TrodAll enc Sg.P W 0 (fun _ => true) true [26, 22] args.toList ds p := hA
  obtain ⟨v0, v1, d0, d1, p0, p1, rfl, rfl, rfl, h0, h1⟩ := trodAll_two hA
  obtain ⟨n0, w0, e0⟩ := arg_struct c_scene (by kernel_rfl) (hval 0 26 v0 rfl rfl) h0 (weightsEach_at hsz 0 rfl rfl)
  obtain ⟨n1, w1, e1⟩ := arg_slice (e := 3) c_ints (by kernel_rfl) (fun _ => rfl) (hval 1 22 v1 rfl rfl) h1 (weightsEach_at hsz 1 rfl rfl)
  exact law_calls (S := Sg) (steps_law n0 w0 n1 w1.1) (by kernel_rfl) (by kernel_rfl) (tb := 4) (by kernel_rfl) (by kernel_rfl) rfl hW rfl hG rfl (den_cons e0 (den_cons e1 den_nil))

theorem laid_met (os : Os) : laidMet Tryd.prog Rows.simplifyStepByStepRow.laid ((laidWorld os).forCall (fun _ _ => 0) ⟨#[], #[.agg #[.int .i64 0, .int .i64 0, .int .i64 0, .int .i64 0, .int .i64 0, .int .i64 0, .int .i64 0, .slice none 0 0, .slice none 0 0, .slice none 0 0], .slice none 0 0], []⟩).memory :=
  laidMet_of_run' 8 (by kernel_rfl) (by kernel_rfl)
theorem reads (os : Os) {H : Type} (enc : TypeId × Value → H) : ∃ places, DataW.whole enc Tryd.prog ((laidWorld os).forCall (fun _ _ => 0) ⟨#[], #[.agg #[.int .i64 0, .int .i64 0, .int .i64 0, .int .i64 0, .int .i64 0, .int .i64 0, .int .i64 0, .slice none 0 0, .slice none 0 0, .slice none 0 0], .slice none 0 0], []⟩).memory Tryd.f3.params.toList Rows.simplifyStepByStepSpec.vars false (#[.agg #[.int .i64 0, .int .i64 0, .int .i64 0, .int .i64 0, .int .i64 0, .int .i64 0, .int .i64 0, .slice none 0 0, .slice none 0 0, .slice none 0 0], .slice none 0 0] : Array Value).toList 8 = some ([.agg [.lit (.int .i64 0), .lit (.int .i64 0), .lit (.int .i64 0), .lit (.int .i64 0), .lit (.int .i64 0), .lit (.int .i64 0), .lit (.int .i64 0), .nil, .nil, .nil], .nil], [], places) :=
  ⟨[], by kernel_rfl⟩

theorem lifted (os : Os) (started : os.Started) (H : Type) (enc : TypeId × Value → H) (F : Stop.Interp) :
    ReturnsInHanded {} Tryd.checked os 3 .any ((OpenSpec.ofChange Rows.simplifyStepByStepSpec).preRow enc Tryd.prog Tryd.f3 Rows.simplifyStepByStepRow.domain false Rows.simplifyStepByStepRow.laid) (((OpenSpec.ofChange Rows.simplifyStepByStepSpec).at F).post enc Tryd.prog Tryd.f3 false true false false) := by
  obtain ⟨places, hx⟩ := reads os enc
  refine returnsInHanded_of_row (C := Tryd.checked) (s := OpenSpec.ofChange Rows.simplifyStepByStepSpec) own started (by kernel_rfl) Tryd.func3
    (witness_row_at (enc := enc) (C := Tryd.checked) false (laidWorld os) #[.agg #[.int .i64 0, .int .i64 0, .int .i64 0, .int .i64 0, .int .i64 0, .int .i64 0, .int .i64 0, .slice none 0 0, .slice none 0 0, .slice none 0 0], .slice none 0 0] rfl (by kernel_rfl) (by kernel_rfl) (by kernel_rfl)
      (OpenSpec.preRow_of_cond 8 hx (by kernel_rfl) (fun k hk => by cases hk) (by kernel_rfl) (laid_met os))) ?_
  intro W base args ds gs before hval hW _ _ hsz hL _ _
  have hgs : gs = [] := by
    obtain ⟨_, _, _, hV, _⟩ := hW
    exact (trodVars_none hV).1
  subst hgs
  have hsz1 : (DataW.weightsEach Tryd.prog (Tryd.f3.params.toList ++ []) (ds ++ [])).all (· ≤ reachBytes) = true := hsz
  rw [List.append_nil, List.append_nil] at hsz1
  exact contract H enc W base args ds [] before hval hW hsz1 hL

theorem and_tt {a b : Bool} (ha : a = true) (hb : b = true) : (a && b) = true := by rw [ha, hb]; rfl
set_option maxHeartbeats 4000000 in
/-- The row's closed facts, one by one. -/
theorem closed : joinedFacts Tryd.pinned.checked.prog 3 Tryd.f3 (OpenSpec.ofChange Rows.simplifyStepByStepSpec).bare Rows.simplifyStepByStepRow = true := by
  unfold joinedFacts
  repeat' (with_reducible refine and_tt ?_ ?_)
  all_goals as_aux_lemma => kernel_rfl
theorem said : Rows.SimplifyStepByStepSaid :=
  OpenClaim.holds_of_cond 3 Tryd.f3 rfl rfl rfl rfl rfl rfl rfl ⟨rfl, rfl, rfl, rfl, rfl⟩ rfl rfl rfl rfl rfl (by as_aux_lemma => kernel_rfl) Tryd.func3 closed
    (of_decide_eq_true (by kernel_rfl)) (by unfold Func.isWrapper; first | (rw [if_pos (by decide +kernel)]; kernel_rfl) | (rw [if_neg (by decide +kernel)]; exact ⟨rfl, rfl⟩))
    (fun os started H enc _ F => by rw [OpenClaim.pre_eq_preRow]; exact lifted os started H enc F)

theorem plain (f : FuncId) (fn : Func) (hf : Tryd.pinned.checked.prog.funcNamed Rows.simplifyStepByStepRow.func = some f) (hfn : Tryd.pinned.checked.prog.funcs[f]? = some fn) :
    false = Tryd.pinned.checked.prog.looks [] ∧ ∀ (j : Nat) t, fn.params[j]? = some t → Tryd.pinned.checked.prog.wantsStandIn t = false := by
  obtain rfl : f = 3 := Option.some.inj ((show Tryd.prog.funcNamed Rows.simplifyStepByStepRow.func = some 3 by kernel_rfl).symm.trans hf) |>.symm
  obtain rfl : fn = Tryd.f3 := (Option.some.inj (Tryd.func3.symm.trans hfn)).symm
  have all : (Tryd.f3.params.toList.all fun t => !Tryd.pinned.checked.prog.wantsStandIn t) = true := by kernel_rfl
  refine ⟨by kernel_rfl, fun j t ht => ?_⟩
  have := List.all_eq_true.1 all t (by rw [Array.mem_toList_iff]; exact Array.mem_of_getElem? ht)
  simpa using this

/-- The law's card. -/
theorem card : Rows.SimplifyStepByStepCardSaid :=
  Claim7.holds_tied_plain_at .later [] _ _ _ _ said (fun _ h => by cases h) (by kernel_rfl) (fun _ h => by cases h) simplifyStepByStep_row_tie rfl ⟨rfl, rfl⟩ (by kernel_rfl) rfl plain (by kernel_rfl)
end Go.Proofs.YtbpplplnkgmhlaaDoor.simplifyStepByStep
