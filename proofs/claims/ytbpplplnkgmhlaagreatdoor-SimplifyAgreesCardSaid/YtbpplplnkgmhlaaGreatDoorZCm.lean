/-
  The law SimplifyAgrees of compositorlaw27 answers true for every scene and every list of integers that it is given, and leaves both as they were. It asks nothing else of its arguments; the package-level variables that its row lists hold what the row says.
-/
import Derived.Test.YtbpplplnkgmhlaaGreatDoorCards
import Derived.Test.YtbpplplnkgmhlaaGreatDoorTie
import Derived.Deep.DeepHandedRow
import Derived.Test.YtbpplplnkgmhlaaGreatDoorM0
import Derived.Test.YtbpplplnkgmhlaaGreatDoorM1
import Derived.Test.YtbpplplnkgmhlaaGreatDoorM2
import Derived.Test.YtbpplplnkgmhlaaGreatDoorM3
import Derived.Test.YtbpplplnkgmhlaaGreatDoorM4
import Derived.Test.YtbpplplnkgmhlaaGreatDoorM5
import Derived.Test.YtbpplplnkgmhlaaGreatDoorM6
set_option maxRecDepth 100000
namespace Go.Proofs.YtbpplplnkgmhlaaGreatDoor.simplifyAgrees
open Go.ChangeShapes Go.WideShapes Go.ChangeAt Go.RowKit Go.SL

theorem own : ownKnob Tryz.prog.godebug = none := by kernel_rfl

/-- The function's contract, as the row asks it. -/
theorem contract (H : Type) (enc : TypeId × Value → H) (W : World) (base : Nat) (args : Array Value) (ds gs : List (DataW H)) (before : List MemPlace)
    (hval : ∀ (j : Nat) t v, Tryz.f9.params[j]? = some t → args[j]? = some v → Value.okWide Tryz.prog W .any base t v)
    (hW : DataW.Whole enc Tryz.prog Tryz.f9.params.toList Rows.simplifyAgreesSpec.vars false W args.toList ds gs before)
    (hsz : (DataW.weightsEach Tryz.prog Tryz.f9.params.toList ds).all (· ≤ reachBytes) = true) (hL : laidMetH Tryz.prog Rows.simplifyAgreesRow.laid W) :
    Calls Tryz.prog 9 args W fun e W' => ∃ v, e = .returned v ∧ Rows.simplifyAgreesSpec.post enc Tryz.prog Tryz.f9 false true false false W args v W' := by
  have hG : GlOk Sg (· < W.heap.size) W := glOk (laid := Rows.simplifyAgreesRow.laid) hL
  have hW0 := hW
  obtain ⟨p, q, hA, hV, rfl, _, _⟩ := hW0
  obtain ⟨rfl, rfl⟩ := trodVars_none hV
  have hA : DataW.TrodAll enc Sg.P W 0 (fun _ => true) true [26, 22] args.toList ds p := hA
  obtain ⟨v0, v1, d0, d1, p0, p1, rfl, rfl, rfl, h0, h1⟩ := trodAll_two hA
  obtain ⟨n0, w0, e0⟩ := arg_struct c_scene (by kernel_rfl) (hval 0 26 v0 rfl rfl) h0 (weightsEach_at hsz 0 rfl rfl)
  obtain ⟨n1, w1, e1⟩ := arg_slice (e := 3) c_ints (by kernel_rfl) (fun _ => rfl) (hval 1 22 v1 rfl rfl) h1 (weightsEach_at hsz 1 rfl rfl)
  exact law_calls (S := Sg) (agrees27_law n0 w0 n1 w1.1) (by kernel_rfl) (by kernel_rfl) (tb := 4) (by kernel_rfl) (by kernel_rfl) rfl hW rfl hG rfl (den_cons e0 (den_cons e1 den_nil))

theorem laid_met (os : Os) : laidMet Tryz.prog Rows.simplifyAgreesRow.laid ((laidWorld os).forCall (fun _ _ => 0) ⟨#[], #[.agg #[.int .i64 0, .int .i64 0, .int .i64 0, .int .i64 0, .int .i64 0, .int .i64 0, .int .i64 0, .slice none 0 0, .slice none 0 0, .slice none 0 0], .slice none 0 0], []⟩).memory :=
  laidMet_of_run' 8 (by kernel_rfl) (by kernel_rfl)
theorem reads (os : Os) {H : Type} (enc : TypeId × Value → H) : ∃ places, DataW.whole enc Tryz.prog ((laidWorld os).forCall (fun _ _ => 0) ⟨#[], #[.agg #[.int .i64 0, .int .i64 0, .int .i64 0, .int .i64 0, .int .i64 0, .int .i64 0, .int .i64 0, .slice none 0 0, .slice none 0 0, .slice none 0 0], .slice none 0 0], []⟩).memory Tryz.f9.params.toList Rows.simplifyAgreesSpec.vars false (#[.agg #[.int .i64 0, .int .i64 0, .int .i64 0, .int .i64 0, .int .i64 0, .int .i64 0, .int .i64 0, .slice none 0 0, .slice none 0 0, .slice none 0 0], .slice none 0 0] : Array Value).toList 8 = some ([.agg [.lit (.int .i64 0), .lit (.int .i64 0), .lit (.int .i64 0), .lit (.int .i64 0), .lit (.int .i64 0), .lit (.int .i64 0), .lit (.int .i64 0), .nil, .nil, .nil], .nil], [], places) :=
  ⟨[], by kernel_rfl⟩

theorem lifted (os : Os) (started : os.Started) (H : Type) (enc : TypeId × Value → H) (F : Stop.Interp) :
    ReturnsInHanded {} Tryz.checked os 9 .any ((OpenSpec.ofChange Rows.simplifyAgreesSpec).preRow enc Tryz.prog Tryz.f9 Rows.simplifyAgreesRow.domain false Rows.simplifyAgreesRow.laid) (((OpenSpec.ofChange Rows.simplifyAgreesSpec).at F).post enc Tryz.prog Tryz.f9 false true false false) := by
  obtain ⟨places, hx⟩ := reads os enc
  refine returnsInHanded_of_row (C := Tryz.checked) (s := OpenSpec.ofChange Rows.simplifyAgreesSpec) own started (by kernel_rfl) Tryz.func9
    (witness_row_at (enc := enc) (C := Tryz.checked) false (laidWorld os) #[.agg #[.int .i64 0, .int .i64 0, .int .i64 0, .int .i64 0, .int .i64 0, .int .i64 0, .int .i64 0, .slice none 0 0, .slice none 0 0, .slice none 0 0], .slice none 0 0] rfl (by kernel_rfl) (by kernel_rfl) (by kernel_rfl)
      (OpenSpec.preRow_of_cond 8 hx (by kernel_rfl) (fun k hk => by cases hk) (by kernel_rfl) (laid_met os))) ?_
  intro W base args ds gs before hval hW _ _ hsz hL _ _
  have hgs : gs = [] := by
    obtain ⟨_, _, _, hV, _⟩ := hW
    exact (trodVars_none hV).1
  subst hgs
  have hsz1 : (DataW.weightsEach Tryz.prog (Tryz.f9.params.toList ++ []) (ds ++ [])).all (· ≤ reachBytes) = true := hsz
  rw [List.append_nil, List.append_nil] at hsz1
  exact contract H enc W base args ds [] before hval hW hsz1 hL

theorem and_tt {a b : Bool} (ha : a = true) (hb : b = true) : (a && b) = true := by rw [ha, hb]; rfl
set_option maxHeartbeats 4000000 in
/-- The row's closed facts, one by one. -/
theorem closed : joinedFacts Tryz.pinned.checked.prog 9 Tryz.f9 (OpenSpec.ofChange Rows.simplifyAgreesSpec).bare Rows.simplifyAgreesRow = true := by
  unfold joinedFacts
  repeat' (with_reducible refine and_tt ?_ ?_)
  all_goals as_aux_lemma => kernel_rfl
theorem said : Rows.SimplifyAgreesSaid :=
  OpenClaim.holds_of_cond 9 Tryz.f9 rfl rfl rfl rfl rfl rfl rfl ⟨rfl, rfl, rfl, rfl, rfl⟩ rfl rfl rfl rfl rfl (by as_aux_lemma => kernel_rfl) Tryz.func9 closed
    (of_decide_eq_true (by kernel_rfl)) (by unfold Func.isWrapper; first | (rw [if_pos (by decide +kernel)]; kernel_rfl) | (rw [if_neg (by decide +kernel)]; exact ⟨rfl, rfl⟩))
    (fun os started H enc _ F => by rw [OpenClaim.pre_eq_preRow]; exact lifted os started H enc F)

theorem plain (f : FuncId) (fn : Func) (hf : Tryz.pinned.checked.prog.funcNamed Rows.simplifyAgreesRow.func = some f) (hfn : Tryz.pinned.checked.prog.funcs[f]? = some fn) :
    false = Tryz.pinned.checked.prog.looks [] ∧ ∀ (j : Nat) t, fn.params[j]? = some t → Tryz.pinned.checked.prog.wantsStandIn t = false := by
  obtain rfl : f = 9 := Option.some.inj ((show Tryz.prog.funcNamed Rows.simplifyAgreesRow.func = some 9 by kernel_rfl).symm.trans hf) |>.symm
  obtain rfl : fn = Tryz.f9 := (Option.some.inj (Tryz.func9.symm.trans hfn)).symm
  have all : (Tryz.f9.params.toList.all fun t => !Tryz.pinned.checked.prog.wantsStandIn t) = true := by kernel_rfl
  refine ⟨by kernel_rfl, fun j t ht => ?_⟩
  have := List.all_eq_true.1 all t (by rw [Array.mem_toList_iff]; exact Array.mem_of_getElem? ht)
  simpa using this

/-- The law's card. -/
theorem card : Rows.SimplifyAgreesCardSaid :=
  Claim7.holds_tied_plain_at .later [] _ _ _ _ said (fun _ h => by cases h) (by kernel_rfl) (fun _ h => by cases h) simplifyAgrees_row_tie rfl ⟨rfl, rfl⟩ (by kernel_rfl) rfl plain (by kernel_rfl)
end Go.Proofs.YtbpplplnkgmhlaaGreatDoor.simplifyAgrees
