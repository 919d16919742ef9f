/-
  The law DamageImageIsEnough of compositorlaw31 answers true for every scene, every row of numbers, every four and every three integers that it is given, and leaves all of them as they were. It asks nothing else of its arguments; the package-level variables that its row lists hold what the row says.
-/
import Derived.Test.YtlblgkelhibdoaaGreatDoorCards
import Derived.Test.YtlblgkelhibdoaaGreatDoorTie
import Derived.Deep.DeepHandedRow
import Derived.Test.YtlblgkelhibdoaaGreatDoorM0
import Derived.Test.YtlblgkelhibdoaaGreatDoorM1
import Derived.Test.YtlblgkelhibdoaaGreatDoorM2
import Derived.Test.YtlblgkelhibdoaaGreatDoorM3
import Derived.Test.YtlblgkelhibdoaaGreatDoorM4
import Derived.Test.YtlblgkelhibdoaaGreatDoorM5
import Derived.Test.YtlblgkelhibdoaaGreatDoorM6
import Derived.Test.YtlblgkelhibdoaaGreatDoorM7
import Derived.Test.YtlblgkelhibdoaaGreatDoorM9
import Derived.Test.YtlblgkelhibdoaaGreatDoorM10
import Derived.Test.YtlblgkelhibdoaaGreatDoorM11
import Derived.Test.YtlblgkelhibdoaaGreatDoorM12
import Derived.Test.YtlblgkelhibdoaaGreatDoorM13
import Derived.Test.YtlblgkelhibdoaaGreatDoorM14
import Derived.Test.YtlblgkelhibdoaaGreatDoorM18
import Derived.Test.YtlblgkelhibdoaaGreatDoorM19
import Derived.Test.YtlblgkelhibdoaaGreatDoorM20
import Derived.Test.YtlblgkelhibdoaaGreatDoorM21
import Derived.Test.YtlblgkelhibdoaaGreatDoorM22
import Derived.Test.YtlblgkelhibdoaaGreatDoorM23
import Derived.Test.YtlblgkelhibdoaaGreatDoorM24
import Derived.Test.YtlblgkelhibdoaaGreatDoorM25
import Derived.Test.YtlblgkelhibdoaaGreatDoorM26
import Derived.Test.YtlblgkelhibdoaaGreatDoorM27
import Derived.Test.YtlblgkelhibdoaaGreatDoorM28
import Derived.Test.YtlblgkelhibdoaaGreatDoorM29
import Derived.Test.YtlblgkelhibdoaaGreatDoorM30
import Derived.Test.YtlblgkelhibdoaaGreatDoorM31
import Derived.Test.YtlblgkelhibdoaaGreatDoorM32
import Derived.Test.YtlblgkelhibdoaaGreatDoorM33
import Derived.Test.YtlblgkelhibdoaaGreatDoorM34
import Derived.Test.YtlblgkelhibdoaaGreatDoorM35
import Derived.Test.YtlblgkelhibdoaaGreatDoorM36
import Derived.Test.YtlblgkelhibdoaaGreatDoorM37
import Derived.Test.YtlblgkelhibdoaaGreatDoorM38
import Derived.Test.YtlblgkelhibdoaaGreatDoorM39
import Derived.Test.YtlblgkelhibdoaaGreatDoorM40
import Derived.Test.YtlblgkelhibdoaaGreatDoorM41
import Derived.Test.YtlblgkelhibdoaaGreatDoorM43
import Derived.Test.YtlblgkelhibdoaaGreatDoorXt0
set_option maxRecDepth 100000
namespace Go.Proofs.YtlblgkelhibdoaaGreatDoor.damageImageIsEnough
open Go.ChangeShapes Go.WideShapes Go.ChangeAt Go.RowKit Go.SL
theorem own : ownKnob Tryz.prog.godebug = none := by kernel_rfl
theorem contract (H : Type) (enc : TypeId × Value → H) (W : World) (base : Nat) (args : Array Value) (ds gs : List (DataW H)) (before : List MemPlace)
  (hval : ∀ (j : Nat) t v, Tryz.f3.params[j]? = some t → args[j]? = some v → Value.okWide Tryz.prog W .any base t v)
  (hW : DataW.Whole enc Tryz.prog Tryz.f3.params.toList Rows.damageImageIsEnoughSpec.vars false W args.toList ds gs before)
  (hsz : (DataW.weightsEach Tryz.prog Tryz.f3.params.toList ds).all (· ≤ reachBytes) = true) (hL : laidMetH Tryz.prog Rows.damageImageIsEnoughRow.laid W) :
  Calls Tryz.prog 3 args W fun e W' => ∃ v, e = .returned v ∧ Rows.damageImageIsEnoughSpec.post enc Tryz.prog Tryz.f3 false true false false W args v W' := by
 have hG : GlOk Sg (· < W.heap.size) W := glOk (laid := Rows.damageImageIsEnoughRow.laid) hL
 have hW0 := hW
 obtain ⟨p, q, hA, hV, rfl, _, _⟩ := hW0
 obtain ⟨rfl, rfl⟩ := trodVars_none hV
 have hA : DataW.TrodAll enc Sg.P W 0 (fun _ => true) true [26, 3, 27, 30, 3, 3] args.toList ds p := hA
 obtain ⟨v0, v1, v2, v3, v4, v5, d0, d1, d2, d3, d4, d5, p0, p1, p2, p3, p4, p5, rfl, rfl, rfl, h0, h1, h2, h3, h4, h5⟩ := trodAll_six hA
 obtain ⟨n0, w0, e0⟩ := arg_struct c_scene (by kernel_rfl) (hval 0 26 v0 rfl rfl) h0 (weightsEach_at hsz 0 rfl rfl)
 obtain ⟨n1, w1, e1⟩ := arg_int (k := .i64) (by kernel_rfl) (hval 1 3 v1 rfl rfl) h1
 obtain ⟨n2, w2, e2⟩ := arg_struct c_n4 (by kernel_rfl) (hval 2 27 v2 rfl rfl) h2 (weightsEach_at hsz 2 rfl rfl)
 obtain ⟨n3, w3, e3⟩ := arg_struct c_row (by kernel_rfl) (hval 3 30 v3 rfl rfl) h3 (weightsEach_at hsz 3 rfl rfl)
 obtain ⟨n4, w4, e4⟩ := arg_int (k := .i64) (by kernel_rfl) (hval 4 3 v4 rfl rfl) h4
 obtain ⟨n5, w5, e5⟩ := arg_int (k := .i64) (by kernel_rfl) (hval 5 3 v5 rfl rfl) h5
 exact law_calls (S := Sg) (image_law n0 w0 n1 n2 n3 w3 n4 n5) (by kernel_rfl) (by kernel_rfl) (tb := 4) (by kernel_rfl) (by kernel_rfl) rfl hW rfl hG rfl (den_cons e0 (den_cons e1 (den_cons e2 (den_cons e3 (den_cons e4 (den_cons e5 den_nil))))))
theorem laid_met (os : Os) : laidMet Tryz.prog Rows.damageImageIsEnoughRow.laid ((laidWorld os).forCall (fun _ _ => 0) ⟨#[], #[.agg #[.int .i64 0, .int .i64 0, .int .i64 0, .int .i64 0, .int .i64 0, .int .i64 0, .int .i64 0, .slice none 0 0, .slice none 0 0, .slice none 0 0], .int .i64 0, .agg #[.int .i64 0, .int .i64 0, .int .i64 0, .int .i64 0], .agg #[.int .i64 0, .slice none 0 0], .int .i64 0, .int .i64 0], []⟩).memory :=
 laidMet_of_run' 8 (by kernel_rfl) (by kernel_rfl)
theorem reads (os : Os) {H : Type} (enc : TypeId × Value → H) : ∃ places, DataW.whole enc Tryz.prog ((laidWorld os).forCall (fun _ _ => 0) ⟨#[], #[.agg #[.int .i64 0, .int .i64 0, .int .i64 0, .int .i64 0, .int .i64 0, .int .i64 0, .int .i64 0, .slice none 0 0, .slice none 0 0, .slice none 0 0], .int .i64 0, .agg #[.int .i64 0, .int .i64 0, .int .i64 0, .int .i64 0], .agg #[.int .i64 0, .slice none 0 0], .int .i64 0, .int .i64 0], []⟩).memory Tryz.f3.params.toList Rows.damageImageIsEnoughSpec.vars false (#[.agg #[.int .i64 0, .int .i64 0, .int .i64 0, .int .i64 0, .int .i64 0, .int .i64 0, .int .i64 0, .slice none 0 0, .slice none 0 0, .slice none 0 0], .int .i64 0, .agg #[.int .i64 0, .int .i64 0, .int .i64 0, .int .i64 0], .agg #[.int .i64 0, .slice none 0 0], .int .i64 0, .int .i64 0] : Array Value).toList 8 = some ([.agg [.lit (.int .i64 0), .lit (.int .i64 0), .lit (.int .i64 0), .lit (.int .i64 0), .lit (.int .i64 0), .lit (.int .i64 0), .lit (.int .i64 0), .nil, .nil, .nil], .lit (.int .i64 0), .agg [.lit (.int .i64 0), .lit (.int .i64 0), .lit (.int .i64 0), .lit (.int .i64 0)], .agg [.lit (.int .i64 0), .nil], .lit (.int .i64 0), .lit (.int .i64 0)], [], places) :=
 ⟨[], by kernel_rfl⟩
theorem lifted (os : Os) (started : os.Started) (H : Type) (enc : TypeId × Value → H) (F : Stop.Interp) :
  ReturnsInHanded {} Tryz.checked os 3 .any ((OpenSpec.ofChange Rows.damageImageIsEnoughSpec).preRow enc Tryz.prog Tryz.f3 Rows.damageImageIsEnoughRow.domain false Rows.damageImageIsEnoughRow.laid) (((OpenSpec.ofChange Rows.damageImageIsEnoughSpec).at F).post enc Tryz.prog Tryz.f3 false true false false) := by
 obtain ⟨places, hx⟩ := reads os enc
 refine returnsInHanded_of_row (C := Tryz.checked) (s := OpenSpec.ofChange Rows.damageImageIsEnoughSpec) own started (by kernel_rfl) Tryz.func3
  (witness_row_at (enc := enc) (C := Tryz.checked) false (laidWorld os) #[.agg #[.int .i64 0, .int .i64 0, .int .i64 0, .int .i64 0, .int .i64 0, .int .i64 0, .int .i64 0, .slice none 0 0, .slice none 0 0, .slice none 0 0], .int .i64 0, .agg #[.int .i64 0, .int .i64 0, .int .i64 0, .int .i64 0], .agg #[.int .i64 0, .slice none 0 0], .int .i64 0, .int .i64 0] rfl (by kernel_rfl) (by kernel_rfl) (by kernel_rfl)
   (OpenSpec.preRow_of_cond 8 hx (by kernel_rfl) (fun k hk => by cases hk) (by kernel_rfl) (laid_met os))) ?_
 intro W base args ds gs before hval hW _ _ hsz hL _ _
 have hgs : gs = [] := by
  obtain ⟨_, _, _, hV, _⟩ := hW
  exact (trodVars_none hV).1
 subst hgs
 have hsz1 : (DataW.weightsEach Tryz.prog (Tryz.f3.params.toList ++ []) (ds ++ [])).all (· ≤ reachBytes) = true := hsz
 rw [List.append_nil, List.append_nil] at hsz1
 exact contract H enc W base args ds [] before hval hW hsz1 hL
theorem and_tt {a b : Bool} (ha : a = true) (hb : b = true) : (a && b) = true := by rw [ha, hb]; rfl
set_option maxHeartbeats 4000000 in
theorem closed : joinedFacts Tryz.pinned.checked.prog 3 Tryz.f3 (OpenSpec.ofChange Rows.damageImageIsEnoughSpec).bare Rows.damageImageIsEnoughRow = true := by
 unfold joinedFacts
 repeat' (with_reducible refine and_tt ?_ ?_)
 all_goals as_aux_lemma => kernel_rfl
theorem said : Rows.DamageImageIsEnoughSaid :=
 OpenClaim.holds_of_cond 3 Tryz.f3 rfl rfl rfl rfl rfl rfl rfl ⟨rfl, rfl, rfl, rfl, rfl⟩ rfl rfl rfl rfl rfl (by as_aux_lemma => kernel_rfl) Tryz.func3 closed
  (of_decide_eq_true (by kernel_rfl)) (by unfold Func.isWrapper; first | (rw [if_pos (by decide +kernel)]; kernel_rfl) | (rw [if_neg (by decide +kernel)]; exact ⟨rfl, rfl⟩))
  (fun os started H enc _ F => by rw [OpenClaim.pre_eq_preRow]; exact lifted os started H enc F)
theorem plain (f : FuncId) (fn : Func) (hf : Tryz.pinned.checked.prog.funcNamed Rows.damageImageIsEnoughRow.func = some f) (hfn : Tryz.pinned.checked.prog.funcs[f]? = some fn) :
  false = Tryz.pinned.checked.prog.looks [] ∧ ∀ (j : Nat) t, fn.params[j]? = some t → Tryz.pinned.checked.prog.wantsStandIn t = false := by
 obtain rfl : f = 3 := Option.some.inj ((show Tryz.prog.funcNamed Rows.damageImageIsEnoughRow.func = some 3 by kernel_rfl).symm.trans hf) |>.symm
 obtain rfl : fn = Tryz.f3 := (Option.some.inj (Tryz.func3.symm.trans hfn)).symm
 have all : (Tryz.f3.params.toList.all fun t => !Tryz.pinned.checked.prog.wantsStandIn t) = true := by kernel_rfl
 refine ⟨by kernel_rfl, fun j t ht => ?_⟩
 have := List.all_eq_true.1 all t (by rw [Array.mem_toList_iff]; exact Array.mem_of_getElem? ht)
 simpa using this
theorem card : Rows.DamageImageIsEnoughCardSaid :=
 Claim7.holds_tied_plain_at .later [] _ _ _ _ said (fun _ h => by cases h) (by kernel_rfl) (fun _ h => by cases h) damageImageIsEnough_row_tie rfl ⟨rfl, rfl⟩ (by kernel_rfl) rfl plain (by kernel_rfl)
end Go.Proofs.YtlblgkelhibdoaaGreatDoor.damageImageIsEnough
