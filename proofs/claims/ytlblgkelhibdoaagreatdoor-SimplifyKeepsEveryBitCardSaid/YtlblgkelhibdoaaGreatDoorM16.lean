/- Part of the proof: F16. -/
import Derived.Test.YtlblgkelhibdoaaGreatDoorM11
import Derived.Test.YtlblgkelhibdoaaGreatDoorM15
set_option linter.unusedSimpArgs false
set_option linter.unusedVariables false
set_option maxHeartbeats 4000000
set_option maxRecDepth 16000
namespace Go.Proofs.YtlblgkelhibdoaaGreatDoor
open Go Go.SL
open Go.RowKit (wrap64)
theorem ctxOk_false {l : List Op} : ctxOk l = false ↔ 0 < l.length ∧ ((l.getD (l.length - 1) default).knockout = true ∨ (l.getD (l.length - 1) default).isolated = false) := by
 cases l with
 | nil => simp [ctxOk]
 | cons a r =>
  simp only [ctxOk, List.isEmpty_cons, Bool.false_or, Bool.and_eq_false_imp, Bool.not_eq_false', List.length_cons, Nat.zero_lt_succ, true_and]
  generalize ((a :: r).getD (r.length + 1 - 1) default).isolated = x
  generalize ((a :: r).getD (r.length + 1 - 1) default).knockout = y
  cases x <;> cases y <;> decide
theorem withinM4 {k a b c d : Int} : withinM k [a, b, c, d] = false ↔ ¬ (-k ≤ a ∧ a ≤ k ∧ -k ≤ b ∧ b ≤ k ∧ -k ≤ c ∧ c ≤ k ∧ -k ≤ d ∧ d ≤ k) := by
 rw [← Bool.not_eq_true]
 simp only [withinM, List.all_cons, List.all_nil, Bool.and_true, Bool.and_eq_true, decide_eq_true_eq]
 omega
theorem checkOp_spec (s : Script) (i : Int) (l : List Op) (hs : ScriptLen s) (hl : l.length ≤ 4611686018427387904) : Pure Sg 153 [ag (scriptE s), I i, .c (.p (opL l))] (fun x => x = .b (I (opErrAt s i l))) := by
 obtain ⟨h1, h2, h3⟩ := hs
 refine fn_a Tryz.func153 [.tmp 6] ?_
 repeat' (first | refine un_a ?_ | ((first | refine st_a (fun K hK => ?_) | refine call_c (r01max_spec _) ?_ | refine call_c (spare_spec _ (by omega) (by omega)) ?_ | refine call_c (isOp_spec _) ?_ | refine call_c (isMode_spec _) ?_ | refine call_c (far_spec _) ?_ | refine gcall_c (fun hg => far_spec _) ?_); and_intros; (all_goals first | (refine hK _ ?_; clear hK K) | exact auto_cl | skip)) | (refine if_a (fun hb => ?_) (fun hb => ?_); all_goals try exact bad_a) | (refine ret_a ?_; (try clear hB KB); (try clear hK K)))
 all_goals
  refine int_eq ?_
  have hmx : maxOf s.bits = if s.bits = 8 then 255 else if s.bits = 16 then 65535 else 0 := rfl
  have e : ((l.length : Int) - 1).toNat = l.length - 1 := by omega
  simp only [opErrAt, opErr, withinM4, ctxOk_false]
  try simp only [e] at *
  generalize s.ops.getD i.toNat default = o at *
  repeat (first | (with_reducible rfl) | (refine Eq.symm (Eq.trans (if_pos ?_) (Eq.symm ?_)); focus (first | (assumption; done) | omega | (simp [*]; done))) | (refine Eq.symm (Eq.trans (if_neg ?_) (Eq.symm ?_)); focus (first | (assumption; done) | omega | (simp [*]; done))) | (refine Eq.symm (Eq.trans (if_neg ?_) (Eq.symm ?_)); focus (grind; done)) | (refine Eq.symm (Eq.trans (if_pos ?_) (Eq.symm ?_)); focus (grind; done)))
end Go.Proofs.YtlblgkelhibdoaaGreatDoor
