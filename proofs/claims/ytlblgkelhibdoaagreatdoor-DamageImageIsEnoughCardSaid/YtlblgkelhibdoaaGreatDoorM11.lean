/- Part of the proof: F16. -/
import Derived.Test.YtlblgkelhibdoaaGreatDoorM7
set_option linter.unusedSimpArgs false
set_option linter.unusedVariables false
set_option maxHeartbeats 4000000
set_option maxRecDepth 16000
namespace Go.Proofs.YtlblgkelhibdoaaGreatDoor
open Go Go.SL
open Go.RowKit (wrap64)
def maxOf (b : Int) : Int := if b = 8 then 255 else if b = 16 then 65535 else 0
def ctxOk (l : List Op) : Bool := l.isEmpty || ((l.getD (l.length - 1) default).isolated && !(l.getD (l.length - 1) default).knockout)
def opErr (b : Int) (n : Nat) (o : Op) (l : List Op) : Int :=
 if ¬ (1 ≤ o.kind ∧ o.kind ≤ 3) then 9
 else if fieldsM o = false then 10
 else if o.kind = 3 ∧ l.length = 0 then 18
 else if o.kind = 3 then 0
 else if o.kind = 1 ∧ (o.image < 0 ∨ n ≤ o.image) ∨ o.mask < 0 ∨ n < o.mask then 11
 else if withinM 1048576 [o.x, o.y, o.maskX, o.maskY] = false then 12
 else if maxOf b < o.opacity then 13
 else if isOp o.operator = false then 14
 else if isOp o.mode = false then 15
 else if o.operator ≠ 4 ∧ ctxOk l = false then 16
 else if o.kind = 2 ∧ 64 ≤ l.length then 17 else 0
def opErrAt (s : Script) (i : Int) (l : List Op) : Int := if i < 0 ∨ s.ops.length ≤ i then 21 else opErr s.bits s.images.length (s.ops.getD i.toNat default) l
theorem opNm_empty {o : Int} : (opNm o).toList = (ByteArray.mk #[]).toList ↔ isOp o = false := by
 obtain ⟨_, _, _, _, h⟩ := opNm_spec o
 rw [← beq_iff_eq, h, isOp, Bool.not_eq_true', decide_eq_false_iff_not]
theorem blNm_empty' {o : Int} : (blNm o).toList = (ByteArray.mk #[]).toList ↔ isOp o = false := by
 rw [← beq_iff_eq, blNm_empty]; simp
theorem context_spec' (l : List Op) (hl : l.length ≤ 4611686018427387904) : Pure Sg 128 [.c (.p (opL l))] (fun x => x = .b (B (ctxOk l))) := context_spec l hl
theorem vop_spec (s : Script) (i : Int) (l : List Op) (hs : ScriptLen s) (hl : l.length ≤ 4611686018427387904) : Pure Sg 72 [ag (scriptE s), I i, .c (.p (opL l))] (fun x => x = .b (I (opErrAt s i l))) := by
 obtain ⟨h1, h2, h3⟩ := hs
 refine fn_a Tryz.func72 [.tmp 6] ?_
 repeat' (first | refine un_a ?_ | ((first | refine st_a (fun K hK => ?_) | refine call_c (sampleMax_spec _) ?_ | refine call_c (fields_spec _) ?_); and_intros; (all_goals first | (refine hK _ ?_; clear hK K) | exact auto_cl | skip)) | ((first | apply cw_ite | apply cw_iteN); (case hf => rfl); (case hc => exact ev_a); (all_goals first | (intro hb; (try simp only [hbs] at hb)) | skip)) | exact atN_intro | (refine if_a (fun hb => ?_) (fun hb => ?_); all_goals try exact bad_a) | (refine ret_a ?_; (try clear hB KB); (try clear hK K)))
 iterate 6
  ·refine int_eq ?_
   simp only [opErrAt, opErr]
   generalize s.ops.getD i.toNat default = o at *
   repeat (first | (with_reducible rfl) | (refine Eq.symm (Eq.trans (if_pos ?_) (Eq.symm ?_)); focus (first | (assumption; done) | omega | (simp [*]; done))) | (refine Eq.symm (Eq.trans (if_neg ?_) (Eq.symm ?_)); focus (first | (assumption; done) | omega | (simp [*]; done))) | (refine Eq.symm (Eq.trans (if_neg ?_) (Eq.symm ?_)); focus (grind; done)) | (refine Eq.symm (Eq.trans (if_pos ?_) (Eq.symm ?_)); focus (grind; done)))
 have ho : opErrAt s i l = opErr s.bits s.images.length (s.ops.getD i.toNat default) l := by rw [opErrAt, if_neg (by omega)]
 generalize s.ops.getD i.toNat default = o at *
 refine call_lends ?_ ?_ (by simp (maxSteps := 1000000) (disch := omega) only [go_sem]) ?_ (near_spec [o.x, o.y, o.maskX, o.maskY] (by simp))
 try simp (maxSteps := 1000000) (disch := omega) only [go_sem]
 try (refine hK _ ?_; clear hK K)
 ·repeat' (first | refine un_a ?_ | ((first | refine st_a (fun K hK => ?_) | refine call_c (opName_spec _) ?_ | refine call_c (blendName_spec _) ?_ | refine gcall_c (fun hg => context_spec' _ (by omega)) ?_); and_intros; (all_goals first | (refine hK _ ?_; clear hK K) | exact auto_cl | skip)) | (refine if_a (fun hb => ?_) (fun hb => ?_); all_goals try exact bad_a) | (refine ret_a ?_; (try clear hB KB); (try clear hK K)))
  all_goals
   refine int_eq ?_
   have hmx : maxOf s.bits = if s.bits = 8 then 255 else if s.bits = 16 then 65535 else 0 := rfl
   rw [ho]
   simp only [opErr]
   try simp only [opNm_empty, blNm_empty', Bool.not_eq_false] at *
   repeat (first | (with_reducible rfl) | (refine Eq.symm (Eq.trans (if_pos ?_) (Eq.symm ?_)); focus (first | (assumption; done) | omega | (simp [*]; done))) | (refine Eq.symm (Eq.trans (if_neg ?_) (Eq.symm ?_)); focus (first | (assumption; done) | omega | (simp [*]; done))) | (refine Eq.symm (Eq.trans (if_neg ?_) (Eq.symm ?_)); focus (grind; done)) | (refine Eq.symm (Eq.trans (if_pos ?_) (Eq.symm ?_)); focus (grind; done)))
 ·simp (maxSteps := 1000000) (disch := omega) only [go_sem, argsLe_cons, argsLe_nil]
  refine bvle_p (lst_le fun i hi j hj => ?_)
  have h1 : i = 0 ∨ i = 1 ∨ i = 2 ∨ i = 3 := by omega
  have h2 : j = 0 := by omega
  subst h2
  rcases h1 with rfl | rfl | rfl | rfl <;> rfl
 ·trivial
end Go.Proofs.YtlblgkelhibdoaaGreatDoor
