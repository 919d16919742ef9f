/- Part of the proof: F15. -/
import Derived.Test.YtlblgkelhibdoaaGreatDoorM8
set_option linter.unusedSimpArgs false
set_option linter.unusedVariables false
set_option maxHeartbeats 2000000
set_option maxRecDepth 16000
namespace Go.Proofs.YtlblgkelhibdoaaGreatDoor
open Go Go.SL
open Go.RowKit (wrap64)
theorem frame1 {s : Script} (h : ¬(s.bits = 8 ∨ s.bits = 16)) : frameM s = 1 := by rw [frameM, if_pos h]
theorem r18frame_spec (s : Script) (hs : ScriptLen s) : Pure Sg 113 [ag (scriptE s)] (fun x => x = .b (I (frameM s))) := by
 obtain ⟨h1, h2, h3⟩ := hs
 refine fn_a Tryz.func113 [.tmp 2] ?_
 repeat' (first | refine un_a ?_ | ((first | refine st_a (fun K hK => ?_) | refine call_c (r01max_spec _) ?_ | refine call_c (r13empty_spec _) ?_ | refine gcall_c (fun hg => r13area_spec _) ?_ | refine call_c (tiles_spec _ _ _) ?_ | refine call_c (r13order_spec _ _ (by omega)) ?_ | refine gcall_c (fun hg => far_spec _) ?_); and_intros; (all_goals first | (refine hK _ ?_; clear hK K) | exact auto_cl | skip)) | (refine if_a (fun hb => ?_) (fun hb => ?_); all_goals try exact bad_a) | (refine ret_a ?_; (try clear hB KB); (try clear hK K)))
 ·rw [frame1 hb]
 ·rw [frame2 ‹_› ?_]
  simp only [withinM, List.all_cons, List.all_nil, Bool.and_true, Bool.and_eq_false_imp, decide_eq_true_eq, decide_eq_false_iff_not]
  rcases hb with (h | h) | h
  ·exact .inl h
  ·exact .inr (by omega)
  ·exact .inr (by omega)
 all_goals
  have hw : withinM 1048576 [s.canvas.x0, s.canvas.y0] = true := by
   simp only [withinM, List.all_cons, List.all_nil, Bool.and_true, Bool.and_eq_true, decide_eq_true_eq]
   omega
 ·rename_i q1 q
  rw [frame3 ⟨q1, q.1.1, hw⟩ hb]
 ·rename_i q1 q q2
  rw [frame4 ⟨q1, q.1.1, hw⟩ q2 hb]
 ·rename_i q1 q q2 q3
  rw [frame5 ⟨q1, q.1.1, hw⟩ q2 q3, if_pos (by omega)]
 ·rename_i q1 q q2 q3
  rw [frame5 ⟨q1, q.1.1, hw⟩ q2 q3, if_neg (by omega)]
end Go.Proofs.YtlblgkelhibdoaaGreatDoor
