/- Part of the proof: F17. -/
import Derived.Test.YtlblgkelhibdoaaGreatDoorM14
import Derived.Test.YtlblgkelhibdoaaGreatDoorM16
set_option linter.unusedSimpArgs false
set_option linter.unusedVariables false
set_option maxHeartbeats 4000000
set_option maxRecDepth 16000
namespace Go.Proofs.YtlblgkelhibdoaaGreatDoor
open Go Go.SL
open Go.RowKit (wrap64)
theorem checkOps_spec (s : Script) (hs : ScriptLen s) : Pure Sg 115 [ag (scriptE s)] (fun x => x = .tup [I (opsM s).1, I (opsM s).2]) := by
 have hf := r18frame_spec s hs
 obtain ⟨h1, h2, h3⟩ := id hs
 refine fn_a Tryz.func115 [.tmp 2, .tmp 3] ?_
 repeat' (first | refine un_a ?_ | ((first | refine st_a (fun K hK => ?_) | refine call_c (hf) ?_); and_intros; (all_goals first | (refine hK _ ?_; clear hK K) | exact auto_cl | skip)) | (refine if_a (fun hb => ?_) (fun hb => ?_); all_goals try exact bad_a) | (refine ret_a ?_; (try clear hB KB); (try clear hK K)))
 ·rw [opsM, if_neg hb]
 have hfo := frameM_ok hb
 rw [opsM, if_pos hb]
 clear hf
 refine cw_loop (X := Nat × List Op × Nat × (Nat → Nat → PV)) (fun x => mkSt [(1, .b (.c (.ptr 0 0))), (5, .b (.c (.own 1 x.2.1.length))), (6, .b (I x.1))]
  [(0, .fix ((scriptE s).map CV.p)), (1, .arr 89 12 x.2.2.1 x.2.2.2)] 2) (fun x => x.1 ≤ s.ops.length ∧ x.2.1.length ≤ x.1 ∧ x.2.1.length ≤ x.2.2.1 ∧ (∀ k, k < x.2.1.length → ∀ j, j < 12 → x.2.2.2 k j = fnOf opE x.2.1 k j) ∧
   opsGo s.bits s.images.length x.1 (s.ops.drop x.1) x.2.1 = opsGo s.bits s.images.length 0 s.ops []) (fun x => s.ops.length - x.1) (0, [], 0, fun _ _ => .any) ?_ ?_ ?_
 ·exact ⟨by omega, Nat.le_refl _, Nat.le_refl _, fun k hk => by simp at hk, rfl⟩
 ·refine le_a [(1, none)] ?_ ?_
  and_intros
  all_goals first | exact le_cl | skip
 ·rintro ⟨i, l, m, g⟩ ⟨hi, hl, hm, hg, hgo⟩
  dsimp only at hi hl hm hg hgo ⊢
  have hv := checkOp_spec s i l hs (by omega)
  have he : i < s.ops.length → opErrAt s i l = opErr s.bits s.images.length (s.ops.getD i default) l := fun h => by
   rw [opErrAt, if_neg (by omega), Int.toNat_natCast]
  have hpop : i < s.ops.length → opErrAt s i l = 0 → (s.ops.getD (i : Int).toNat default).kind = 3 → 0 < l.length := fun h1 h2 h3 => by
   rw [he h1] at h2
   exact opErr_pop h2 h3
  repeat' (first | refine un_a ?_ | (refine st_a (fun K hK => ?_); and_intros; (all_goals first | (refine hK _ ?_; clear hK K) | exact auto_cl | skip)) | (refine if_a (fun hb => ?_) (fun hb => ?_); all_goals try exact bad_a) | (refine ret_a ?_; (try clear hB KB); (try clear hK K)))
  ·refine call_lends ?_ ?_ (by simp (maxSteps := 1000000) (disch := omega) only [go_sem]) ?_ (hv)
   try simp (maxSteps := 1000000) (disch := omega) only [go_sem]
   try (refine hK _ ?_; clear hK K)
   ·repeat' (first | refine un_a ?_ | (refine st_a (fun K hK => ?_); and_intros; (all_goals first | (refine hK _ ?_; clear hK K) | exact auto_cl | skip)) | ((first | apply cw_ite | apply cw_iteN); (case hf => rfl); (case hc => exact ev_a); (all_goals first | (intro hb; (try simp only [hbs] at hb)) | skip)) | exact atN_intro | (refine if_a (fun hb => ?_) (fun hb => ?_); all_goals try exact bad_a) | (refine ret_a ?_; (try clear hB KB); (try clear hK K)))
    ·rw [he (by omega)] at hb ⊢
     rw [← hgo, opsGo_step (by omega), if_neg hb]
    ·have hn : ∀ l', nextOpen l (s.ops.getD i default) = l' → opsGo s.bits s.images.length (i + 1) (s.ops.drop (i + 1)) l' = opsGo s.bits s.images.length 0 s.ops [] := by
      rintro l' rfl
      have q := opsGo_step (b := s.bits) (n := s.images.length) (l := l) (show i < s.ops.length by omega)
      rw [if_pos (by rw [← he (by omega)]; exact hb)] at q
      rw [← q, hgo]
     rw [thenQ_normal]
     simp only [Int.toNat_natCast] at hpop ⊢
     by_cases hk2 : (s.ops.getD i default).kind = 2
     ·have e2 : ((s.ops.getD i default).kind == 2) = true := by rw [hk2]; rfl
      simp only [e2, St.ite_t]
      refine wk_loop (i + 1, l ++ [s.ops.getD i default], l.length + 1, fnOf opE (l ++ [s.ops.getD i default])) ?_ ⟨by omega, by simp; omega, by simp, fun _ _ _ _ => rfl, hn _ (by rw [nextOpen, if_pos hk2])⟩ (by dsimp only; omega)
      refine le_a [(1, some 3)] ?_ ?_
      and_intros
      all_goals first | exact le_cl | skip
      ·simp
      ·refine .inr fun a ha j hj => push_open hg (fun j hj => ?_) a (by simpa using ha) j hj
       have hivl : j = 0 ∨ j = 1 ∨ j = 2 ∨ j = 3 ∨ j = 4 ∨ j = 5 ∨ j = 6 ∨ j = 7 ∨ j = 8 ∨ j = 9 ∨ j = 10 ∨ j = 11 := by omega
       rcases hivl with rfl | rfl | rfl | rfl | rfl | rfl | rfl | rfl | rfl | rfl | rfl | rfl <;> rfl
     ·have e2 : ((s.ops.getD i default).kind == 2) = false := by simpa using hk2
      simp only [e2, St.ite_f]
      by_cases hk3 : (s.ops.getD i default).kind = 3
      ·have e3 : ((s.ops.getD i default).kind == 3) = true := by rw [hk3]; rfl
       simp only [e3, St.ite_t]
       have hp := hpop (by omega) hb hk3
       refine wk_loop (i + 1, l.dropLast, m, g) ?_ ⟨by omega, by rw [List.length_dropLast]; dsimp only; omega, by rw [List.length_dropLast]; dsimp only; omega, pop_open hg, hn _ (by rw [nextOpen, if_neg hk2, if_pos hk3])⟩ (by dsimp only; omega)
       refine le_a [(1, some 1)] ?_ ?_
       and_intros
       all_goals first | exact le_cl | skip
       rw [List.length_dropLast]; omega
      ·have e3 : ((s.ops.getD i default).kind == 3) = false := by simpa using hk3
       simp only [e3, St.ite_f]
       refine wk_loop (i + 1, l, m, g) ?_ ⟨by omega, by dsimp only; omega, hm, hg, hn _ (by rw [nextOpen, if_neg hk2, if_neg hk3])⟩ (by dsimp only; omega)
       refine le_a [(1, some 1)] ?_ ?_
       and_intros
       all_goals first | exact le_cl | skip
   ·simp (maxSteps := 1000000) (disch := omega) only [go_sem, argsLe_cons, argsLe_nil]
    rw [if_pos hm]
    exact ⟨bvle_refl, bvle_refl, lent_open hg⟩
   ·trivial
  ·have hi2 : i = s.ops.length := by omega
   (try rw [opsM, if_pos (by assumption)]); rw [← hgo, hi2, List.drop_length, opsGo, if_pos (by omega)]
  ·have hi2 : i = s.ops.length := by omega
   (try rw [opsM, if_pos (by assumption)]); rw [← hgo, hi2, List.drop_length, opsGo, if_neg (by omega)]
end Go.Proofs.YtlblgkelhibdoaaGreatDoor
