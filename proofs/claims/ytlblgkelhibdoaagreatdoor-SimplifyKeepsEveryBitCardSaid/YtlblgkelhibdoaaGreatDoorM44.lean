/- Part of the proof: E1. -/
import Derived.Test.YtlblgkelhibdoaaGreatDoorM17
import Derived.Test.YtlblgkelhibdoaaGreatDoorM21
set_option linter.unusedSimpArgs false
set_option linter.unusedVariables false
set_option maxHeartbeats 2000000
set_option maxRecDepth 16000
namespace Go.Proofs.YtlblgkelhibdoaaGreatDoor
open Go Go.SL
open Go.RowKit (wrap64)
theorem covers_spec (r q : Rect) : Pure Sg 162 [ag (rectE r), ag (rectE q)] (fun x => x = .b (B (coversR r q))) := by
 have h1 := rempty_spec q
 have h2 := rempty_spec r
 refine fn_a Tryz.func162 [.tmp 4] ?_
 repeat' (first | ((first | refine st_a (fun K hK => ?_) | refine call_c (h1) ?_ | refine gcall_c (fun hg => h2) ?_); and_intros; (all_goals first | (refine hK _ ?_; clear hK K) | exact auto_cl | skip)) | (refine ret_a ?_; (try clear hB KB); (try clear hK K)))
 rfl
def clearP (p : Pixel) : Bool := decide (p.c0 = 0 ∧ p.c1 = 0 ∧ p.c2 = 0 ∧ p.a = 0 ∧ p.f = 0)
theorem transparent_spec (p : Pixel) : Pure Sg 142 [ag (pixE p)] (fun x => x = .b (B (clearP p))) := by
 refine fn_a Tryz.func142 [.tmp 2] ?_
 repeat' (first | (refine st_a (fun K hK => ?_); and_intros; (all_goals first | (refine hK _ ?_; clear hK K) | exact auto_cl | skip)) | (refine ret_a ?_; (try clear hB KB); (try clear hK K)))
 refine bool_eq ?_
 (try simp only [clearP, Bool.and_eq_true, Bool.or_eq_true, Bool.not_eq_true', Bool.not_eq_false', decide_eq_true_eq, decide_eq_false_iff_not, ge_iff_le, gt_iff_lt, beq_iff_eq, bne_iff_ne, ne_eq, Bool.or_eq_false_iff, Bool.and_eq_false_imp, Bool.not_true, Bool.not_false])
 try omega
 simp only [and_true, and_assoc]
def freshM (o : Int) : Bool := decide (o = 2 ∨ o = 4 ∨ o = 5 ∨ o = 8 ∨ o = 11 ∨ o = 12)
theorem rule_fresh (o : Int) : ∃ a b c, ruleE o = [.val (.string (opNm o)), PI a, PI b, PI c] ∧ (decide (1 ≤ o ∧ o ≤ 12) && ((a == 1 || a == 3) && (c == 1 || c == 3))) = freshM o := by
 by_cases h : 1 ≤ o ∧ o ≤ 12
 ·have : o = 1 ∨ o = 2 ∨ o = 3 ∨ o = 4 ∨ o = 5 ∨ o = 6 ∨ o = 7 ∨ o = 8 ∨ o = 9 ∨ o = 10 ∨ o = 11 ∨ o = 12 := by omega
  rcases this with rfl | rfl | rfl | rfl | rfl | rfl | rfl | rfl | rfl | rfl | rfl | rfl <;> exact ⟨_, _, _, rfl, by decide +kernel⟩
 ·obtain ⟨a, b, c, e, _⟩ := opNm_spec o
  refine ⟨a, b, c, e, ?_⟩
  rw [decide_eq_false h, Bool.false_and, freshM]
  exact (decide_eq_false (by omega)).symm
theorem fresh_spec (o : Int) : Pure Sg 148 [I o] (fun x => x = .b (B (freshM o))) := by
 obtain ⟨a, b, c, he, hn⟩ := rule_fresh o
 have hf := find_spec o
 rw [he] at hf
 rw [← hn]
 refine fn_a Tryz.func148 [.tmp 2] ?_
 repeat' (first | ((first | refine st_a (fun K hK => ?_) | refine call_c (hf) ?_); and_intros; (all_goals first | (refine hK _ ?_; clear hK K) | exact auto_cl | skip)) | (refine ret_a ?_; (try clear hB KB); (try clear hK K)))
 rw [Bool.and_assoc]
attribute [local go_sem] pred_cast2 Int.toNat_natCast stF_top
theorem tends_spec (s : Script) (V : VOps s) : Pure Sg 93 [.c (.p (opL s.ops))] (fun x => x = .tup [.c (.p (natsF s.ops.length (endsM s.ops))), I 0]) := by
 have hn := V.cnt
 have W := V.wf
 refine fn_a Tryz.func93 [.tmp 2, .tmp 3] ?_
 repeat' (first | refine un_a ?_ | (refine st_a (fun K hK => ?_); and_intros; (all_goals first | (refine hK _ ?_; clear hK K) | exact auto_cl | skip)))
 refine cw_loop (X := Nat × List Nat) (fun x => mkSt [(2, .b (.c (.p (.val (.slice none 0 0))))), (3, .b (I 0)), (4, .b (.c (.own 0 s.ops.length))), (5, .b (.c (.own 1 (stk s.ops x.1).length))), (11, .b (.c (.p (opL s.ops)))), (12, .b (I s.ops.length)), (13, .b (I x.1))]
  [(0, .arr 3 1 s.ops.length (fun a _ => PI (eAt s.ops x.1 a))), (1, .arr 3 1 ((stk s.ops x.1).length + x.2.length) (fun a _ => PI (stF (stk s.ops x.1) x.2 a)))] 2)
  (fun x => x.1 ≤ s.ops.length) (fun x => s.ops.length - x.1) (0, []) ?_ ?_ ?_
 ·exact Nat.zero_le _
 ·refine le_a [(1, none)] ?_ ?_
  and_intros
  all_goals first | exact le_cl | skip
  refine .inr fun a ha j hj => ?_
  have h2 : j = 0 := by omega
  subst h2
  exact fun _ _ _ h => h
 ·rintro ⟨i, junk⟩ hi
  dsimp only at hi ⊢
  have hsl := stk_len s.ops i
  rcases Nat.lt_or_ge i s.ops.length with hlt | hge
  ·rcases W.kinds i hlt with hk | hk | hk
   ·have hk2 : (s.ops.getD i default).kind = 1 := hk
    repeat' (first | refine un_a ?_ | (refine st_a (fun K hK => ?_); and_intros; (all_goals first | (refine hK _ ?_; clear hK K) | exact auto_cl | skip)) | (refine if_a (fun hb => ?_) (fun hb => ?_); all_goals try exact bad_a))
    rw [thenQ_normal]
    refine wk_loop (i + 1, junk) ?_ (by dsimp only; omega) (by dsimp only; omega)
    dsimp only
    rw [stk_draw hk]
    refine le_a [(1, some 1)] ?_ ?_
    and_intros
    all_goals first | exact le_cl | skip
    refine .inr fun a ha j hj => ?_
    have h2 : j = 0 := by omega
    subst h2
    by_cases e : a = i
    ·rw [if_pos e, if_pos (by omega), e, eAt, if_neg (by omega), upd_self]; exact fun _ _ _ h => h
    ·rw [if_neg e, eAt, if_neg (by omega), upd_ne _ _ e]; exact fun _ _ _ h => h
   ·have hk2 : (s.ops.getD i default).kind = 2 := hk
    repeat' (first | refine un_a ?_ | (refine st_a (fun K hK => ?_); and_intros; (all_goals first | (refine hK _ ?_; clear hK K) | exact auto_cl | skip)) | (refine if_a (fun hb => ?_) (fun hb => ?_); all_goals try exact bad_a))
    rw [thenQ_normal]
    refine wk_loop (i + 1, []) ?_ (by dsimp only; omega) (by dsimp only; omega)
    dsimp only
    rw [stk_push hk]
    refine le_a [(1, some 4)] ?_ ?_
    and_intros
    all_goals first | exact le_cl | skip
    ·refine .inr fun a ha j hj => ?_
     have h2 : j = 0 := by omega
     subst h2
     by_cases e : a = i
     ·rw [if_pos e, if_pos (by omega), e, eAt, if_neg (by omega), upd_self]; exact fun _ _ _ h => h
     ·rw [if_neg e, eAt, if_neg (by omega), upd_ne _ _ e]; exact fun _ _ _ h => h
    refine .inr fun a ha j hj => ?_
    have h2 : j = 0 := by omega
    subst h2
    unfold appF
    by_cases h : a < (stk s.ops i).length
    ·rw [if_pos h, stF_old h]; exact fun _ _ _ h => h
    ·have ea : a = (stk s.ops i).length := by omega
     rw [if_neg h, ea, stF_top, Nat.sub_self]; exact fun _ _ _ h => h
   ·have hk2 : (s.ops.getD i default).kind = 3 := hk
    cases hs : stk s.ops i with
    | nil => exact absurd hs (W.pops i hlt hk)
    | cons p t =>
     have hp : p < i := stk_lt (ops := s.ops) (by rw [hs]; exact List.mem_cons_self ..)
     have htl : t.length ≤ 4096 := by rw [hs] at hsl; simp at hsl; omega
     repeat' (first | refine un_a ?_ | (refine st_a (fun K hK => ?_); and_intros; (all_goals first | (refine hK _ ?_; clear hK K) | exact auto_cl | skip)) | (refine if_a (fun hb => ?_) (fun hb => ?_); all_goals try exact bad_a))
     rw [thenQ_normal]
     refine wk_loop (i + 1, p :: junk) ?_ (by dsimp only; omega) (by dsimp only; omega)
     dsimp only
     rw [stk_pop hk, hs]
     refine le_a [(1, some 1)] ?_ ?_
     and_intros
     all_goals first | exact le_cl | skip
     ·refine .inr fun a ha j hj => ?_
      have h2 : j = 0 := by omega
      subst h2
      rw [eAt, if_pos hk, hs]
      dsimp only [List.headD]
      by_cases e : a = p
      ·rw [if_pos e, e, upd_self]; exact fun _ _ _ h => h
      ·rw [if_neg e, upd_ne _ _ e]
       by_cases e2 : a = i
       ·rw [if_pos e2, e2, upd_self]; exact fun _ _ _ h => h
       ·rw [if_neg e2, upd_ne _ _ e2]; exact fun _ _ _ h => h
     ·show _ = t.length + (junk.length + 1); omega
     ·exact .inl (by rw [stF_pop]; rfl)
  ·have hi2 : i = s.ops.length := by omega
   subst hi2
   rw [W.fin]
   repeat' (first | refine un_a ?_ | (refine st_a (fun K hK => ?_); and_intros; (all_goals first | (refine hK _ ?_; clear hK K) | exact auto_cl | skip)) | (refine if_a (fun hb => ?_) (fun hb => ?_); all_goals try exact bad_a) | (refine ret_a ?_; (try clear hB KB); (try clear hK K)))
   rfl
end Go.Proofs.YtlblgkelhibdoaaGreatDoor
