/- Part of the proof: D8. -/
import Derived.Test.YtlblgkelhibdoaaGreatDoorM27
set_option linter.unusedSimpArgs false
set_option linter.unusedVariables false
set_option maxHeartbeats 2000000
set_option maxRecDepth 16000
namespace Go.Proofs.YtlblgkelhibdoaaGreatDoor
open Go Go.SL
open Go.RowKit (wrap64)
attribute [local go_sem] Int.toNat_natCast stF_top pred_cast2
theorem lst_leQ {sz n : Nat} {f g : Nat → Nat → PV} (h : ∀ i, i < n → ∀ j, j < sz → PV.le (f i j) (g i j)) : PV.le (.lst sz n f) (.lst sz n g) := fun _ _ u hu => by
 obtain ⟨a, c, e, hn, hb⟩ := hu
 refine ⟨a, c, e, hn, fun h0 => ?_⟩
 obtain ⟨b, o, ha, hok, hc⟩ := hb h0
 refine ⟨b, o, ha, hok, fun i hi j hj => ?_⟩
 obtain ⟨x, h1, h2, h3⟩ := hc i hi j hj
 exact ⟨x, h1, h2, h i hi j hj _ _ _ h3⟩
theorem stF_lt {l junk : List Nat} {a : Nat} (h : a < l.length) : stF l junk a = l.reverse.getD a 0 := by
 rw [stF, List.getD_eq_getElem?_getD, List.getD_eq_getElem?_getD, List.getElem?_append_left (by simpa using h)]
theorem op_eq {a b : Op} : a = b ↔ a.kind = b.kind ∧ a.image = b.image ∧ a.x = b.x ∧ a.y = b.y ∧ a.mask = b.mask ∧ a.maskX = b.maskX ∧ a.maskY = b.maskY ∧ a.opacity = b.opacity ∧ a.operator = b.operator ∧
  a.mode = b.mode ∧ a.isolated = b.isolated ∧ a.knockout = b.knockout := by
 cases a; cases b; simp
theorem common_spec (a b : List Op) (ha : a.length ≤ 4096) (hb : b.length ≤ 4096) : Pure Sg 47 [.c (.p (opL a)), .c (.p (opL b))] (fun x => x = .tup [I (preM a b), I (sufM a b (preM a b))]) := by
 refine fn_a Tryz.func47 [.tmp 4, .tmp 5] ?_
 repeat' (first | refine un_a ?_ | (refine st_a (fun K hK => ?_); and_intros; (all_goals first | (refine hK _ ?_; clear hK K) | exact auto_cl | skip)))
 refine cw_loop (X := Nat) (fun k => mkSt [(0, .b (.c (.p (opL a)))), (1, .b (.c (.p (opL b)))), (4, .b (I k)), (5, .b (I 0))] [] 1)
  (fun k => k ≤ a.length ∧ preM a b = upTo (fun k => decide (k < a.length ∧ k < b.length ∧ opAt a k = opAt b k)) (a.length - k) k) (fun k => a.length - k) 0 ?_ ?_ ?_
 ·exact ⟨Nat.zero_le _, rfl⟩
 ·refine le_a [] ?_ ?_
  and_intros
  all_goals first | exact le_cl | skip
 ·rintro k ⟨hk, hp⟩
  repeat' (first | refine un_a ?_ | (refine st_a (fun K hK => ?_); and_intros; (all_goals first | (refine hK _ ?_; clear hK K) | exact auto_cl | skip)) | (refine if_a (fun hb => ?_) (fun hb => ?_); all_goals try exact bad_a))
  ·have hP : decide (k < a.length ∧ k < b.length ∧ opAt a k = opAt b k) = true := by
    simp only [decide_eq_true_eq]
    obtain ⟨_, e1, e2, e3, e4, e5, e6, e7, e8, e9, e10, e11, e12, _⟩ := hb
    exact ⟨by omega, by omega, op_eq.2 ⟨e1, e2, e3, e4, e5, e6, e7, e8, e9, e10, e11, e12⟩⟩
   rw [blockQ_normal, thenQ_normal]
   refine wk_loop (k + 1) ?_ ⟨by omega, ?_⟩ (by omega)
   ·refine le_a [] ?_ ?_
    and_intros
    all_goals first | exact le_cl | skip
   ·rw [hp, upTo_step (by omega), if_pos hP]
  ·have hfin : preM a b = k := by
    rw [hp]
    rcases Nat.lt_or_ge k a.length with hka | hka
    ·rw [upTo_step hka, if_neg]
     simp only [decide_eq_true_eq]
     rintro ⟨q1, q2, q3⟩
     obtain ⟨e1, e2, e3, e4, e5, e6, e7, e8, e9, e10, e11, e12⟩ := op_eq.1 q3
     exact absurd (hb ⟨by omega, by omega⟩ e1 e2 e3 e4 e5 e6 e7 e8 e9 e10 e11 e12) (by simp)
    ·rw [show a.length - k = 0 by omega]; rfl
   have hpl := pre_le a b
   rw [hfin] at hpl
   rw [hfin]
   clear hb hp hk
   refine cw_loop (X := Nat) (fun j => mkSt [(0, .b (.c (.p (opL a)))), (1, .b (.c (.p (opL b)))), (4, .b (I k)), (5, .b (I j))] [] 1)
    (fun j => j ≤ a.length ∧ sufM a b k = upTo (fun j => decide (k + j < a.length ∧ k + j < b.length ∧ opAt a (a.length - 1 - j) = opAt b (b.length - 1 - j))) (a.length - j) j) (fun j => a.length - j) 0 ?_ ?_ ?_
   ·exact ⟨Nat.zero_le _, rfl⟩
   ·refine le_a [] ?_ ?_
    and_intros
    all_goals first | exact le_cl | skip
   ·rintro j ⟨hj, hs⟩
    have ia : ((a.length : Int) - 1 - (j : Int)).toNat = a.length - 1 - j := by omega
    have ib : ((b.length : Int) - 1 - (j : Int)).toNat = b.length - 1 - j := by omega
    repeat' (first | refine un_a ?_ | (refine st_a (fun K hK => ?_); and_intros; (all_goals first | (refine hK _ ?_; clear hK K) | exact auto_cl | skip)) | (refine if_a (fun hb => ?_) (fun hb => ?_); all_goals try exact bad_a) | (refine ret_a ?_; (try clear hB KB); (try clear hK K)))
    ·rw [ia, ib] at hb
     obtain ⟨_, e1, e2, e3, e4, e5, e6, e7, e8, e9, e10, e11, e12, _⟩ := hb
     rw [blockQ_normal, thenQ_normal]
     refine wk_loop (j + 1) ?_ ⟨by omega, ?_⟩ (by omega)
     ·refine le_a [] ?_ ?_
      and_intros
      all_goals first | exact le_cl | skip
     ·rw [hs, upTo_step (by omega), if_pos]
      simp only [decide_eq_true_eq]
      exact ⟨by omega, by omega, op_eq.2 ⟨e1, e2, e3, e4, e5, e6, e7, e8, e9, e10, e11, e12⟩⟩
    ·have hfin2 : sufM a b k = j := by
      rw [hs]
      rcases Nat.lt_or_ge j a.length with hka | hka
      ·rw [upTo_step hka, if_neg]
       simp only [decide_eq_true_eq]
       rintro ⟨q1, q2, q3⟩
       rw [ia, ib] at hb
       obtain ⟨e1, e2, e3, e4, e5, e6, e7, e8, e9, e10, e11, e12⟩ := op_eq.1 q3
       exact absurd (hb ⟨by omega, by omega⟩ e1 e2 e3 e4 e5 e6 e7 e8 e9 e10 e11 e12) (by simp)
      ·rw [show a.length - j = 0 by omega]; rfl
     first | rw [hfin, hfin2] | rw [hfin2]
theorem open_spec (s : Script) (V : VOps s) (p : Nat) (hp : p ≤ s.ops.length) : Pure Sg 91 [.c (.p (opL s.ops)), I p] (fun x => x = .b (.c (.p (natsF (stk s.ops p).length (fun a => (stk s.ops p).reverse.getD a 0))))) := by
 have hn := V.cnt
 have W := V.wf
 refine pure_le ?_
 refine fn_a Tryz.func91 [.tmp 4] ?_
 repeat' (first | refine un_a ?_ | (refine st_a (fun K hK => ?_); and_intros; (all_goals first | (refine hK _ ?_; clear hK K) | exact auto_cl | skip)))
 refine cw_loop (X := Nat × List Nat) (fun x => mkSt [(4, .b (.c (.p (.val (.slice none 0 0))))), (5, .b (.c (.own 1 (stk s.ops x.1).length))), (10, .b (.c (.p (.lst 12 p (fnOf opE s.ops))))), (11, .b (I p)), (12, .b (I x.1))]
  [(1, .arr 3 1 ((stk s.ops x.1).length + x.2.length) (fun a _ => PI (stF (stk s.ops x.1) x.2 a)))] 2) (fun x => x.1 ≤ p) (fun x => p - x.1) (0, []) ?_ ?_ ?_
 ·exact Nat.zero_le _
 ·refine le_a [(1, none)] ?_ ?_
  and_intros
  all_goals first | exact le_cl | skip
  rw [Nat.sub_zero]
  refine .inr (lst_leQ fun i hi j hj => ?_)
  rw [Nat.zero_add]
  exact fun _ _ _ h => h
 ·rintro ⟨i, junk⟩ hi
  dsimp only at hi ⊢
  have hsl := stk_len s.ops i
  rcases Nat.lt_or_ge i p with hlt | hge
  ·rcases W.kinds i (by omega) with hk | hk | hk
   ·have hk2 : (s.ops.getD i default).kind = 1 := hk
    repeat' (first | refine dec_a hk2 ?_ | refine un_a ?_ | (refine st_a (fun K hK => ?_); and_intros; (all_goals first | (refine hK _ ?_; clear hK K) | exact auto_cl | skip)) | (refine if_a (fun hb => ?_) (fun hb => ?_); all_goals try exact bad_a))
    rw [thenQ_normal]
    refine wk_loop (i + 1, junk) ?_ (by dsimp only; omega) (by dsimp only; omega)
    dsimp only
    rw [stk_draw hk]
    refine le_a [(1, some 1)] ?_ ?_
    and_intros
    all_goals first | exact le_cl | skip
   ·have hk2 : (s.ops.getD i default).kind = 2 := hk
    repeat' (first | refine dec_a hk2 ?_ | refine un_a ?_ | (refine st_a (fun K hK => ?_); and_intros; (all_goals first | (refine hK _ ?_; clear hK K) | exact auto_cl | skip)) | (refine if_a (fun hb => ?_) (fun hb => ?_); all_goals try exact bad_a))
    rw [thenQ_normal]
    refine wk_loop (i + 1, []) ?_ (by dsimp only; omega) (by dsimp only; omega)
    dsimp only
    rw [stk_push hk]
    refine le_a [(1, some 4)] ?_ ?_
    and_intros
    all_goals first | exact le_cl | skip
    refine .inr fun a ha j hj => ?_
    have h2 : j = 0 := by omega
    subst h2
    unfold appF
    by_cases h : a < (stk s.ops i).length
    ·rw [if_pos h, stF_old h]; exact fun _ _ _ h => h
    ·have ea : a = (stk s.ops i).length := by omega
     rw [if_neg h, ea, stF_top, Nat.sub_self]; exact fun _ _ _ h => h
   ·have hk2 : (s.ops.getD i default).kind = 3 := hk
    cases hs : stk s.ops i with
    | nil => exact absurd hs (W.pops i (by omega) hk)
    | cons q t =>
     have htl : t.length ≤ 4096 := by rw [hs] at hsl; simp at hsl; omega
     repeat' (first | refine dec_a hk2 ?_ | refine un_a ?_ | (refine st_a (fun K hK => ?_); and_intros; (all_goals first | (refine hK _ ?_; clear hK K) | exact auto_cl | skip)) | (refine if_a (fun hb => ?_) (fun hb => ?_); all_goals try exact bad_a))
     rw [thenQ_normal]
     refine wk_loop (i + 1, q :: junk) ?_ (by dsimp only; omega) (by dsimp only; omega)
     dsimp only
     rw [stk_pop hk, hs]
     refine le_a [(1, some 1)] ?_ ?_
     and_intros
     all_goals first | exact le_cl | skip
     ·show _ = t.length + (junk.length + 1); omega
     ·exact .inl (by rw [stF_pop]; rfl)
  ·have hi2 : i = p := by omega
   subst hi2
   repeat' (first | refine un_a ?_ | (refine st_a (fun K hK => ?_); and_intros; (all_goals first | (refine hK _ ?_; clear hK K) | exact auto_cl | skip)) | (refine if_a (fun hb => ?_) (fun hb => ?_); all_goals try exact bad_a) | (refine ret_a ?_; (try clear hB KB); (try clear hK K)))
   rw [if_pos (by omega)]
   refine ⟨trivial, ?_⟩
   refine sle_b (ble_c (lst_leQ fun a ha x hx => ?_))
   rw [stF_lt ha]
   exact fun _ _ _ h => h
theorem sizes_spec (s t : Script) (hs : ScriptLen s) (ht : ScriptLen t) : Pure Sg 46 [ag (scriptE s), ag (scriptE t)] (fun x => x = .b (B (sizesM s t))) := by
 obtain ⟨h1, h2, h3⟩ := id hs
 obtain ⟨t1, t2, t3⟩ := id ht
 refine fn_a Tryz.func46 [.tmp 4] ?_
 repeat' (first | refine un_a ?_ | (refine st_a (fun K hK => ?_); and_intros; (all_goals first | (refine hK _ ?_; clear hK K) | exact auto_cl | skip)) | (refine if_a (fun hb => ?_) (fun hb => ?_); all_goals try exact bad_a) | (refine ret_a ?_; (try clear hB KB); (try clear hK K)))
 ·rw [sizesM, decide_eq_false, Bool.false_and]
  rintro ⟨e1, e2, e3⟩
  rw [e2] at hb
  rcases hb with (h | h) | h
  ·exact h e1
  ·exact absurd (h rfl rfl rfl rfl) (by simp)
  ·exact h (by rw [e3])
 have hh : s.bits = t.bits ∧ s.canvas = t.canvas ∧ s.images.length = t.images.length := ⟨hb.1.1, rect_ext hb.1.2.1 hb.1.2.2.1 hb.1.2.2.2.1 hb.1.2.2.2.2.1, by omega⟩
 refine cw_loop (X := Nat) (fun i => mkSt [(2, .b (.c (.ptr 0 0))), (3, .b (.c (.ptr 1 0))), (4, .b (B false)), (29, .b (.c (.p (imgL s.images)))), (30, .b (I s.images.length)), (31, .b (I i))] [(0, .fix ((scriptE s).map CV.p)), (1, .fix ((scriptE t).map CV.p))] 2)
  (fun i => i ≤ s.images.length ∧ ∀ j, j < i → (s.images.getD j default).w = (t.images.getD j default).w ∧ (s.images.getD j default).h = (t.images.getD j default).h) (fun i => s.images.length - i) 0 ?_ ?_ ?_
 ·exact ⟨Nat.zero_le _, fun j hj => absurd hj (Nat.not_lt_zero _)⟩
 ·refine le_a [(1, some 1)] ?_ ?_
  and_intros
  all_goals first | exact le_cl | skip
 ·rintro i ⟨hi, hp⟩
  have hl := hh.2.2
  repeat' (first | refine un_a ?_ | (refine st_a (fun K hK => ?_); and_intros; (all_goals first | (refine hK _ ?_; clear hK K) | exact auto_cl | skip)) | (refine if_a (fun hb => ?_) (fun hb => ?_); all_goals try exact bad_a) | (refine ret_a ?_; (try clear hB KB); (try clear hK K)))
  ·rw [sizesM, List.all_eq_false.2, Bool.and_false]
   refine ⟨i, List.mem_range.2 (by omega), ?_⟩
   simp only [decide_eq_true_eq]
   omega
  ·rw [thenQ_normal]
   refine wk_loop (i + 1) ?_ ⟨by omega, fun j hj => ?_⟩ (by omega)
   ·refine le_a [(1, some 1)] ?_ ?_
    and_intros
    all_goals first | exact le_cl | skip
   ·by_cases e : j = i
    ·rw [e]; omega
    ·exact hp j (by omega)
  ·rw [sizesM, decide_eq_true hh, Bool.true_and, List.all_eq_true.2]
   intro j hj
   rw [decide_eq_true_eq]
   exact hp j (by have := List.mem_range.1 hj; omega)
end Go.Proofs.YtlblgkelhibdoaaGreatDoor
