/- Part of the proof: E6, E7, E8, EA, VE. -/
import Derived.Test.YtlblgkelhibdoaaGreatDoorM59
set_option linter.unusedSimpArgs false
set_option linter.unusedVariables false
set_option maxHeartbeats 2000000
set_option maxRecDepth 16000
namespace Go.Proofs.YtlblgkelhibdoaaGreatDoor
open Go Go.SL
open Go.RowKit (wrap64)
attribute [local go_sem] Int.toNat_natCast vP vf0 vf1 vf2 vf3 vf4 vf5 vf6 vf7 vf8 vf9 vf10 vf11 vf12 vf13 vf14 tiF1 tiF2 tiF3
attribute [local go_sem] flR0 flR1 elR
theorem cnt_step (l : List Op) {i : Nat} (hi : i < l.length) : cntM (l.take (i + 1)) = cntM (l.take i) + if (opAt l i).kind = 1 ∨ (opAt l i).kind = 2 then 1 else 0 := by
 have e : l.take (i + 1) = l.take i ++ [opAt l i] := by rw [opAt_eq hi, List.take_add_one, List.getElem?_eq_getElem hi]; rfl
 rw [e, cnt_sum, cnt_sum, sumW_app, sumW_cons, sumW_nil]
 rfl
theorem cnt_bnd (l : List Op) (i : Nat) : cntM (l.take i) ≤ i := by
 rw [cntM]
 have := List.length_filter_le (fun o : Op => decide (o.kind = 1 ∨ o.kind = 2)) (l.take i)
 have := List.length_take_le i l
 omega
theorem count_sp (s : Script) (hs : ScriptLen s) : Pure Sg 53 [ag (scriptE s)] (fun x => x = .b (I (cntM s.ops))) := by
 obtain ⟨l1, l2, l3⟩ := id hs
 refine fn_a Tryz.func53 [.tmp 2] ?_
 repeat' (first | refine un_a ?_ | (refine st_a (fun K hK => ?_); and_intros; (all_goals first | (refine hK _ ?_; clear hK K) | exact auto_cl | skip)))
 refine cw_loop (X := Nat) (fun i => mkSt [(3, .b (I (cntM (s.ops.take i)))), (7, .b (.c (.p (opL s.ops)))), (8, .b (I s.ops.length)), (9, .b (I i))] [] 1) (fun i => i ≤ s.ops.length) (fun i => s.ops.length - i) 0 ?_ ?_ ?_
 ·exact Nat.zero_le _
 ·refine le_a [] ?_ ?_
  and_intros
  all_goals first | exact le_cl | skip
 ·intro i hi
  rcases Nat.lt_or_ge i s.ops.length with hlt | hge
  ·have hbn := cnt_bnd s.ops i
   have hst := cnt_step s.ops hlt
   by_cases hk : (opAt s.ops i).kind = 1 ∨ (opAt s.ops i).kind = 2
   ·have hq : ((s.ops.getD i default).kind == 1 || (s.ops.getD i default).kind == 2) = true := by rw [Bool.or_eq_true, beq_iff_eq, beq_iff_eq]; exact hk
    rw [if_pos hk] at hst
    repeat' (first | refine dec_a hq ?_ | refine un_a ?_ | (refine st_a (fun K hK => ?_); and_intros; (all_goals first | (refine hK _ ?_; clear hK K) | exact auto_cl | skip)) | (refine if_a (fun hb => ?_) (fun hb => ?_); all_goals try exact bad_a))
    rw [thenQ_normal]
    refine wk_loop (i + 1) ?_ (by omega) (by omega)
    rw [hst]
    refine le_a [] ?_ ?_
    and_intros
    all_goals first | exact le_cl | skip
   ·have hq : ((s.ops.getD i default).kind == 1 || (s.ops.getD i default).kind == 2) = false := by
     rw [Bool.or_eq_false_iff, beq_eq_false_iff_ne, beq_eq_false_iff_ne]
     exact ⟨fun q => hk (.inl q), fun q => hk (.inr q)⟩
    rw [if_neg hk] at hst
    repeat' (first | refine dec_a hq ?_ | refine un_a ?_ | (refine st_a (fun K hK => ?_); and_intros; (all_goals first | (refine hK _ ?_; clear hK K) | exact auto_cl | skip)) | (refine if_a (fun hb => ?_) (fun hb => ?_); all_goals try exact bad_a))
    rw [thenQ_normal]
    refine wk_loop (i + 1) ?_ (by omega) (by omega)
    rw [hst, Nat.add_zero]
    refine le_a [] ?_ ?_
    and_intros
    all_goals first | exact le_cl | skip
  ·have hi2 : i = s.ops.length := by omega
   subst hi2
   repeat' (first | refine un_a ?_ | (refine st_a (fun K hK => ?_); and_intros; (all_goals first | (refine hK _ ?_; clear hK K) | exact auto_cl | skip)) | (refine if_a (fun hb => ?_) (fun hb => ?_); all_goals try exact bad_a) | (refine ret_a ?_; (try clear hB KB); (try clear hK K)))
   rw [List.take_length]
end Go.Proofs.YtlblgkelhibdoaaGreatDoor
set_option maxHeartbeats 2000000
set_option maxRecDepth 16000
namespace Go.Proofs.YtlblgkelhibdoaaGreatDoor
open Go Go.SL
open Go.RowKit (wrap64)
attribute [local go_sem] Int.toNat_natCast vP vf0 vf1 vf2 vf3 vf4 vf5 vf6 vf7 vf8 vf9 vf10 vf11 vf12 vf13 vf14 rxE tiF1 tiF2 tiF3 flR0 flR1 elR
theorem rxAt_le (s : Script) (i : Nat) : ∀ n, (rxAt s i n).length ≤ n
 | 0 => Nat.le_refl _
 | n + 1 => by
  have := rxAt_le s i n
  rw [rxAt_succ, List.length_append]
  split <;> simp <;> omega
theorem rxTo_le (s : Script) : ∀ i, (rxTo s i).length ≤ 10 * i
 | 0 => Nat.le_refl _
 | i + 1 => by
  have := rxTo_le s i
  have := rxAt_le s i 10
  rw [rxTo_succ, List.length_append]
  omega
theorem Applies_sp (s : Script) (V : VOps s) (hs : ScriptLen s) (n i : Int) : Pure Sg 52 [ag (scriptE s), I n, I i] (fun x => x = .b (B (apM s n i))) := by
 have h1 := look_spec s V hs (ops_ok V)
 have h2 := applies_sp s V hs n i
 refine fn_a Tryz.func52 [.tmp 6] ?_
 repeat' (first | with_reducible exact tr_a | ((first | refine st_a (fun K hK => ?_) | refine call_c (h1) ?_ | refine gcall_c (fun hg => h2) ?_); and_intros; (all_goals first | (refine hK _ ?_; clear hK K) | exact auto_cl | skip)) | (refine ret_a ?_; (try clear hB KB); (try clear hK K)))
theorem Redexes_no (s : Script) (hs : ScriptLen s) (he : (opsM s).1 ≠ 0) : Pure Sg 20 [ag (scriptE s)] (fun x => x = .b (.c (.p (.lst 2 (redM s).length (fnOf rxE (redM s)))))) := by
 have h1 := look_no s hs he
 rw [redM, if_neg he]
 refine pure_le ?_
 refine fn_a Tryz.func20 [.tmp 2] ?_
 repeat' (first | refine un_a ?_ | ((first | refine st_a (fun K hK => ?_) | refine call_c (h1) ?_); and_intros; (all_goals first | (refine hK _ ?_; clear hK K) | exact auto_cl | skip)) | (refine if_a (fun hb => ?_) (fun hb => ?_); all_goals try exact bad_a) | (refine ret_a ?_; (try clear hB KB); (try clear hK K)))
 ·exact sle_b (ble_c nil_le)
 ·exact absurd hb (by decide)
theorem Redexes_yes (s : Script) (V : VOps s) (hs : ScriptLen s) : Pure Sg 20 [ag (scriptE s)] (fun x => x = .b (.c (.p (.lst 2 (redM s).length (fnOf rxE (redM s)))))) := by
 have hn := V.cnt
 have h1 := look_spec s V hs (ops_ok V)
 rw [redM, if_pos (ops_ok V)]
 refine pure_le ?_
 refine fn_a Tryz.func20 [.tmp 2] ?_
 repeat' (first | refine un_a ?_ | ((first | refine st_a (fun K hK => ?_) | refine call_c (h1) ?_); and_intros; (all_goals first | (refine hK _ ?_; clear hK K) | exact auto_cl | skip)) | (refine if_a (fun hb => ?_) (fun hb => ?_); all_goals try exact bad_a) | (refine ret_a ?_; (try clear hB KB); (try clear hK K)))
 ·exact absurd hb (by decide)
 refine cw_loop (X := Nat) (fun i => mkSt [(1, .b (.c (.ptr 0 0))), (3, .b (vP s)), (5, .b (.c (.own 1 (rxTo s i).length))), (17, .b (I s.ops.length)), (18, .b (I i))]
  [(0, .fix ((scriptE s).map CV.p)), (1, .arr 65 2 (rxTo s i).length (fnOf rxE (rxTo s i)))] 2) (fun i => i ≤ s.ops.length) (fun i => s.ops.length - i) 0 ?_ ?_ ?_
 ·exact Nat.zero_le _
 ·refine le_a [(1, none)] ?_ ?_
  and_intros
  all_goals first | exact le_cl | skip
 ·intro i hi
  have hl := rxTo_le s i
  rcases Nat.lt_or_ge i s.ops.length with hlt | hge
  ·repeat' (first | refine un_a ?_ | ((first | refine st_a (fun K hK => ?_) | refine call_c (table_sp) ?_); and_intros; (all_goals first | (refine hK _ ?_; clear hK K) | exact auto_cl | skip)) | (refine if_a (fun hb => ?_) (fun hb => ?_); all_goals try exact bad_a))
   refine cw_loop (X := Nat) (fun n => mkSt [(1, .b (.c (.ptr 0 0))), (3, .b (vP s)), (5, .b (.c (.own 1 (rxTo s i ++ rxAt s i n).length))), (6, .b (I i)), (17, .b (I s.ops.length)), (18, .b (I i)), (22, .b (I 10)), (23, .b (I n))]
    [(0, .fix ((scriptE s).map CV.p)), (1, .arr 65 2 (rxTo s i ++ rxAt s i n).length (fnOf rxE (rxTo s i ++ rxAt s i n)))] 2) (fun n => n ≤ 10) (fun n => 10 - n) 0 ?_ ?_ ?_
   ·exact Nat.zero_le _
   ·have e0 : rxTo s i ++ rxAt s i 0 = rxTo s i := List.append_nil _
    rw [e0]
    refine le_a [(1, some 1)] ?_ ?_
    and_intros
    all_goals first | exact le_cl | skip
   ·intro n hn10
    have hl2 : (rxTo s i ++ rxAt s i n).length ≤ 10 * i + 10 := by
     have := rxAt_le s i n
     rw [List.length_append]; omega
    rcases Nat.lt_or_ge n 10 with hnl | hng
    ·by_cases ha : apM s n i = true
     ·repeat' (first | refine dec_a ha ?_ | refine un_a ?_ | ((first | refine st_a (fun K hK => ?_) | refine call_c (applies_sp s V hs n i) ?_); and_intros; (all_goals first | (refine hK _ ?_; clear hK K) | exact auto_cl | skip)) | (refine if_a (fun hb => ?_) (fun hb => ?_); all_goals try exact bad_a))
      rw [thenQ_normal]
      refine wk_loop (n + 1) ?_ (by omega) (by omega)
      have e : rxTo s i ++ rxAt s i (n + 1) = rxTo s i ++ rxAt s i n ++ [((n : Int), (i : Int))] := by rw [rxAt_succ, if_pos ha, List.append_assoc]
      rw [e, show (rxTo s i ++ rxAt s i n ++ [((n : Int), (i : Int))]).length = (rxTo s i ++ rxAt s i n).length + 1 from List.length_append]
      refine le_a [(1, some 3)] ?_ ?_
      and_intros
      all_goals first | exact le_cl | skip
      exact .inr (rx_snoc fun j hj => by
       have hj2 : j = 0 ∨ j = 1 := by omega
       rcases hj2 with rfl | rfl <;> rfl)
     ·have e : rxTo s i ++ rxAt s i (n + 1) = rxTo s i ++ rxAt s i n := by rw [rxAt_succ, if_neg ha, List.append_nil]
      rw [Bool.not_eq_true] at ha
      repeat' (first | refine dec_a ha ?_ | refine un_a ?_ | ((first | refine st_a (fun K hK => ?_) | refine call_c (applies_sp s V hs n i) ?_); and_intros; (all_goals first | (refine hK _ ?_; clear hK K) | exact auto_cl | skip)) | (refine if_a (fun hb => ?_) (fun hb => ?_); all_goals try exact bad_a))
      rw [thenQ_normal]
      refine wk_loop (n + 1) ?_ (by omega) (by omega)
      rw [e]
      refine le_a [(1, some 1)] ?_ ?_
      and_intros
      all_goals first | exact le_cl | skip
    ·have hn2 : n = 10 := by omega
     subst hn2
     repeat' (first | refine un_a ?_ | (refine st_a (fun K hK => ?_); and_intros; (all_goals first | (refine hK _ ?_; clear hK K) | exact auto_cl | skip)) | (refine if_a (fun hb => ?_) (fun hb => ?_); all_goals try exact bad_a))
     rw [thenQ_normal]
     refine wk_loop (i + 1) ?_ (by omega) (by omega)
     rw [rxTo_succ]
     refine le_a [(1, some 1)] ?_ ?_
     and_intros
     all_goals first | exact le_cl | skip
  ·have hi2 : i = s.ops.length := by omega
   subst hi2
   repeat' (first | refine un_a ?_ | (refine st_a (fun K hK => ?_); and_intros; (all_goals first | (refine hK _ ?_; clear hK K) | exact auto_cl | skip)) | (refine if_a (fun hb => ?_) (fun hb => ?_); all_goals try exact bad_a) | (refine ret_a ?_; (try clear hB KB); (try clear hK K)))
   exact sle_b (ble_rfl trivial)
end Go.Proofs.YtlblgkelhibdoaaGreatDoor
set_option maxHeartbeats 2000000
set_option maxRecDepth 16000
namespace Go.Proofs.YtlblgkelhibdoaaGreatDoor
open Go Go.SL
open Go.RowKit (wrap64)
attribute [local go_sem] Int.toNat_natCast rxE
attribute [local go_sem] withB
theorem Apply_sp (s : Script) (V : VOps s) (hs : ScriptLen s) (H : Sml s) (r : Rx) (ha : apM s r.1 r.2 = true) (hl : (rwM s r.1.toNat r.2.toNat).length ≤ 1000000000) : Pure Sg 22 [ag (scriptE s), ag (rxE r)] (fun x => x = .tup [ag (scriptE (nextS s r)), I 0]) := by
 have h1 := Rewrite_yes s V hs r ha
 have h2 := With_sp s (rwM s r.1.toNat r.2.toNat) H hl
 refine fn_a Tryz.func22 [.cell 4 36, .tmp 5] ?_
 repeat' (first | refine un_a ?_ | ((first | refine st_a (fun K hK => ?_) | refine call_c (h1) ?_ | refine call_c (h2) ?_); and_intros; (all_goals first | (refine hK _ ?_; clear hK K) | exact auto_cl | skip)) | (refine if_a (fun hb => ?_) (fun hb => ?_); all_goals try exact bad_a) | (refine ret_a ?_; (try clear hB KB); (try clear hK K)))
 ·exact absurd trivial hb
 ·rfl
theorem Redexes_sp (s : Script) (hs : ScriptLen s) : Pure Sg 20 [ag (scriptE s)] (fun x => x = .b (.c (.p (.lst 2 (redM s).length (fnOf rxE (redM s)))))) := by
 by_cases he : (opsM s).1 = 0
 ·exact Redexes_yes s (vops_of he) hs
 ·exact Redexes_no s hs he
end Go.Proofs.YtlblgkelhibdoaaGreatDoor
set_option maxHeartbeats 2000000
set_option maxRecDepth 16000
namespace Go.Proofs.YtlblgkelhibdoaaGreatDoor
open Go Go.SL
open Go.RowKit (wrap64)
attribute [local go_sem] Int.toNat_natCast rxE zerosB
def aw26 : Script := ⟨8, ⟨0, 0, 1, 1⟩, 1, 1, [], [awI 2 9], [⟨2, 0, 0, 0, 0, 0, 0, 128, 12, 1, true, false⟩, awO, ⟨3, 0, 0, 0, 0, 0, 0, 0, 0, 0, false, false⟩]⟩
def aw26t : Script := ⟨8, ⟨0, 0, 1, 1⟩, 1, 1, [], [awI 2 9], [⟨1, 0, 0, 0, 0, 0, 0, 128, 12, 1, false, false⟩]⟩
theorem aw26_len : ScriptLen aw26 := ⟨by decide, by decide, by decide⟩
theorem aw26_ok : VOps aw26 := vops_of (by decide +kernel)
theorem aw26_sml : Sml aw26 := ⟨by decide, by decide, by decide, one_lt (by decide), one_lt (by decide), one_lt (by decide), one_lt (by decide), one_lt (by decide)⟩
theorem aw26_next : nextS aw26 (9, 0) = aw26t := by decide +kernel
theorem awake26_sp : Pure Sg 21 [] (fun x => x = .b (B true)) := by
 have h1 := Apply_sp aw26 aw26_ok aw26_len aw26_sml (9, 0) (by decide +kernel) (by decide +kernel)
 rw [aw26_next] at h1
 have h2 := Applies_sp aw26 aw26_ok aw26_len 9 0
 rw [show apM aw26 9 0 = true by decide +kernel] at h2
 have h3 := Applies_sp aw26 aw26_ok aw26_len 1 1
 rw [show apM aw26 1 1 = false by decide +kernel] at h3
 have h4 := count_sp aw26 aw26_len
 rw [show cntM aw26.ops = 2 by decide +kernel] at h4
 refine fn_a Tryz.func21 [.tmp 0] ?_
 repeat' (first | ((with_reducible refine cw_stepV (id := 1) (fun K hW => ?_)); (try simp (maxSteps := 1000000) (disch := omega) only [go_sem]); and_intros; (all_goals first | (refine hK _ ?_; clear hK K) | exact auto_cl | skip)) | (refine st_a (fun K hK => ?_); and_intros; (all_goals first | (refine hK _ ?_; clear hK K) | exact auto_cl | skip)))
 refine hW _ (mkSt [(0, .b (B false)), (1, .b (.c (.ptr 1 0)))] [(1, .fix ((scriptE aw26).map CV.p))] 2) ?_ ?_
 ·refine le_a [(1, some 2)] ?_ ?_
  and_intros
  all_goals first | exact le_cl | skip
  ·exact nil_le
  ·intro i hi j hj
   have hi0 : i = 0 := by omega
   subst hi0
   have hivl : j = 0 ∨ j = 1 ∨ j = 2 ∨ j = 3 ∨ j = 4 ∨ j = 5 ∨ j = 6 ∨ j = 7 ∨ j = 8 ∨ j = 9 ∨ j = 10 ∨ j = 11 ∨ j = 12 ∨ j = 13 ∨ j = 14 ∨ j = 15 ∨ j = 16 ∨ j = 17 ∨ j = 18 ∨ j = 19 ∨ j = 20 ∨ j = 21 ∨ j = 22 ∨ j = 23 ∨ j = 24 ∨ j = 25 ∨ j = 26 ∨ j = 27 := by omega
   rcases hivl with rfl | rfl | rfl | rfl | rfl | rfl | rfl | rfl | rfl | rfl | rfl | rfl | rfl | rfl | rfl | rfl | rfl | rfl | rfl | rfl | rfl | rfl | rfl | rfl | rfl | rfl | rfl | rfl <;> (first | exact fun _ _ _ h => h | exact nil_le)
  ·intro i hi j hj
   have hi3 : i = 0 ∨ i = 1 ∨ i = 2 := by omega
   rcases hi3 with rfl | rfl | rfl
   ·skip
    have hivl : j = 0 ∨ j = 1 ∨ j = 2 ∨ j = 3 ∨ j = 4 ∨ j = 5 ∨ j = 6 ∨ j = 7 ∨ j = 8 ∨ j = 9 ∨ j = 10 ∨ j = 11 := by omega
    rcases hivl with rfl | rfl | rfl | rfl | rfl | rfl | rfl | rfl | rfl | rfl | rfl | rfl <;> exact fun _ _ _ h => h
   ·skip
    have hivl : j = 0 ∨ j = 1 ∨ j = 2 ∨ j = 3 ∨ j = 4 ∨ j = 5 ∨ j = 6 ∨ j = 7 ∨ j = 8 ∨ j = 9 ∨ j = 10 ∨ j = 11 := by omega
    rcases hivl with rfl | rfl | rfl | rfl | rfl | rfl | rfl | rfl | rfl | rfl | rfl | rfl <;> exact fun _ _ _ h => h
   ·skip
    have hivl : j = 0 ∨ j = 1 ∨ j = 2 ∨ j = 3 ∨ j = 4 ∨ j = 5 ∨ j = 6 ∨ j = 7 ∨ j = 8 ∨ j = 9 ∨ j = 10 ∨ j = 11 := by omega
    rcases hivl with rfl | rfl | rfl | rfl | rfl | rfl | rfl | rfl | rfl | rfl | rfl | rfl <;> exact fun _ _ _ h => h
 clear hW
 repeat' (first | ((first | refine st_a (fun K hK => ?_) | refine call_c (h1) ?_ | refine call_c (h2) ?_ | refine gcall_c (fun hg => h3) ?_ | refine gcall_c (fun hg => h4) ?_); and_intros; (all_goals first | (refine hK _ ?_; clear hK K) | exact auto_cl | skip)) | (refine ret_a ?_; (try clear hB KB); (try clear hK K)))
 exact vb (by decide +kernel)
end Go.Proofs.YtlblgkelhibdoaaGreatDoor
set_option maxHeartbeats 4000000
set_option maxRecDepth 16000
namespace Go.Proofs.YtlblgkelhibdoaaGreatDoor
open Go Go.SL
open Go.RowKit (wrap64)
attribute [local go_sem] Int.toNat_natCast rxE
theorem keep_law (c : Scene) (hc : SceneOk c) (l : List Int) (hl : l.length ≤ 4611686018427387904) (pick : Int) :
  Pure Sg 6 [ag (sceneE c), .c (.p (ints l)), I pick] (fun x => x = .b (B true)) := by
 have hg := gscript_spec c hc
 have hi := gImages_le c
 have hgood := (gScript_good c).len
 have hb := bias_sp (gScript c) l (gScript_len c) hl (by omega) (by show (gImages c).length ≤ _; omega)
 have hs := len_bias c l
 have H := sml_bias c l
 have ho := bias_ops c l
 have hO := Of.bias c l
 generalize hS : biasM (gScript c) l = s at *
 have hr := Redexes_sp s hs
 have haw := awake26_sp
 have hrb : (redM s).length ≤ 10 * s.ops.length := by
  unfold redM
  split
  ·exact rxTo_le s _
  ·exact Nat.zero_le _
 by_cases hz : (redM s).length = 0
 ·have hz2 : (((redM s).length : Int) == 0) = true := by rw [hz]; rfl
  refine fn_a Tryz.func6 [.tmp 6] ?_
  repeat' (first | with_reducible exact tr_a | refine dec_a hz2 ?_ | refine un_a ?_ | ((first | refine st_a (fun K hK => ?_) | refine call_c (hg) ?_ | refine call_c (hb) ?_ | refine call_c (hr) ?_ | refine call_c (haw) ?_); and_intros; (all_goals first | (refine hK _ ?_; clear hK K) | exact auto_cl | skip)) | (refine ret_a ?_; (try clear hB KB); (try clear hK K)))
  all_goals rfl
 have hz2 : (((redM s).length : Int) == 0) = false := beq_eq_false_iff_ne.2 (by omega)
 have hm := modp_spec pick ((redM s).length : Int) (by omega) (by omega)
 have b1 := Int.emod_nonneg pick (show ((redM s).length : Int) ≠ 0 by omega)
 have b2 := Int.emod_lt_of_pos pick (show 0 < ((redM s).length : Int) by omega)
 have hxm : ((redM s).getD (pick % ((redM s).length : Int)).toNat default) ∈ redM s := by
  rw [List.getD_eq_getElem?_getD, List.getElem?_eq_getElem (by omega)]; exact List.getElem_mem _
 have hxa := mem_red.1 hxm
 have V := vops_of hxa.1
 have hle := rw_len V.wf hxa.2
 have hap := Apply_sp s V hs H ((redM s).getD (pick % ((redM s).length : Int)).toNat default) hxa.2 (by omega)
 have hN := hO.next hxa.2
 have hsame : renderM (nextS s ((redM s).getD (pick % ((redM s).length : Int)).toNat default)) = renderM s :=
  render_same hO.small (hN.cv.trans hO.cv.symm) fun x y q => rule_val (hO.pt (by rw [hO.cv] at q; exact q)) hxa.2
 have h1 := hO.render
 have h2 := hN.render
 have h3 := sameImage_sp (renderM s) (img_len hO.small)
 rw [hsame] at h2
 generalize renderM s = m at *
 generalize nextS s ((redM s).getD (pick % ((redM s).length : Int)).toNat default) = t at *
 refine fn_a Tryz.func6 [.tmp 6] ?_
 repeat' (first | refine dec_a hz2 ?_ | refine un_a ?_ | ((first | refine st_a (fun K hK => ?_) | refine call_c (hg) ?_ | refine call_c (hb) ?_ | refine call_c (hr) ?_); and_intros; (all_goals first | (refine hK _ ?_; clear hK K) | exact auto_cl | skip)))
 refine cw_stepR (id := 5) (.br 0 (.br 1 (.br 2 (.br 3 (.br 4 (.br 5 (.br 6 (.br 7 (.br 8 (.br 9 (.br 10 (.br 11 (.br 12 (.br 13 (.br 14 .leaf .nil) .nil) .nil) .nil) .nil) .nil) (.br 12 (.br 8 (.br 9 (.br 10 (.br 11 (.br 13 (.br 14 .leaf .nil) .nil) .nil) .nil) .nil) .nil) .nil)) .nil) .nil) (.br 12 (.br 5 (.br 6 (.br 7 (.br 8 (.br 9 (.br 10 (.br 11 (.br 13 (.br 14 .leaf .nil) .nil) .nil) .nil) .nil) .nil) .nil) .nil) .nil) .nil)) .nil) .nil) .nil) .nil) .nil) (by decide +kernel) (by (first | (refine And.intro (fun iw hiw => ?_) ?_; (focus ((try simp (maxSteps := 1000000) (disch := omega) only [go_sem] at hiw ⊢); (repeat (refine Eq.trans (if_neg ?_) ?_; (focus omega))); exact hw iw (by omega))); (focus (first | exact Nat.zero_le _ | (simp (maxSteps := 1000000) (disch := omega) only [go_sem]; done) | (simp (maxSteps := 1000000) (disch := omega) only [go_sem]; omega)))) | exact wf_a)) (fun K0 hW => ?_)
 refine (fun (tl : ∀ st, Le st (mkSt [(7, .b (.c (.ptr 1 0))), (9, .b (.c (.ptr 2 0))), (10, .b (I 0))] [(1, .fix ((scriptE s).map CV.p)), (2, .fix ((scriptE t).map CV.p))] 3) → K0 st) => ?_) (fun st hl => hW st _ hl ?_)
 ·clear hW
  repeat' (first | exact tree_nil | (refine tree_br (fun K' hK' => ?_) ?_) | (refine tree_leaf (tl _ ?_); clear tl) | ((first | refine call_c (hm) ?_ | refine call_c (hap) ?_); (try simp (maxSteps := 1000000) (disch := omega) only [go_sem]); and_intros; (all_goals first | (refine hK' _ ?_; clear hK' K') | trivial | omega | exact Nat.le_of_ble_eq_true rfl | exact auto_cl | skip)) | (simp (maxSteps := 1000000) (disch := omega) only [go_sem]; and_intros; (all_goals first | (refine hK' _ ?_; clear hK' K') | trivial | omega | exact Nat.le_of_ble_eq_true rfl | exact auto_cl | skip)))
  all_goals
   refine le_a [(1, some 1), (2, some 2)] ?_ ?_
   and_intros
   all_goals first | exact le_cl | skip
 clear hW
 repeat' (first | ((first | refine st_a (fun K hK => ?_) | refine call_c (haw) ?_ | refine call_c (h1) ?_ | refine call_c (h2) ?_ | refine gcall_c (fun hg => h3) ?_); and_intros; (all_goals first | (refine hK _ ?_; clear hK K) | exact auto_cl | skip)) | (refine ret_a ?_; (try clear hB KB); (try clear hK K)))
 rfl
end Go.Proofs.YtlblgkelhibdoaaGreatDoor
