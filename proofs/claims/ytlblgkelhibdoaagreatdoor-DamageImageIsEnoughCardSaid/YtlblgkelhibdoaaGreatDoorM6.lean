/- Part of the proof: F2, F7, T3, T4. -/
import Derived.Test.YtlblgkelhibdoaaGreatDoorM5
set_option linter.unusedSimpArgs false
set_option linter.unusedVariables false
set_option maxRecDepth 16000
namespace Go.Proofs.YtlblgkelhibdoaaGreatDoor
open Go Go.SL
open Go.RowKit (wrap64)
def gSample (n m : Int) : Int :=
 if n % 8 = 0 then 0 else if n % 8 = 1 ∨ n % 8 = 2 then m else if n % 8 = 3 then (m + n.tdiv 8 % 2) / 2
 else if n % 8 = 4 then min m (n.tdiv 8 % 4) else n.tdiv 8 % (m + 1)
theorem gSample_le (n m : Int) (h : 0 ≤ m) : 0 ≤ gSample n m ∧ gSample n m ≤ m := by
 unfold gSample
 have h1 := Int.emod_nonneg (n.tdiv 8) (show m + 1 ≠ 0 by omega)
 have h2 := Int.emod_lt_of_pos (n.tdiv 8) (show 0 < m + 1 by omega)
 split
 ·omega
 split
 ·omega
 split
 ·omega
 split
 ·omega
 ·omega
theorem sample_spec (n m : Int) (hn : i64 n) (hm : u16 m) :
  Pure Sg 65 [I n, U m] (fun r => r = .b (U (gSample n m))) := by
 obtain ⟨hm1, hm2⟩ := hm
 obtain ⟨hn1, hn2⟩ := hn
 have h1 := Int.emod_nonneg (n.tdiv 8) (show m + 1 ≠ 0 by omega)
 have h2 := Int.emod_lt_of_pos (n.tdiv 8) (show 0 < m + 1 by omega)
 refine fn_a Tryz.func65 [.tmp 4] ?_
 repeat' (first | refine un_a ?_ | ((first | refine st_a (fun K hK => ?_) | refine call_c (modp_spec _ _ (by omega) (by omega)) ?_); and_intros; (all_goals first | (refine hK _ ?_; clear hK K) | exact auto_cl | skip)) | ((first | apply cw_ite | apply cw_iteN); (case hf => rfl); (case hc => exact ev_a); (all_goals first | (intro hb; (try simp only [hbs] at hb)) | skip)) | exact atN_intro | (refine if_a (fun hb => ?_) (fun hb => ?_); all_goals try exact bad_a) | (refine ret_a ?_; (try clear hB KB); (try clear hK K)))
 ·rw [gSample, if_pos (by omega)]
 ·rw [gSample, if_neg (by omega), if_pos (by omega)]
 ·rw [gSample, if_neg (by omega), if_neg (by omega), if_pos (by omega)]
 ·have : gSample n m = min m (n.tdiv 8 % 4) := by rw [gSample, if_neg (by omega), if_neg (by omega), if_neg (by omega), if_pos (by omega)]
  rw [this, show (if n.tdiv 8 % 4 < m then n.tdiv 8 % 4 else m) = min m (n.tdiv 8 % 4) by split <;> omega]
 ·rw [gSample, if_neg (by omega), if_neg (by omega), if_neg (by omega), if_neg (by omega)]
def gPixel (n : N5) (m : Int) : Pixel :=
 let f := gSample n.e m
 let a := if n.d % 3 > 0 then gSample (n.d.tdiv 3) f else f
 ⟨gSample n.a a, gSample n.b a, gSample n.c a, a, f⟩
structure N5ok (n : N5) : Prop where
 a : i64 n.a
 b : i64 n.b
 c : i64 n.c
 d : i64 n.d
 e : i64 n.e
theorem pixel_spec (n : N5) (m : Int) (hn : N5ok n) (hm : u16 m) :
  Pure Sg 69 [ag (n5E n), U m] (fun r => r = .b (ag (pixE (gPixel n m)))) := by
 obtain ⟨⟨a1, a2⟩, ⟨b1, b2⟩, ⟨c1, c2⟩, ⟨d1, d2⟩, ⟨e1, e2⟩⟩ := hn
 have hf := gSample_le n.e m hm.1
 have ha' := gSample_le (n.d.tdiv 3) (gSample n.e m) hf.1
 have hd := @tdiv_le n.d 3
 have hd' := @wtdiv n.d 3 d1 d2 (by omega)
 have hd'' := i64_wrap (n.d.tdiv 3)
 rw [hd'] at hd''
 obtain ⟨hm1, hm2⟩ := hm
 refine fn_a Tryz.func69 [.cell 4 52] ?_
 repeat' (first | refine un_a ?_ | ((first | refine st_a (fun K hK => ?_) | refine call_c (modp_spec _ _ (by omega) (by omega)) ?_ | refine call_c (sample_spec _ _ ⟨by omega, by omega⟩ ⟨by omega, by omega⟩) ?_); and_intros; (all_goals first | (refine hK _ ?_; clear hK K) | exact auto_cl | skip)) | (apply cw_ite; (case hf => rfl); (case hc => exact ev_a); (all_goals first | (intro hb; (try simp only [hbs] at hb)) | skip)) | exact atN_intro | (refine ret_a ?_; (try clear hB KB); (try clear hK K)))
 ·simp only [gPixel, gt_iff_lt]; rfl
def gOffset (n c : Int) : Int := if n % 3 = 0 then c else c + n.tdiv 3 % 9 - 4
theorem offset_spec (n c : Int) (hn : i64 n) (hc1 : -2000000000 ≤ c) (hc2 : c ≤ 2000000000) :
  Pure Sg 64 [I n, I c] (fun r => r = .b (I (gOffset n c))) := by
 obtain ⟨hn1, hn2⟩ := hn
 refine fn_a Tryz.func64 [.tmp 4] ?_
 repeat' (first | refine un_a ?_ | ((first | refine st_a (fun K hK => ?_) | refine call_c (modp_spec _ _ (by omega) (by omega)) ?_); and_intros; (all_goals first | (refine hK _ ?_; clear hK K) | exact auto_cl | skip)) | (refine if_a (fun hb => ?_) (fun hb => ?_); all_goals try exact bad_a) | (refine ret_a ?_; (try clear hB KB); (try clear hK K)))
 ·rw [gOffset, if_pos hb]
 ·rw [gOffset, if_neg hb]
end Go.Proofs.YtlblgkelhibdoaaGreatDoor
set_option maxHeartbeats 1000000
set_option maxRecDepth 16000
namespace Go.Proofs.YtlblgkelhibdoaaGreatDoor
open Go Go.SL
open Go.RowKit (wrap64)
def withinM (k : Int) (l : List Int) : Bool := l.all fun v => decide (-k ≤ v ∧ v ≤ k)
theorem within_spec (k : Int) (l : List Int) (hk : 0 ≤ k) (hk2 : k ≤ 9223372036854775807) (hl : l.length ≤ 4611686018427387904) : Pure Sg 75 [I k, .c (.p (ints l))] (fun x => x = .b (B (withinM k l))) := by
 refine fn_a Tryz.func75 [.tmp 4] ?_
 repeat' (first | refine un_a ?_ | (refine st_a (fun K hK => ?_); and_intros; (all_goals first | (refine hK _ ?_; clear hK K) | exact auto_cl | skip)))
 refine cw_loop (X := Nat) (fun i => mkSt [(0, .b (I k)), (7, .b (.c (.p (ints l)))), (8, .b (I l.length)), (9, .b (I i))] [] 1) (fun i => i ≤ l.length ∧ (l.take i).all (fun v => decide (-k ≤ v ∧ v ≤ k)) = true) (fun i => l.length - i) 0 ?_ ?_ ?_
 ·exact ⟨by omega, rfl⟩
 ·refine le_a [] ?_ ?_
  and_intros
  all_goals first | exact le_cl | skip
 ·rintro i ⟨hi, ht⟩
  repeat' (first | refine un_a ?_ | (refine st_a (fun K hK => ?_); and_intros; (all_goals first | (refine hK _ ?_; clear hK K) | exact auto_cl | skip)) | (refine if_a (fun hb => ?_) (fun hb => ?_); all_goals try exact bad_a) | (refine ret_a ?_; (try clear hB KB); (try clear hK K)))
  ·have : withinM k l = false := by
    rw [withinM, List.all_eq_false]
    refine ⟨l.getD i default, ?_, ?_⟩
    ·rw [List.getD_eq_getElem?_getD, List.getElem?_eq_getElem (by omega)]; exact List.getElem_mem _
    ·simp only [decide_eq_true_eq]; simp only [Int.toNat_natCast] at hb; omega
   rw [this]
  ·rw [thenQ_normal]
   refine wk_loop (i + 1) ?_ ⟨by omega, ?_⟩ (by omega)
   ·refine le_a [] ?_ ?_
    and_intros
    all_goals first | exact le_cl | skip
   ·rw [List.take_add_one, List.all_append, ht, List.getElem?_eq_getElem (by omega)]
    simp only [Int.toNat_natCast, List.getD_eq_getElem?_getD, List.getElem?_eq_getElem (show i < l.length by omega), Option.getD_some] at hb
    simp only [Option.toList_some, List.all_cons, List.all_nil, Bool.and_true, Bool.true_and, decide_eq_true_eq]
    omega
  ·have : withinM k l = true := by
    rw [withinM]
    rwa [List.take_of_length_le (by omega)] at ht
   rw [this]
theorem rvalid_spec (r : Rect) : Pure Sg 129 [ag (rectE r)] (fun x => x = .b (B (validR r))) := by
 refine fn_a Tryz.func129 [.tmp 2] ?_
 repeat' (refine st_a (fun K hK => ?_); and_intros; (all_goals first | (refine hK _ ?_; clear hK K) | exact auto_cl | skip))
 refine call_lends ?_ ?_ (by simp (maxSteps := 1000000) (disch := omega) only [go_sem]) ?_ (within_spec 1073741824 [r.x0, r.y0, r.x1, r.y1] (by omega) (by omega) (by simp))
 try simp (maxSteps := 1000000) (disch := omega) only [go_sem]
 try (refine hK _ ?_; clear hK K)
 ·first | refine cw_rets ?_ | refine cw_ret ?_
  simp (maxSteps := 1000000) (disch := omega) only [go_sem]
  refine bool_eq ?_
  simp only [withinM, validR, List.all_cons, List.all_nil, Bool.and_true, Bool.and_eq_true, decide_eq_true_eq]
  omega
 ·simp (maxSteps := 1000000) (disch := omega) only [go_sem, argsLe_cons, argsLe_nil]
  refine ⟨bvle_refl, bvle_p (lst_le fun i hi j hj => ?_)⟩
  have h1 : i = 0 ∨ i = 1 ∨ i = 2 ∨ i = 3 := by omega
  have h2 : j = 0 := by omega
  subst h2
  rcases h1 with rfl | rfl | rfl | rfl <;> rfl
 ·trivial
theorem rempty_spec (r : Rect) : Pure Sg 73 [ag (rectE r)] (fun x => x = .b (B (emptyR r))) := by
 refine fn_a Tryz.func73 [.tmp 2] ?_
 repeat' (first | ((first | refine st_a (fun K hK => ?_) | refine call_c (rvalid_spec _) ?_); and_intros; (all_goals first | (refine hK _ ?_; clear hK K) | exact auto_cl | skip)) | (refine ret_a ?_; (try clear hB KB); (try clear hK K)))
 refine bool_eq ?_
 simp only [emptyR, Bool.or_eq_true, decide_eq_true_eq, ge_iff_le, or_assoc]
theorem rclean_spec (r : Rect) : Pure Sg 74 [ag (rectE r)] (fun x => x = .b (ag (rectE (cleanR r)))) := by
 refine fn_a Tryz.func74 [.cell 2 32] ?_
 repeat' (first | refine un_a ?_ | ((first | refine st_a (fun K hK => ?_) | refine call_c (rempty_spec _) ?_); and_intros; (all_goals first | (refine hK _ ?_; clear hK K) | exact auto_cl | skip)) | (refine if_a (fun hb => ?_) (fun hb => ?_); all_goals try exact bad_a) | (refine ret_a ?_; (try clear hB KB); (try clear hK K)))
 ·rw [cleanR, if_pos hb]; rfl
 ·rw [cleanR, if_neg (by simp [hb])]; rfl
theorem rarea_spec (r : Rect) : Pure Sg 121 [ag (rectE r)] (fun x => x = .b (I (areaR r))) := by
 refine fn_a Tryz.func121 [.tmp 2] ?_
 repeat' (first | ((first | refine st_a (fun K hK => ?_) | refine call_c (rclean_spec _) ?_); and_intros; (all_goals first | (refine hK _ ?_; clear hK K) | exact auto_cl | skip)) | (refine ret_a ?_; (try clear hB KB); (try clear hK K)))
 rw [area_wrap]
def ruleE (o : Int) : List PV := if 1 ≤ o ∧ o ≤ 12 then [gv_compositor_operator_rules.getD (o.toNat * 4) .any, gv_compositor_operator_rules.getD (o.toNat * 4 + 1) .any, gv_compositor_operator_rules.getD (o.toNat * 4 + 2) .any, gv_compositor_operator_rules.getD (o.toNat * 4 + 3) .any]
 else [.val (.string ⟨#[]⟩), PI 0, PI 0, PI 0]
theorem find_spec (o : Int) : Pure Sg 154 [I o] (fun x => x = .tup [ag (ruleE o), B (decide (1 ≤ o ∧ o ≤ 12))]) := by
 refine fn_a Tryz.func154 [.cell 2 220, .tmp 3] ?_
 repeat' (first | refine un_a ?_ | (refine st_a (fun K hK => ?_); and_intros; (all_goals first | (refine hK _ ?_; clear hK K) | exact auto_cl | skip)) | (refine if_a (fun hb => ?_) (fun hb => ?_); all_goals try exact bad_a) | (refine ret_a ?_; (try clear hB KB); (try clear hK K)))
 ·rw [ruleE, if_neg (by omega), decide_eq_false (by omega)]; rfl
 ·rw [ruleE, if_pos (by omega), decide_eq_true (by omega)]; simp only [Nat.zero_add, Nat.add_zero]; rfl
def opNm (o : Int) : ByteArray := match (ruleE o).getD 0 .any with
 | .val (.string s) => s
 | _ => ⟨#[]⟩
theorem opNm_spec (o : Int) : ∃ a b c, ruleE o = [.val (.string (opNm o)), PI a, PI b, PI c] ∧ ((opNm o).toList == (ByteArray.mk #[]).toList) = !decide (1 ≤ o ∧ o ≤ 12) := by
 by_cases h : 1 ≤ o ∧ o ≤ 12
 ·have : o = 1 ∨ o = 2 ∨ o = 3 ∨ o = 4 ∨ o = 5 ∨ o = 6 ∨ o = 7 ∨ o = 8 ∨ o = 9 ∨ o = 10 ∨ o = 11 ∨ o = 12 := by omega
  rcases this with rfl | rfl | rfl | rfl | rfl | rfl | rfl | rfl | rfl | rfl | rfl | rfl <;> exact ⟨_, _, _, rfl, by decide +kernel⟩
 ·have e : ruleE o = [.val (.string ⟨#[]⟩), PI 0, PI 0, PI 0] := by rw [ruleE, if_neg h]
  refine ⟨0, 0, 0, ?_, ?_⟩
  ·rw [opNm, e]; rfl
  ·rw [opNm, e, decide_eq_false h]; decide +kernel
theorem opName_spec (o : Int) : Pure Sg 126 [I o] (fun x => x = .b (.c (.p (.val (.string (opNm o)))))) := by
 obtain ⟨a, b, c, he, _⟩ := opNm_spec o
 have hf := find_spec o
 rw [he] at hf
 refine fn_a Tryz.func126 [.tmp 2] ?_
 repeat' (first | with_reducible exact tr_a | ((first | refine st_a (fun K hK => ?_) | refine call_c (hf) ?_); and_intros; (all_goals first | (refine hK _ ?_; clear hK K) | exact auto_cl | skip)) | (refine ret_a ?_; (try clear hB KB); (try clear hK K)))
def isOp (o : Int) : Bool := decide (1 ≤ o ∧ o ≤ 12)
def bNm (m : Int) : ByteArray := match gv_compositor_blend_names.getD m.toNat .any with
 | .val (.string s) => s
 | _ => ⟨#[]⟩
theorem bNm_spec (m : Int) (h : 1 ≤ m ∧ m ≤ 12) : gv_compositor_blend_names.getD m.toNat .any = .val (.string (bNm m)) ∧ ((bNm m).toList == (ByteArray.mk #[]).toList) = false := by
 have : m = 1 ∨ m = 2 ∨ m = 3 ∨ m = 4 ∨ m = 5 ∨ m = 6 ∨ m = 7 ∨ m = 8 ∨ m = 9 ∨ m = 10 ∨ m = 11 ∨ m = 12 := by omega
 rcases this with rfl | rfl | rfl | rfl | rfl | rfl | rfl | rfl | rfl | rfl | rfl | rfl <;> exact ⟨rfl, by decide +kernel⟩
def blNm (m : Int) : ByteArray := if 1 ≤ m ∧ m ≤ 12 then bNm m else ⟨#[]⟩
theorem blNm_empty (m : Int) : ((blNm m).toList == (ByteArray.mk #[]).toList) = !isOp m := by
 by_cases h : 1 ≤ m ∧ m ≤ 12
 ·rw [blNm, if_pos h, (bNm_spec m h).2, isOp, decide_eq_true h]; rfl
 ·rw [blNm, if_neg h, isOp, decide_eq_false h]; decide +kernel
theorem blendName_spec (m : Int) : Pure Sg 127 [I m] (fun x => x = .b (.c (.p (.val (.string (blNm m)))))) := by
 refine fn_a Tryz.func127 [.tmp 2] ?_
 repeat' (first | refine un_a ?_ | ((first | refine st_a (fun K hK => ?_) | refine call_c (bvalid_spec _) ?_); and_intros; (all_goals first | (refine hK _ ?_; clear hK K) | exact auto_cl | skip)) | (refine if_a (fun hb => ?_) (fun hb => ?_); all_goals try exact bad_a) | (refine ret_a ?_; (try clear hB KB); (try clear hK K)))
 ·rw [blNm, if_neg (by omega)]
 ·rw [blNm, if_pos (by omega)]
  have h := bNm_spec m (by omega)
  simp only [Nat.zero_add, Nat.mul_one, Nat.add_zero]
  rw [h.1]
theorem r06op_spec (o : Int) : Pure Sg 173 [I o] (fun x => x = .b (.c (.p (.val (.string (opNm o)))))) := by
 refine fn_a Tryz.func173 [.tmp 2] ?_
 repeat' (first | refine un_a ?_ | (refine st_a (fun K hK => ?_); and_intros; (all_goals first | (refine hK _ ?_; clear hK K) | exact auto_cl | skip)) | (refine if_a (fun hb => ?_) (fun hb => ?_); all_goals try exact bad_a) | (refine ret_a ?_; (try clear hB KB); (try clear hK K)))
 ·rw [opNm, ruleE, if_neg (by omega)]; rfl
 ·have : o = 1 ∨ o = 2 ∨ o = 3 ∨ o = 4 ∨ o = 5 ∨ o = 6 ∨ o = 7 ∨ o = 8 ∨ o = 9 ∨ o = 10 ∨ o = 11 ∨ o = 12 := by omega
  rcases this with rfl | rfl | rfl | rfl | rfl | rfl | rfl | rfl | rfl | rfl | rfl | rfl <;> rfl
theorem r06mode_spec (o : Int) : Pure Sg 174 [I o] (fun x => x = .b (.c (.p (.val (.string (blNm o)))))) := by
 refine fn_a Tryz.func174 [.tmp 2] ?_
 repeat' (first | refine un_a ?_ | (refine st_a (fun K hK => ?_); and_intros; (all_goals first | (refine hK _ ?_; clear hK K) | exact auto_cl | skip)) | (refine if_a (fun hb => ?_) (fun hb => ?_); all_goals try exact bad_a) | (refine ret_a ?_; (try clear hB KB); (try clear hK K)))
 ·rw [blNm, if_neg (by omega)]
 ·have : o = 1 ∨ o = 2 ∨ o = 3 ∨ o = 4 ∨ o = 5 ∨ o = 6 ∨ o = 7 ∨ o = 8 ∨ o = 9 ∨ o = 10 ∨ o = 11 ∨ o = 12 := by omega
  rcases this with rfl | rfl | rfl | rfl | rfl | rfl | rfl | rfl | rfl | rfl | rfl | rfl <;> rfl
theorem isOp_spec (o : Int) : Pure Sg 164 [I o] (fun x => x = .b (B (isOp o))) := by
 obtain ⟨_, _, _, _, h⟩ := opNm_spec o
 refine fn_a Tryz.func164 [.tmp 2] ?_
 repeat' (first | ((first | refine st_a (fun K hK => ?_) | refine call_c (r06op_spec _) ?_); and_intros; (all_goals first | (refine hK _ ?_; clear hK K) | exact auto_cl | skip)) | (refine ret_a ?_; (try clear hB KB); (try clear hK K)))
 refine bool_eq ?_
 rw [h]; simp [isOp]
theorem isMode_spec (o : Int) : Pure Sg 165 [I o] (fun x => x = .b (B (isOp o))) := by
 have h := blNm_empty o
 refine fn_a Tryz.func165 [.tmp 2] ?_
 repeat' (first | ((first | refine st_a (fun K hK => ?_) | refine call_c (r06mode_spec _) ?_); and_intros; (all_goals first | (refine hK _ ?_; clear hK K) | exact auto_cl | skip)) | (refine ret_a ?_; (try clear hB KB); (try clear hK K)))
 refine bool_eq ?_
 rw [h]; simp [isOp]
end Go.Proofs.YtlblgkelhibdoaaGreatDoor
namespace Go.Proofs.YtlblgkelhibdoaaGreatDoor
theorem facA_bd {op a b m : Int} (ha : 0 ≤ a) (ham : a ≤ m) (hb : 0 ≤ b) (hbm : b ≤ m) : 0 ≤ facA op a b m ∧ facA op a b m ≤ m := by
 unfold facA; repeat' split
 all_goals omega
theorem facB_bd {op a b m : Int} (ha : 0 ≤ a) (ham : a ≤ m) (hb : 0 ≤ b) (hbm : b ≤ m) : 0 ≤ facB op a b m ∧ facB op a b m ≤ m := by
 unfold facB; repeat' split
 all_goals omega
theorem ex_ok {x : Ex} {A : Int} (p0 : 0 ≤ x.p) (q0 : 0 ≤ x.q) (q1 : x.q < 70368744177664) (r0 : 0 ≤ x.r) (r1 : x.r < 8589934592) (d0 : 1 ≤ x.d) (d1 : x.d < 18446744073709551616)
  (pA : x.p ≤ A) (sq : x.q * x.q * x.r ≤ (A - x.p) * (A - x.p)) (hA : A ≤ 131072 * x.d) : ExOk x := by
 refine ⟨p0, by omega, q0, q1, r0, r1, d0, d1, ?_⟩
 simp only [geX, decide_eq_false_iff_not, Int.one_mul]
 rintro (h | h)
 ·omega
 ·have h1 : (A - x.p + 1) * (A - x.p + 1) ≤ (4611686018427387904 * x.d - x.p) * (4611686018427387904 * x.d - x.p) := sq_mono (by omega) (by omega)
  have e : (A - x.p + 1) * (A - x.p + 1) = (A - x.p) * (A - x.p) + 2 * (A - x.p) + 1 := by grind
  omega
theorem m_sq {m : Int} (hm : Full m) : m * m ≤ 4294836225 ∧ 1 ≤ m * m := by
 rcases hm.h with rfl | rfl <;> decide
section
variable {op mode m cs sl cb ab : Int}
def valN (op m sl ab : Int) : Int := facA op sl ab m * sl + facB op sl ab m * ab
theorem valN_bd (hm : Full m) (h1 : 0 ≤ sl) (h2 : sl ≤ m) (h3 : 0 ≤ ab) (h4 : ab ≤ m) : 0 ≤ valN op m sl ab ∧ valN op m sl ab ≤ 131070 * m := by
 have ⟨a1, a2⟩ := facA_bd (op := op) h1 h2 h3 h4
 have ⟨b1, b2⟩ := facB_bd (op := op) h1 h2 h3 h4
 have hle := hm.le
 have e1 : facA op sl ab m * sl ≤ m * 65535 := mul_lr a2 (by omega) h1 (by omega)
 have e2 : facB op sl ab m * ab ≤ m * 65535 := mul_lr b2 (by omega) h3 (by omega)
 have e3 := mul_nn a1 h1
 have e4 := mul_nn b1 h3
 unfold valN; omega
theorem value_bd (hm : Full m) (hs : Pre cs sl m) (hd : Pre cb ab m) :
  0 ≤ (valueX op mode m cs sl cb ab).p ∧ (valueX op mode m cs sl cb ab).p ≤ valN op m sl ab * m * (blendX mode cs sl cb ab).d ∧
   (valueX op mode m cs sl cb ab).q * (valueX op mode m cs sl cb ab).q * (valueX op mode m cs sl cb ab).r ≤
    (valN op m sl ab * m * (blendX mode cs sl cb ab).d - (valueX op mode m cs sl cb ab).p) * (valN op m sl ab * m * (blendX mode cs sl cb ab).d - (valueX op mode m cs sl cb ab).p) := by
 have ht := term_ok (mode := mode) hm hs hd
 obtain ⟨s0, sa, am⟩ := hs
 obtain ⟨d0, db, bm⟩ := hd
 have ⟨a1, a2⟩ := facA_bd (op := op) (show 0 ≤ sl by omega) am (show 0 ≤ ab by omega) bm
 have ⟨b1, b2⟩ := facB_bd (op := op) (show 0 ≤ sl by omega) am (show 0 ≤ ab by omega) bm
 have hp := hm.pos
 obtain ⟨p0, q0, q1, r0, r1, dd0, dd1, ple, psq⟩ := ht
 unfold valueX valN
 generalize blendX mode cs sl cb ab = t at *
 generalize facA op sl ab m = fa at *
 generalize facB op sl ab m = fb at *
 dsimp only
 have k1 : 0 ≤ fa * ((m - ab) * (sl - cs) * t.d) := mul_nn a1 (mul_nn (mul_nn (by omega) (by omega)) (by omega))
 have k2 : 0 ≤ fb * ((ab - cb) * m * t.d) := mul_nn b1 (mul_nn (mul_nn (by omega) (by omega)) (by omega))
 have k3 : 0 ≤ fa * (sl * ab * t.d - t.p) := mul_nn a1 (by omega)
 have e : (fa * sl + fb * ab) * m * t.d - (t.p * fa + (m - ab) * cs * fa * t.d + fb * cb * m * t.d) = fa * (sl * ab * t.d - t.p) + fa * ((m - ab) * (sl - cs) * t.d) + fb * ((ab - cb) * m * t.d) := by grind
 refine ⟨?_, by omega, ?_⟩
 ·exact Int.add_nonneg (Int.add_nonneg (mul_nn p0 a1) (mul_nn (mul_nn (mul_nn (by omega) s0) a1) (by omega))) (mul_nn (mul_nn (mul_nn b1 d0) (by omega)) (by omega))
 ·rw [e]
  have h1 : fa * (sl * ab * t.d - t.p) * (fa * (sl * ab * t.d - t.p)) ≤ (fa * (sl * ab * t.d - t.p) + fa * ((m - ab) * (sl - cs) * t.d) + fb * ((ab - cb) * m * t.d)) * (fa * (sl * ab * t.d - t.p) + fa * ((m - ab) * (sl - cs) * t.d) + fb * ((ab - cb) * m * t.d)) :=
   sq_mono k3 (by omega)
  refine Int.le_trans ?_ h1
  have h2 := Int.mul_le_mul_of_nonneg_left psq (sq_nn fa)
  have e2 : fa * t.q * (fa * t.q) * t.r = fa * fa * (t.q * t.q * t.r) := by grind
  have e3 : fa * (sl * ab * t.d - t.p) * (fa * (sl * ab * t.d - t.p)) = fa * fa * ((sl * ab * t.d - t.p) * (sl * ab * t.d - t.p)) := by grind
  rw [e2, e3]; exact h2
theorem value_ok (hm : Full m) (hs : Pre cs sl m) (hd : Pre cb ab m) : ExOk (valueX op mode m cs sl cb ab) := by
 obtain ⟨v0, v1, v2⟩ := value_bd (op := op) (mode := mode) hm hs hd
 have ht := term_ok (mode := mode) hm hs hd
 have ⟨n0, n1⟩ := valN_bd (op := op) hm (show 0 ≤ sl by have := hs.s0; have := hs.sa; omega) hs.am (show 0 ≤ ab by have := hd.s0; have := hd.sa; omega) hd.am
 have ⟨a1, a2⟩ := facA_bd (op := op) (show 0 ≤ sl by have := hs.s0; have := hs.sa; omega) hs.am (show 0 ≤ ab by have := hd.s0; have := hd.sa; omega) hd.am
 have hmle := hm.le
 have hp := hm.pos
 obtain ⟨mm1, mm2⟩ := m_sq hm
 refine ex_ok v0 ?_ ?_ ht.r0 ?_ ?_ ?_ v1 v2 ?_
 ·exact mul_nn a1 ht.q0
 ·show facA op sl ab m * (blendX mode cs sl cb ab).q < _
  have : facA op sl ab m * (blendX mode cs sl cb ab).q ≤ 65535 * 65535 := mul_lr (by omega) ht.q1 ht.q0 (by omega)
  omega
 ·have := ht.r1
  show (blendX mode cs sl cb ab).r < _
  omega
 ·show 1 ≤ m * m * (blendX mode cs sl cb ab).d
  have : 1 * 1 ≤ m * m * (blendX mode cs sl cb ab).d := mul_lr mm2 ht.d0 (by omega) (by omega)
  omega
 ·show m * m * (blendX mode cs sl cb ab).d < _
  have : m * m * (blendX mode cs sl cb ab).d ≤ 4294836225 * 4294836225 := mul_lr mm1 ht.d1 (by have := ht.d0; omega) (by omega)
  omega
 ·show valN op m sl ab * m * (blendX mode cs sl cb ab).d ≤ 131072 * (m * m * (blendX mode cs sl cb ab).d)
  have hd0 := ht.d0
  generalize (blendX mode cs sl cb ab).d = D at *
  have e1 : valN op m sl ab * m * D ≤ 131070 * m * m * D := mul_lr (mul_lr n1 (Int.le_refl _) (by omega) (by omega)) (Int.le_refl _) (by omega) (mul_nn (by omega) (by omega))
  have e2 : 131070 * m * m * D = 131070 * (m * m * D) := by grind
  have e3 : 0 ≤ m * m * D := mul_nn (by omega) (by omega)
  omega
theorem color_nn (hm : Full m) (hs : Pre cs sl m) (hd : Pre cb ab m) : 0 ≤ colorM op mode m cs sl cb ab := (hx_spec (value_ok hm hs hd)).2.2
theorem color_le (hm : Full m) (hs : Pre cs sl m) (hd : Pre cb ab m) : colorM op mode m cs sl cb ab ≤ alphaM op sl ab m := by
 obtain ⟨v0, v1, v2⟩ := value_bd (op := op) (mode := mode) hm hs hd
 refine hx_le (value_ok hm hs hd) hm.pos ?_ ?_
 ·show (valueX op mode m cs sl cb ab).p * m ≤ valN op m sl ab * (m * m * (blendX mode cs sl cb ab).d)
  have := Int.mul_le_mul_of_nonneg_right v1 (Int.le_of_lt hm.pos)
  grind
 ·have e : valN op m sl ab * (m * m * (blendX mode cs sl cb ab).d) - (valueX op mode m cs sl cb ab).p * m = (valN op m sl ab * m * (blendX mode cs sl cb ab).d - (valueX op mode m cs sl cb ab).p) * m := by grind
  show (valueX op mode m cs sl cb ab).q * (valueX op mode m cs sl cb ab).q * (valueX op mode m cs sl cb ab).r * (m * m) ≤ (valN op m sl ab * (m * m * (blendX mode cs sl cb ab).d) - (valueX op mode m cs sl cb ab).p * m) * (valN op m sl ab * (m * m * (blendX mode cs sl cb ab).d) - (valueX op mode m cs sl cb ab).p * m)
  rw [e]
  have := Int.mul_le_mul_of_nonneg_right v2 (sq_nn m)
  have e2 : ∀ u : Int, u * m * (u * m) = u * u * (m * m) := fun u => by grind
  rw [e2]; exact this
variable {fs c acc : Int}
def knN (m fs sl acc ab : Int) : Int := (m - fs) * acc + (fs - sl) * ab + m * sl
theorem knock_bd (hm : Full m) (hs : Pre cs sl m) (hd : Pre cb ab m) (hf : sl ≤ fs) (hfm : fs ≤ m) (hc : 0 ≤ c) (hca : c ≤ acc) :
  0 ≤ (knockX mode m cs sl fs c cb ab).p ∧ (knockX mode m cs sl fs c cb ab).p ≤ knN m fs sl acc ab * (blendX mode cs sl cb ab).d ∧
   (knockX mode m cs sl fs c cb ab).q * (knockX mode m cs sl fs c cb ab).q * (knockX mode m cs sl fs c cb ab).r ≤
    (knN m fs sl acc ab * (blendX mode cs sl cb ab).d - (knockX mode m cs sl fs c cb ab).p) * (knN m fs sl acc ab * (blendX mode cs sl cb ab).d - (knockX mode m cs sl fs c cb ab).p) := by
 have ht := term_ok (mode := mode) hm hs hd
 obtain ⟨s0, sa, am⟩ := hs
 obtain ⟨d0, db, bm⟩ := hd
 have hp := hm.pos
 obtain ⟨p0, q0, q1, r0, r1, dd0, dd1, ple, psq⟩ := ht
 unfold knockX knN
 generalize blendX mode cs sl cb ab = t at *
 dsimp only
 have k1 : 0 ≤ (m - fs) * (acc - c) * t.d := mul_nn (mul_nn (by omega) (by omega)) (by omega)
 have k2 : 0 ≤ (fs - sl) * (ab - cb) * t.d := mul_nn (mul_nn (by omega) (by omega)) (by omega)
 have k3 : 0 ≤ (m - ab) * (sl - cs) * t.d := mul_nn (mul_nn (by omega) (by omega)) (by omega)
 have e : ((m - fs) * acc + (fs - sl) * ab + m * sl) * t.d - (t.p + ((m - fs) * c + (fs - sl) * cb + (m - ab) * cs) * t.d) = (sl * ab * t.d - t.p) + (m - fs) * (acc - c) * t.d + (fs - sl) * (ab - cb) * t.d + (m - ab) * (sl - cs) * t.d := by grind
 refine ⟨?_, by omega, ?_⟩
 ·exact Int.add_nonneg p0 (mul_nn (Int.add_nonneg (Int.add_nonneg (mul_nn (by omega) hc) (mul_nn (by omega) d0)) (mul_nn (by omega) s0)) (by omega))
 ·rw [e]
  exact Int.le_trans psq (sq_mono (by omega) (by omega))
theorem knN_bd (hm : Full m) (h1 : 0 ≤ sl) (h2 : sl ≤ fs) (h3 : fs ≤ m) (h4 : 0 ≤ acc) (h5 : acc ≤ m) (h6 : 0 ≤ ab) (h7 : ab ≤ m) : 0 ≤ knN m fs sl acc ab ∧ knN m fs sl acc ab ≤ m * m := by
 have k1 : 0 ≤ (m - fs) * (m - acc) := mul_nn (by omega) (by omega)
 have k2 : 0 ≤ (fs - sl) * (m - ab) := mul_nn (by omega) (by omega)
 have k4 : 0 ≤ (m - fs) * acc := mul_nn (by omega) h4
 have k5 : 0 ≤ (fs - sl) * ab := mul_nn (by omega) h6
 have k6 : 0 ≤ m * sl := mul_nn (by omega) h1
 have e : m * m - ((m - fs) * acc + (fs - sl) * ab + m * sl) = (m - fs) * (m - acc) + (fs - sl) * (m - ab) := by grind
 unfold knN; omega
theorem knock_ok (hm : Full m) (hs : Pre cs sl m) (hd : Pre cb ab m) (hf : sl ≤ fs) (hfm : fs ≤ m) (hc : 0 ≤ c) (hcm : c ≤ m) : ExOk (knockX mode m cs sl fs c cb ab) := by
 obtain ⟨v0, v1, v2⟩ := knock_bd (mode := mode) (acc := m) hm hs hd hf hfm hc hcm
 have ht := term_ok (mode := mode) hm hs hd
 have hp := hm.pos
 have hle := hm.le
 have ⟨n0, n1⟩ := knN_bd (acc := m) hm (show 0 ≤ sl by have := hs.s0; have := hs.sa; omega) hf hfm (by omega) (Int.le_refl _) (show 0 ≤ ab by have := hd.s0; have := hd.sa; omega) hd.am
 refine ex_ok v0 ht.q0 ?_ ht.r0 ?_ ?_ ?_ v1 v2 ?_
 ·have := ht.q1
  show (blendX mode cs sl cb ab).q < _
  omega
 ·have := ht.r1
  show (blendX mode cs sl cb ab).r < _
  omega
 ·show 1 ≤ m * (blendX mode cs sl cb ab).d
  have : 1 * 1 ≤ m * (blendX mode cs sl cb ab).d := mul_lr hp ht.d0 (by omega) (by omega)
  omega
 ·show m * (blendX mode cs sl cb ab).d < _
  have : m * (blendX mode cs sl cb ab).d ≤ 65535 * 4294836225 := mul_lr hle ht.d1 (by have := ht.d0; omega) (by omega)
  omega
 ·show knN m fs sl m ab * (blendX mode cs sl cb ab).d ≤ 131072 * (m * (blendX mode cs sl cb ab).d)
  have hd0 := ht.d0
  generalize (blendX mode cs sl cb ab).d = D at *
  have e1 : knN m fs sl m ab * D ≤ 65535 * m * D := mul_lr (Int.le_trans n1 (mul_lr hle (Int.le_refl _) (by omega) (by omega))) (Int.le_refl _) (by omega) (by omega)
  have e2 : 65535 * m * D = 65535 * (m * D) := Int.mul_assoc _ _ _
  have e3 : 0 ≤ m * D := mul_nn (by omega) (by omega)
  omega
theorem knock_nn (hm : Full m) (hs : Pre cs sl m) (hd : Pre cb ab m) (hf : sl ≤ fs) (hfm : fs ≤ m) (hc : 0 ≤ c) (hcm : c ≤ m) : 0 ≤ knockC mode m cs sl fs c cb ab := (hx_spec (knock_ok hm hs hd hf hfm hc hcm)).2.2
theorem knock_le (hm : Full m) (hs : Pre cs sl m) (hd : Pre cb ab m) (hf : sl ≤ fs) (hfm : fs ≤ m) (hc : 0 ≤ c) (hca : c ≤ acc) (ham : acc ≤ m) : knockC mode m cs sl fs c cb ab ≤ knockA m sl fs acc ab := by
 obtain ⟨v0, v1, v2⟩ := knock_bd (mode := mode) hm hs hd hf hfm hc hca
 refine hx_le (knock_ok hm hs hd hf hfm hc (by omega)) hm.pos ?_ ?_
 ·show (knockX mode m cs sl fs c cb ab).p * m ≤ knN m fs sl acc ab * (m * (blendX mode cs sl cb ab).d)
  have := Int.mul_le_mul_of_nonneg_right v1 (Int.le_of_lt hm.pos)
  grind
 ·have e : knN m fs sl acc ab * (m * (blendX mode cs sl cb ab).d) - (knockX mode m cs sl fs c cb ab).p * m = (knN m fs sl acc ab * (blendX mode cs sl cb ab).d - (knockX mode m cs sl fs c cb ab).p) * m := by grind
  show (knockX mode m cs sl fs c cb ab).q * (knockX mode m cs sl fs c cb ab).q * (knockX mode m cs sl fs c cb ab).r * (m * m) ≤ (knN m fs sl acc ab * (m * (blendX mode cs sl cb ab).d) - (knockX mode m cs sl fs c cb ab).p * m) * (knN m fs sl acc ab * (m * (blendX mode cs sl cb ab).d) - (knockX mode m cs sl fs c cb ab).p * m)
  rw [e]
  have := Int.mul_le_mul_of_nonneg_right v2 (sq_nn m)
  have e2 : ∀ u : Int, u * m * (u * m) = u * u * (m * m) := fun u => by grind
  rw [e2]; exact this
end
end Go.Proofs.YtlblgkelhibdoaaGreatDoor
namespace Go.Proofs.YtlblgkelhibdoaaGreatDoor
section
variable {op m a b f g : Int}
theorem alpha_nn (hm : Full m) (ha : 0 ≤ a) (ham : a ≤ m) (hb : 0 ≤ b) (hbm : b ≤ m) : 0 ≤ alphaM op a b m := by
 have ⟨a1, a2⟩ := facA_bd (op := op) ha ham hb hbm
 have ⟨b1, b2⟩ := facB_bd (op := op) ha ham hb hbm
 exact half_nonneg hm.pos (Int.add_nonneg (mul_nn a1 ha) (mul_nn b1 hb))
def shN (op f g m : Int) : Int :=
 if op = 2 ∨ op = 8 ∨ op = 11 then m * f else if op = 3 ∨ op = 9 ∨ op = 10 then m * g else if op = 4 ∨ op = 5 ∨ op = 12 then m * f + (m - f) * g
 else if op = 6 ∨ op = 7 then f * g else 0
theorem shape_half (hm : Full m) : shapeM op f g m = half (shN op f g m) m := by
 unfold shapeM shN
 repeat' split
 all_goals first | rfl | exact (half_mul hm.pos).symm | exact (half_zero hm.pos).symm
theorem shN_bd (hf : 0 ≤ f) (hfm : f ≤ m) (hg : 0 ≤ g) (hgm : g ≤ m) : 0 ≤ shN op f g m ∧ shN op f g m ≤ m * m := by
 have k1 : 0 ≤ m * f := mul_nn (by omega) hf
 have k2 : 0 ≤ m * g := mul_nn (by omega) hg
 have k3 : 0 ≤ (m - f) * g := mul_nn (by omega) hg
 have k4 : 0 ≤ f * g := mul_nn hf hg
 have k5 : m * f ≤ m * m := mul_lr (Int.le_refl _) hfm hf (by omega)
 have k6 : m * g ≤ m * m := mul_lr (Int.le_refl _) hgm hg (by omega)
 have k7 : (m - f) * g ≤ (m - f) * m := mul_lr (Int.le_refl _) hgm hg (by omega)
 have k8 : f * g ≤ m * m := mul_lr hfm hgm hg (by omega)
 have e : (m - f) * m = m * m - m * f := by grind
 have k9 : 0 ≤ m * m := mul_nn (by omega) (by omega)
 unfold shN
 repeat' split
 all_goals omega
theorem shape_bd (hm : Full m) (hf : 0 ≤ f) (hfm : f ≤ m) (hg : 0 ≤ g) (hgm : g ≤ m) : 0 ≤ shapeM op f g m ∧ shapeM op f g m ≤ m := by
 rw [shape_half hm]
 obtain ⟨h1, h2⟩ := shN_bd (op := op) hf hfm hg hgm
 exact ⟨half_nonneg hm.pos h1, half_le hm.pos h2⟩
theorem alpha_shape (hm : Full m) (ha : 0 ≤ a) (haf : a ≤ f) (hfm : f ≤ m) (hb : 0 ≤ b) (hbg : b ≤ g) (hgm : g ≤ m) : alphaM op a b m ≤ shapeM op f g m := by
 rw [shape_half hm]
 refine half_mono hm.pos ?_
 have k1 : m * a ≤ m * f := mul_lr (Int.le_refl _) haf ha (by omega)
 have k2 : m * b ≤ m * g := mul_lr (Int.le_refl _) hbg hb (by omega)
 have k3 : 0 ≤ a * b := mul_nn ha hb
 have k4 : a * b ≤ f * g := mul_lr haf hbg hb (by omega)
 have k5 : 0 ≤ (m - g) * (f - a) := mul_nn (by omega) (by omega)
 have k6 : 0 ≤ (m - a) * (g - b) := mul_nn (by omega) (by omega)
 have k7 : 0 ≤ m * a := mul_nn (by omega) ha
 have k8 : 0 ≤ m * b := mul_nn (by omega) hb
 have k9 : 0 ≤ (m - b) * (f - a) := mul_nn (by omega) (by omega)
 have k10 : 0 ≤ (m - f) * (g - b) := mul_nn (by omega) (by omega)
 have e1 : (m - g) * (f - a) = m * f - m * a - f * g + a * g := by grind
 have e2 : (m - a) * (g - b) = m * g - m * b - a * g + a * b := by grind
 have e3 : (m - b) * a = m * a - a * b := by grind
 have e4 : (m - a) * b = m * b - a * b := by grind
 have e5 : (m - f) * g = m * g - f * g := by grind
 have e6 : b * a = a * b := Int.mul_comm _ _
 unfold shN facA facB
 by_cases h1 : op = 1 ∨ op = 2 ∨ op = 3 ∨ op = 4 ∨ op = 5 ∨ op = 6 ∨ op = 7 ∨ op = 8 ∨ op = 9 ∨ op = 10 ∨ op = 11 ∨ op = 12
 ·rcases h1 with rfl | rfl | rfl | rfl | rfl | rfl | rfl | rfl | rfl | rfl | rfl | rfl <;> simp only [Int.reduceEq, or_self, or_true, true_or, or_false, false_or, if_true, if_false, Int.zero_mul, Int.add_zero, Int.zero_add] <;> omega
 ·repeat rw [if_neg (by omega)]
  omega
theorem alpha_le (hm : Full m) (ha : 0 ≤ a) (ham : a ≤ m) (hb : 0 ≤ b) (hbm : b ≤ m) : alphaM op a b m ≤ m :=
 Int.le_trans (alpha_shape hm ha (Int.le_refl _) ham hb (Int.le_refl _) hbm) (shape_bd hm ha ham hb hbm).2
theorem over_mono {a b b' : Int} (hm : Full m) (ha : 0 ≤ a) (ham : a ≤ m) (h : b ≤ b') : alphaM 4 a b m ≤ alphaM 4 a b' m := by
 refine half_mono hm.pos ?_
 rw [show facA 4 a b m = m from rfl, show facB 4 a b m = m - a from rfl, show facA 4 a b' m = m from rfl, show facB 4 a b' m = m - a from rfl]
 have := Int.mul_le_mul_of_nonneg_left h (show 0 ≤ m - a by omega)
 omega
end
section
variable {m a f acc acc' b : Int}
theorem knockA_bd (hm : Full m) (ha : 0 ≤ a) (haf : a ≤ f) (hfm : f ≤ m) (h1 : 0 ≤ acc) (h2 : acc ≤ m) (h3 : 0 ≤ b) (h4 : b ≤ m) : 0 ≤ knockA m a f acc b ∧ knockA m a f acc b ≤ m := by
 have ⟨n0, n1⟩ := knN_bd (fs := f) (sl := a) (acc := acc) (ab := b) hm ha haf hfm h1 h2 h3 h4
 exact ⟨half_nonneg hm.pos n0, half_le hm.pos n1⟩
theorem knockA_mono {b' : Int} (hm : Full m) (haf : a ≤ f) (hfm : f ≤ m) (h : acc ≤ acc') (hb : b ≤ b') : knockA m a f acc b ≤ knockA m a f acc' b' := by
 refine half_mono hm.pos ?_
 have h1 := Int.mul_le_mul_of_nonneg_left h (show 0 ≤ m - f by omega)
 have h2 := Int.mul_le_mul_of_nonneg_left hb (show 0 ≤ f - a by omega)
 omega
theorem knockO_shape {g : Int} (hm : Full m) (ha : 0 ≤ a) (haf : a ≤ f) (hfm : f ≤ m) (h1 : 0 ≤ acc) (hg : acc ≤ g) (hgm : g ≤ m) : knockA m a f acc 0 ≤ shapeM 4 f g m := by
 rw [shape_half hm]
 refine half_mono hm.pos ?_
 rw [show shN 4 f g m = m * f + (m - f) * g from rfl]
 have h2 := Int.mul_le_mul_of_nonneg_left hg (show 0 ≤ m - f by omega)
 have h3 := Int.mul_le_mul_of_nonneg_left haf (show 0 ≤ m by omega)
 omega
end
structure Acc where
 c0 : Int
 c1 : Int
 c2 : Int
 a : Int
 own : Int
 f : Int
 deriving DecidableEq, Inhabited
structure PixV (p : Pixel) (m : Int) : Prop where
 n0 : 0 ≤ p.c0
 n1 : 0 ≤ p.c1
 n2 : 0 ≤ p.c2
 l0 : p.c0 ≤ p.a
 l1 : p.c1 ≤ p.a
 l2 : p.c2 ≤ p.a
 af : p.a ≤ p.f
 fm : p.f ≤ m
structure AccV (x : Acc) (b : Pixel) (m : Int) : Prop where
 n0 : 0 ≤ x.c0
 n1 : 0 ≤ x.c1
 n2 : 0 ≤ x.c2
 l0 : x.c0 ≤ x.a
 l1 : x.c1 ≤ x.a
 l2 : x.c2 ≤ x.a
 o0 : 0 ≤ x.own
 oa : x.own ≤ x.a
 of : x.own ≤ x.f
 am : x.a ≤ m
 fm : x.f ≤ m
 bk : PixV b m
 bf : b.f = b.a
theorem PixV.a0 {p : Pixel} {m : Int} (h : PixV p m) : 0 ≤ p.a := Int.le_trans h.n0 h.l0
theorem PixV.am {p : Pixel} {m : Int} (h : PixV p m) : p.a ≤ m := Int.le_trans h.af h.fm
theorem PixV.f0 {p : Pixel} {m : Int} (h : PixV p m) : 0 ≤ p.f := Int.le_trans h.a0 h.af
theorem AccV.a0 {x : Acc} {b : Pixel} {m : Int} (h : AccV x b m) : 0 ≤ x.a := Int.le_trans h.n0 h.l0
theorem AccV.f0 {x : Acc} {b : Pixel} {m : Int} (h : AccV x b m) : 0 ≤ x.f := Int.le_trans h.o0 h.of
theorem AccV.om {x : Acc} {b : Pixel} {m : Int} (h : AccV x b m) : x.own ≤ m := Int.le_trans h.oa h.am
def zPix : Pixel := ⟨0, 0, 0, 0, 0⟩
def zAcc : Acc := ⟨0, 0, 0, 0, 0, 0⟩
theorem zPix_v {m : Int} (hm : Full m) : PixV zPix m := by
 have := hm.pos
 constructor <;> simp only [zPix] <;> omega
theorem zAcc_v {m : Int} (hm : Full m) : AccV zAcc zPix m := by
 have := hm.pos
 refine ⟨?_, ?_, ?_, ?_, ?_, ?_, ?_, ?_, ?_, ?_, ?_, zPix_v hm, rfl⟩ <;> simp only [zAcc] <;> omega
def beginA (isolated knockout : Bool) (outer : Acc) (back : Pixel) : Pixel :=
 if isolated = true then zPix else if knockout = true then back else ⟨outer.c0, outer.c1, outer.c2, outer.a, outer.a⟩
def accOf (b : Pixel) : Acc := ⟨b.c0, b.c1, b.c2, b.a, 0, 0⟩
def stepM (ko : Bool) (op mode m : Int) (s : Pixel) (x : Acc) (b : Pixel) : Acc :=
 if ko = true then ⟨knockC mode m s.c0 s.a s.f x.c0 b.c0 b.a, knockC mode m s.c1 s.a s.f x.c1 b.c1 b.a, knockC mode m s.c2 s.a s.f x.c2 b.c2 b.a, knockA m s.a s.f x.a b.a, knockA m s.a s.f x.own 0, shapeM op s.f x.f m⟩
 else ⟨colorM op mode m s.c0 s.a x.c0 x.a, colorM op mode m s.c1 s.a x.c1 x.a, colorM op mode m s.c2 s.a x.c2 x.a, alphaM op s.a x.a m, alphaM op s.a x.own m, shapeM op s.f x.f m⟩
def resC1 (c k own m : Int) : Int := if (m - own) * k < m * c then min (half (m * c - (m - own) * k) m) own else 0
def resultA (x : Acc) (b : Pixel) (m : Int) : Pixel := ⟨resC1 x.c0 b.c0 x.own m, resC1 x.c1 b.c1 x.own m, resC1 x.c2 b.c2 x.own m, x.own, x.f⟩
def scaleM (p : Pixel) (k m : Int) : Pixel := ⟨half (p.c0 * k) m, half (p.c1 * k) m, half (p.c2 * k) m, half (p.a * k) m, half (p.f * k) m⟩
theorem begin_v {i k : Bool} {x : Acc} {b : Pixel} {m : Int} (hm : Full m) (h : AccV x b m) : PixV (beginA i k x b) m ∧ (beginA i k x b).f = (beginA i k x b).a := by
 have hp := hm.pos
 unfold beginA
 split
 ·exact ⟨zPix_v hm, rfl⟩
 split
 ·exact ⟨h.bk, h.bf⟩
 ·exact ⟨⟨h.n0, h.n1, h.n2, h.l0, h.l1, h.l2, Int.le_refl _, h.am⟩, rfl⟩
theorem accOf_v {b : Pixel} {m : Int} (h : PixV b m) (hf : b.f = b.a) : AccV (accOf b) b m :=
 ⟨h.n0, h.n1, h.n2, h.l0, h.l1, h.l2, Int.le_refl _, h.a0, Int.le_refl _, h.am, Int.le_trans h.f0 h.fm, h, hf⟩
theorem scale_v {p : Pixel} {k m : Int} (hm : Full m) (h : PixV p m) (hk : 0 ≤ k) (hkm : k ≤ m) : PixV (scaleM p k m) m := by
 have mono : ∀ {x y : Int}, x ≤ y → half (x * k) m ≤ half (y * k) m := fun q => half_mono hm.pos (Int.mul_le_mul_of_nonneg_right q hk)
 refine ⟨half_nonneg hm.pos (mul_nn h.n0 hk), half_nonneg hm.pos (mul_nn h.n1 hk), half_nonneg hm.pos (mul_nn h.n2 hk), mono h.l0, mono h.l1, mono h.l2, mono h.af, half_le hm.pos ?_⟩
 rw [Int.mul_comm m m]
 exact mul_lr h.fm hkm hk (Int.le_of_lt hm.pos)
theorem scale_full {p : Pixel} {m : Int} (hm : Full m) : scaleM p m m = p := by
 have e : ∀ x : Int, half (x * m) m = x := fun x => by rw [Int.mul_comm, half_mul hm.pos]
 simp only [scaleM, e]
theorem scale_zero {p : Pixel} {m : Int} (hm : Full m) : scaleM p 0 m = zPix := by
 simp only [scaleM, Int.mul_zero, half_zero hm.pos]; rfl
theorem scale_of_zero {k m : Int} (hm : Full m) : scaleM zPix k m = zPix := by
 simp only [scaleM, zPix, Int.zero_mul, half_zero hm.pos]
theorem result_v {x : Acc} {b : Pixel} {m : Int} (hm : Full m) (h : AccV x b m) : PixV (resultA x b m) m := by
 have c0 : ∀ {c k : Int}, 0 ≤ resC1 c k x.own m := fun {c k} => by
  unfold resC1
  split
  ·have := half_nonneg (n := m * c - (m - x.own) * k) hm.pos (by omega)
   have := h.o0
   omega
  ·exact Int.le_refl _
 have c1 : ∀ {c k : Int}, resC1 c k x.own m ≤ x.own := fun {c k} => by
  unfold resC1
  split
  ·exact Int.min_le_right _ _
  ·exact h.o0
 exact ⟨c0, c0, c0, c1, c1, c1, h.of, h.fm⟩
theorem step_v {ko : Bool} {op mode m : Int} {s : Pixel} {x : Acc} {b : Pixel} (hm : Full m) (hs : PixV s m) (h : AccV x b m) (hop : op = 4 ∨ ko = false ∧ x.own = x.a) : AccV (stepM ko op mode m s x b) b m := by
 have b0 := h.bk
 unfold stepM
 split
 ·rename_i hk
  have h4 : op = 4 := hop.elim id fun q => by rw [hk] at q; cases q.1
  subst h4
  have kb := knockA_bd (a := s.a) (f := s.f) (acc := x.a) (b := b.a) hm hs.a0 hs.af hs.fm h.a0 h.am b0.a0 b0.am
  have ko' := knockA_bd (a := s.a) (f := s.f) (acc := x.own) (b := 0) hm hs.a0 hs.af hs.fm h.o0 h.om (Int.le_refl _) (Int.le_of_lt hm.pos)
  have p0 : Pre s.c0 s.a m := ⟨hs.n0, hs.l0, hs.am⟩
  have p1 : Pre s.c1 s.a m := ⟨hs.n1, hs.l1, hs.am⟩
  have p2 : Pre s.c2 s.a m := ⟨hs.n2, hs.l2, hs.am⟩
  have d0 : Pre b.c0 b.a m := ⟨b0.n0, b0.l0, b0.am⟩
  have d1 : Pre b.c1 b.a m := ⟨b0.n1, b0.l1, b0.am⟩
  have d2 : Pre b.c2 b.a m := ⟨b0.n2, b0.l2, b0.am⟩
  have t0 := h.l0
  have t1 := h.l1
  have t2 := h.l2
  have t3 := h.am
  have sh := (shape_bd (op := 4) hm hs.f0 hs.fm h.f0 h.fm).2
  exact ⟨knock_nn hm p0 d0 hs.af hs.fm h.n0 (by omega), knock_nn hm p1 d1 hs.af hs.fm h.n1 (by omega), knock_nn hm p2 d2 hs.af hs.fm h.n2 (by omega),
   knock_le hm p0 d0 hs.af hs.fm h.n0 t0 t3, knock_le hm p1 d1 hs.af hs.fm h.n1 t1 t3, knock_le hm p2 d2 hs.af hs.fm h.n2 t2 t3, ko'.1,
   knockA_mono hm hs.af hs.fm h.oa b0.a0, knockO_shape hm hs.a0 hs.af hs.fm h.o0 h.of h.fm, kb.2, sh, b0, h.bf⟩
 ·have p0 : Pre s.c0 s.a m := ⟨hs.n0, hs.l0, hs.am⟩
  have p1 : Pre s.c1 s.a m := ⟨hs.n1, hs.l1, hs.am⟩
  have p2 : Pre s.c2 s.a m := ⟨hs.n2, hs.l2, hs.am⟩
  have d0 : Pre x.c0 x.a m := ⟨h.n0, h.l0, h.am⟩
  have d1 : Pre x.c1 x.a m := ⟨h.n1, h.l1, h.am⟩
  have d2 : Pre x.c2 x.a m := ⟨h.n2, h.l2, h.am⟩
  have hoa : alphaM op s.a x.own m ≤ alphaM op s.a x.a m := by
   rcases hop with rfl | ⟨_, q⟩
   ·exact over_mono hm hs.a0 hs.am h.oa
   ·rw [q]; exact Int.le_refl _
  have sh := (shape_bd (op := op) hm hs.f0 hs.fm h.f0 h.fm).2
  exact ⟨color_nn hm p0 d0, color_nn hm p1 d1, color_nn hm p2 d2, color_le hm p0 d0, color_le hm p1 d1, color_le hm p2 d2, alpha_nn hm hs.a0 hs.am h.o0 h.om, hoa,
   alpha_shape hm hs.a0 hs.af hs.fm h.o0 h.of h.fm, alpha_le hm hs.a0 hs.am h.a0 h.am, sh, b0, h.bf⟩
theorem step_own {ko : Bool} {op mode m : Int} {s : Pixel} {x : Acc} {b : Pixel} (hb : b.a = 0) (h : x.own = x.a) : (stepM ko op mode m s x b).own = (stepM ko op mode m s x b).a := by
 unfold stepM
 split
 ·show knockA m s.a s.f x.own 0 = knockA m s.a s.f x.a b.a
  rw [h, hb]
 ·show alphaM op s.a x.own m = alphaM op s.a x.a m
  rw [h]
end Go.Proofs.YtlblgkelhibdoaaGreatDoor
