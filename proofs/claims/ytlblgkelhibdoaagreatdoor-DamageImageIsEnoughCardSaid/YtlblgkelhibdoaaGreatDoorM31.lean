/- Part of the proof: V2. -/
import Derived.Test.YtlblgkelhibdoaaGreatDoorM24
set_option linter.unusedSimpArgs false
set_option linter.unusedVariables false
set_option maxHeartbeats 2000000
set_option maxRecDepth 16000
namespace Go.Proofs.YtlblgkelhibdoaaGreatDoor
open Go Go.SL
open Go.RowKit (wrap64)
def formedP (m : Image) : Bool := planeFit m m.p0 && planeFit m m.p1 && planeFit m m.p2 && planeFit m m.p3 && planeFit m m.p4 && (m.solid || decide (m.color = zPix))
theorem fit_t {m : Image} {p : Plane} (hs : m.solid = true) : planeFit m p = true ↔ ((p.w = 0 ∧ p.h = 0) ∧ p.stride = 0) ∧ (p.s.length : Int) ≤ 0 := by
 unfold planeFit
 rw [if_pos hs]
 simp only [Bool.and_eq_true, decide_eq_true_eq]
 omega
theorem fit_f {m : Image} {p : Plane} (hs : m.solid = false) : planeFit m p = true ↔ (planeOk p = true ∧ p.w = m.w) ∧ p.h = m.h := by
 unfold planeFit
 rw [hs, if_neg (by decide)]
 simp only [Bool.and_eq_true, decide_eq_true_eq]
theorem formedP_no {m : Image} {p : Plane} (hp : p = m.p0 ∨ p = m.p1 ∨ p = m.p2 ∨ p = m.p3 ∨ p = m.p4) (h : ¬ planeFit m p = true) : formedP m = false := by
 rw [← Bool.not_eq_true]
 intro q
 unfold formedP at q
 simp only [Bool.and_eq_true] at q
 rcases hp with rfl | rfl | rfl | rfl | rfl
 ·exact h q.1.1.1.1.1
 ·exact h q.1.1.1.1.2
 ·exact h q.1.1.1.2
 ·exact h q.1.1.2
 ·exact h q.1.2
theorem col_zero {c : Pixel} : (c.c0 == 0 && (c.c1 == 0 && (c.c2 == 0 && true)) && (c.a == 0 && (c.f == 0 && true))) = (true && true && true && true && true && (false || decide (c = zPix))) := by
 obtain ⟨c0, c1, c2, a, f⟩ := c
 rw [Bool.eq_iff_iff]
 simp only [zPix, Pixel.mk.injEq, Bool.and_eq_true, beq_iff_eq, Bool.true_and, Bool.false_or, Bool.and_true, decide_eq_true_eq]
 constructor <;> (intro q; omega)
theorem formed_sp (m : Image) : Pure Sg 67 [ag (imageE m)] (fun r => r = .b (B (formedP m))) := by
 obtain ⟨w, h, solid, color, p0, p1, p2, p3, p4⟩ := m
 have htt : True := trivial
 have v0 := validPlane_sp p0
 have v1 := validPlane_sp p1
 have v2 := validPlane_sp p2
 have v3 := validPlane_sp p3
 have v4 := validPlane_sp p4
 cases solid
 ·refine fn_a Tryz.func67 [.tmp 2] ?_
  repeat' (first | refine un_a ?_ | (refine st_a (fun K hK => ?_); and_intros; (all_goals first | (refine hK _ ?_; clear hK K) | exact auto_cl | skip)))
  refine cw_loop (X := Int) (fun k => mkSt [(1, .b (.c (.ptr 0 0))), (3, .b (I k))] [(0, .fix ((imageE ⟨w, h, false, color, p0, p1, p2, p3, p4⟩).map CV.p))] 1)
   (fun k => 0 ≤ k ∧ k ≤ 5 ∧ (0 < k → planeFit ⟨w, h, false, color, p0, p1, p2, p3, p4⟩ p0 = true) ∧ (1 < k → planeFit ⟨w, h, false, color, p0, p1, p2, p3, p4⟩ p1 = true) ∧ (2 < k → planeFit ⟨w, h, false, color, p0, p1, p2, p3, p4⟩ p2 = true) ∧ (3 < k → planeFit ⟨w, h, false, color, p0, p1, p2, p3, p4⟩ p3 = true) ∧ (4 < k → planeFit ⟨w, h, false, color, p0, p1, p2, p3, p4⟩ p4 = true)) (fun k => (5 - k).toNat) 0 ?_ ?_ ?_
  ·exact ⟨by omega, by omega, fun q => absurd q (by omega), fun q => absurd q (by omega), fun q => absurd q (by omega), fun q => absurd q (by omega), fun q => absurd q (by omega)⟩
  ·refine le_a [(1, some 1)] ?_ ?_
   and_intros
   all_goals first | exact le_cl | skip
  ·rintro k ⟨k0, k1, i0, i1, i2, i3, i4⟩
   have hkv : k = 0 ∨ k = 1 ∨ k = 2 ∨ k = 3 ∨ k = 4 ∨ k = 5 := by omega
   rcases hkv with rfl | rfl | rfl | rfl | rfl | rfl
   ·repeat' (first | refine dec_a htt ?_ | refine un_a ?_ | ((first | refine st_a (fun K hK => ?_) | refine gcall_c (fun hg => v0) ?_); and_intros; (all_goals first | (refine hK _ ?_; clear hK K) | exact auto_cl | skip)) | (refine if_a (fun hb => ?_) (fun hb => ?_); all_goals try exact bad_a) | (refine ret_a ?_; (try clear hB KB); (try clear hK K)))
    ·refine congrArg (fun v => SV.b (B v)) (Eq.symm ?_)
     refine formedP_no (p := p0) (by simp) fun q => ?_
     obtain ⟨⟨a, b⟩, c⟩ := (fit_f rfl).1 q
     rcases hb.2 with (e | e) | e
     ·rw [a] at e; cases e
     ·exact e b
     ·exact e c
    ·rw [thenQ_normal]
     refine wk_loop 1 ?_ ⟨by omega, by omega, fun _ => (fit_f rfl).2 (hb trivial), fun q => absurd q (by omega), fun q => absurd q (by omega), fun q => absurd q (by omega), fun q => absurd q (by omega)⟩ (by decide)
     refine le_a [(1, some 1)] ?_ ?_
     and_intros
     all_goals first | exact le_cl | skip
   ·repeat' (first | refine dec_a htt ?_ | refine un_a ?_ | ((first | refine st_a (fun K hK => ?_) | refine gcall_c (fun hg => v1) ?_); and_intros; (all_goals first | (refine hK _ ?_; clear hK K) | exact auto_cl | skip)) | (refine if_a (fun hb => ?_) (fun hb => ?_); all_goals try exact bad_a) | (refine ret_a ?_; (try clear hB KB); (try clear hK K)))
    ·refine congrArg (fun v => SV.b (B v)) (Eq.symm ?_)
     refine formedP_no (p := p1) (by simp) fun q => ?_
     obtain ⟨⟨a, b⟩, c⟩ := (fit_f rfl).1 q
     rcases hb.2 with (e | e) | e
     ·rw [a] at e; cases e
     ·exact e b
     ·exact e c
    ·rw [thenQ_normal]
     refine wk_loop 2 ?_ ⟨by omega, by omega, fun _ => i0 (by omega), fun _ => (fit_f rfl).2 (hb trivial), fun q => absurd q (by omega), fun q => absurd q (by omega), fun q => absurd q (by omega)⟩ (by decide)
     refine le_a [(1, some 1)] ?_ ?_
     and_intros
     all_goals first | exact le_cl | skip
   ·repeat' (first | refine dec_a htt ?_ | refine un_a ?_ | ((first | refine st_a (fun K hK => ?_) | refine gcall_c (fun hg => v2) ?_); and_intros; (all_goals first | (refine hK _ ?_; clear hK K) | exact auto_cl | skip)) | (refine if_a (fun hb => ?_) (fun hb => ?_); all_goals try exact bad_a) | (refine ret_a ?_; (try clear hB KB); (try clear hK K)))
    ·refine congrArg (fun v => SV.b (B v)) (Eq.symm ?_)
     refine formedP_no (p := p2) (by simp) fun q => ?_
     obtain ⟨⟨a, b⟩, c⟩ := (fit_f rfl).1 q
     rcases hb.2 with (e | e) | e
     ·rw [a] at e; cases e
     ·exact e b
     ·exact e c
    ·rw [thenQ_normal]
     refine wk_loop 3 ?_ ⟨by omega, by omega, fun _ => i0 (by omega), fun _ => i1 (by omega), fun _ => (fit_f rfl).2 (hb trivial), fun q => absurd q (by omega), fun q => absurd q (by omega)⟩ (by decide)
     refine le_a [(1, some 1)] ?_ ?_
     and_intros
     all_goals first | exact le_cl | skip
   ·repeat' (first | refine dec_a htt ?_ | refine un_a ?_ | ((first | refine st_a (fun K hK => ?_) | refine gcall_c (fun hg => v3) ?_); and_intros; (all_goals first | (refine hK _ ?_; clear hK K) | exact auto_cl | skip)) | (refine if_a (fun hb => ?_) (fun hb => ?_); all_goals try exact bad_a) | (refine ret_a ?_; (try clear hB KB); (try clear hK K)))
    ·refine congrArg (fun v => SV.b (B v)) (Eq.symm ?_)
     refine formedP_no (p := p3) (by simp) fun q => ?_
     obtain ⟨⟨a, b⟩, c⟩ := (fit_f rfl).1 q
     rcases hb.2 with (e | e) | e
     ·rw [a] at e; cases e
     ·exact e b
     ·exact e c
    ·rw [thenQ_normal]
     refine wk_loop 4 ?_ ⟨by omega, by omega, fun _ => i0 (by omega), fun _ => i1 (by omega), fun _ => i2 (by omega), fun _ => (fit_f rfl).2 (hb trivial), fun q => absurd q (by omega)⟩ (by decide)
     refine le_a [(1, some 1)] ?_ ?_
     and_intros
     all_goals first | exact le_cl | skip
   ·repeat' (first | refine dec_a htt ?_ | refine un_a ?_ | ((first | refine st_a (fun K hK => ?_) | refine gcall_c (fun hg => v4) ?_); and_intros; (all_goals first | (refine hK _ ?_; clear hK K) | exact auto_cl | skip)) | (refine if_a (fun hb => ?_) (fun hb => ?_); all_goals try exact bad_a) | (refine ret_a ?_; (try clear hB KB); (try clear hK K)))
    ·refine congrArg (fun v => SV.b (B v)) (Eq.symm ?_)
     refine formedP_no (p := p4) (by simp) fun q => ?_
     obtain ⟨⟨a, b⟩, c⟩ := (fit_f rfl).1 q
     rcases hb.2 with (e | e) | e
     ·rw [a] at e; cases e
     ·exact e b
     ·exact e c
    ·rw [thenQ_normal]
     refine wk_loop 5 ?_ ⟨by omega, by omega, fun _ => i0 (by omega), fun _ => i1 (by omega), fun _ => i2 (by omega), fun _ => i3 (by omega), fun _ => (fit_f rfl).2 (hb trivial)⟩ (by decide)
     refine le_a [(1, some 1)] ?_ ?_
     and_intros
     all_goals first | exact le_cl | skip
   ·repeat' (first | refine dec_a htt ?_ | refine un_a ?_ | ((first | refine st_a (fun K hK => ?_) | refine rg_a ?_); and_intros; (all_goals first | (refine hK _ ?_; clear hK K) | exact auto_cl | skip)) | (refine ret_a ?_; (try clear hB KB); (try clear hK K)))
    refine congrArg (fun v => SV.b (B v)) ?_
    unfold formedP
    dsimp only
    rw [i0 (by omega), i1 (by omega), i2 (by omega), i3 (by omega), i4 (by omega)]
    exact col_zero
 ·refine fn_a Tryz.func67 [.tmp 2] ?_
  repeat' (first | refine un_a ?_ | (refine st_a (fun K hK => ?_); and_intros; (all_goals first | (refine hK _ ?_; clear hK K) | exact auto_cl | skip)))
  refine cw_loop (X := Int) (fun k => mkSt [(1, .b (.c (.ptr 0 0))), (3, .b (I k))] [(0, .fix ((imageE ⟨w, h, true, color, p0, p1, p2, p3, p4⟩).map CV.p))] 1)
   (fun k => 0 ≤ k ∧ k ≤ 5 ∧ (0 < k → planeFit ⟨w, h, true, color, p0, p1, p2, p3, p4⟩ p0 = true) ∧ (1 < k → planeFit ⟨w, h, true, color, p0, p1, p2, p3, p4⟩ p1 = true) ∧ (2 < k → planeFit ⟨w, h, true, color, p0, p1, p2, p3, p4⟩ p2 = true) ∧ (3 < k → planeFit ⟨w, h, true, color, p0, p1, p2, p3, p4⟩ p3 = true) ∧ (4 < k → planeFit ⟨w, h, true, color, p0, p1, p2, p3, p4⟩ p4 = true)) (fun k => (5 - k).toNat) 0 ?_ ?_ ?_
  ·exact ⟨by omega, by omega, fun q => absurd q (by omega), fun q => absurd q (by omega), fun q => absurd q (by omega), fun q => absurd q (by omega), fun q => absurd q (by omega)⟩
  ·refine le_a [(1, some 1)] ?_ ?_
   and_intros
   all_goals first | exact le_cl | skip
  ·rintro k ⟨k0, k1, i0, i1, i2, i3, i4⟩
   have hkv : k = 0 ∨ k = 1 ∨ k = 2 ∨ k = 3 ∨ k = 4 ∨ k = 5 := by omega
   rcases hkv with rfl | rfl | rfl | rfl | rfl | rfl
   ·repeat' (first | refine dec_a htt ?_ | refine un_a ?_ | ((first | refine st_a (fun K hK => ?_) | refine gcall_c (fun hg => v0) ?_); and_intros; (all_goals first | (refine hK _ ?_; clear hK K) | exact auto_cl | skip)) | (refine if_a (fun hb => ?_) (fun hb => ?_); all_goals try exact bad_a) | (refine ret_a ?_; (try clear hB KB); (try clear hK K)))
    ·refine congrArg (fun v => SV.b (B v)) (Eq.symm ?_)
     refine formedP_no (p := p0) (by simp) fun q => ?_
     have := (fit_t rfl).1 q
     omega
    ·rw [thenQ_normal]
     refine wk_loop 1 ?_ ⟨by omega, by omega, fun _ => (fit_t rfl).2 hb, fun q => absurd q (by omega), fun q => absurd q (by omega), fun q => absurd q (by omega), fun q => absurd q (by omega)⟩ (by decide)
     refine le_a [(1, some 1)] ?_ ?_
     and_intros
     all_goals first | exact le_cl | skip
   ·repeat' (first | refine dec_a htt ?_ | refine un_a ?_ | ((first | refine st_a (fun K hK => ?_) | refine gcall_c (fun hg => v1) ?_); and_intros; (all_goals first | (refine hK _ ?_; clear hK K) | exact auto_cl | skip)) | (refine if_a (fun hb => ?_) (fun hb => ?_); all_goals try exact bad_a) | (refine ret_a ?_; (try clear hB KB); (try clear hK K)))
    ·refine congrArg (fun v => SV.b (B v)) (Eq.symm ?_)
     refine formedP_no (p := p1) (by simp) fun q => ?_
     have := (fit_t rfl).1 q
     omega
    ·rw [thenQ_normal]
     refine wk_loop 2 ?_ ⟨by omega, by omega, fun _ => i0 (by omega), fun _ => (fit_t rfl).2 hb, fun q => absurd q (by omega), fun q => absurd q (by omega), fun q => absurd q (by omega)⟩ (by decide)
     refine le_a [(1, some 1)] ?_ ?_
     and_intros
     all_goals first | exact le_cl | skip
   ·repeat' (first | refine dec_a htt ?_ | refine un_a ?_ | ((first | refine st_a (fun K hK => ?_) | refine gcall_c (fun hg => v2) ?_); and_intros; (all_goals first | (refine hK _ ?_; clear hK K) | exact auto_cl | skip)) | (refine if_a (fun hb => ?_) (fun hb => ?_); all_goals try exact bad_a) | (refine ret_a ?_; (try clear hB KB); (try clear hK K)))
    ·refine congrArg (fun v => SV.b (B v)) (Eq.symm ?_)
     refine formedP_no (p := p2) (by simp) fun q => ?_
     have := (fit_t rfl).1 q
     omega
    ·rw [thenQ_normal]
     refine wk_loop 3 ?_ ⟨by omega, by omega, fun _ => i0 (by omega), fun _ => i1 (by omega), fun _ => (fit_t rfl).2 hb, fun q => absurd q (by omega), fun q => absurd q (by omega)⟩ (by decide)
     refine le_a [(1, some 1)] ?_ ?_
     and_intros
     all_goals first | exact le_cl | skip
   ·repeat' (first | refine dec_a htt ?_ | refine un_a ?_ | ((first | refine st_a (fun K hK => ?_) | refine gcall_c (fun hg => v3) ?_); and_intros; (all_goals first | (refine hK _ ?_; clear hK K) | exact auto_cl | skip)) | (refine if_a (fun hb => ?_) (fun hb => ?_); all_goals try exact bad_a) | (refine ret_a ?_; (try clear hB KB); (try clear hK K)))
    ·refine congrArg (fun v => SV.b (B v)) (Eq.symm ?_)
     refine formedP_no (p := p3) (by simp) fun q => ?_
     have := (fit_t rfl).1 q
     omega
    ·rw [thenQ_normal]
     refine wk_loop 4 ?_ ⟨by omega, by omega, fun _ => i0 (by omega), fun _ => i1 (by omega), fun _ => i2 (by omega), fun _ => (fit_t rfl).2 hb, fun q => absurd q (by omega)⟩ (by decide)
     refine le_a [(1, some 1)] ?_ ?_
     and_intros
     all_goals first | exact le_cl | skip
   ·repeat' (first | refine dec_a htt ?_ | refine un_a ?_ | ((first | refine st_a (fun K hK => ?_) | refine gcall_c (fun hg => v4) ?_); and_intros; (all_goals first | (refine hK _ ?_; clear hK K) | exact auto_cl | skip)) | (refine if_a (fun hb => ?_) (fun hb => ?_); all_goals try exact bad_a) | (refine ret_a ?_; (try clear hB KB); (try clear hK K)))
    ·refine congrArg (fun v => SV.b (B v)) (Eq.symm ?_)
     refine formedP_no (p := p4) (by simp) fun q => ?_
     have := (fit_t rfl).1 q
     omega
    ·rw [thenQ_normal]
     refine wk_loop 5 ?_ ⟨by omega, by omega, fun _ => i0 (by omega), fun _ => i1 (by omega), fun _ => i2 (by omega), fun _ => i3 (by omega), fun _ => (fit_t rfl).2 hb⟩ (by decide)
     refine le_a [(1, some 1)] ?_ ?_
     and_intros
     all_goals first | exact le_cl | skip
   ·repeat' (first | refine dec_a htt ?_ | refine un_a ?_ | ((first | refine st_a (fun K hK => ?_) | refine rg_a ?_); and_intros; (all_goals first | (refine hK _ ?_; clear hK K) | exact auto_cl | skip)) | (refine ret_a ?_; (try clear hB KB); (try clear hK K)))
    refine congrArg (fun v => SV.b (B v)) ?_
    unfold formedP
    dsimp only
    rw [i0 (by omega), i1 (by omega), i2 (by omega), i3 (by omega), i4 (by omega)]
    rfl
theorem formedAll_sp (m : Image) : Pure Sg 119 [ag (imageE m)] (fun r => r = .b (B (formedM m))) := by
 have h1 := r13fits_spec m.w m.h
 have h2 := formed_sp m
 rw [show formedM m = (fitsM m.w m.h && formedP m) from rfl]
 refine fn_a Tryz.func119 [.tmp 2] ?_
 repeat' (first | with_reducible exact tr_a | ((first | refine st_a (fun K hK => ?_) | refine call_c (h1) ?_ | refine gcall_c (fun hg => h2) ?_); and_intros; (all_goals first | (refine hK _ ?_; clear hK K) | exact auto_cl | skip)) | (refine ret_a ?_; (try clear hB KB); (try clear hK K)))
theorem at_sp (m : Image) (x y : Int) : Pure Sg 156 [ag (imageE m), I x, I y] (fun r => r = .b (ag (pixE (imgAt m x y)))) := imageAt_sp m x y (formedAll_sp m)
end Go.Proofs.YtlblgkelhibdoaaGreatDoor
