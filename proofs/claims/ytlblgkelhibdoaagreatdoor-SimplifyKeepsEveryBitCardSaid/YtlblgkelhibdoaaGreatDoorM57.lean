/- Part of the proof: VB. -/
import Derived.Test.YtlblgkelhibdoaaGreatDoorM35
import Derived.Test.YtlblgkelhibdoaaGreatDoorM48
set_option linter.unusedSimpArgs false
set_option linter.unusedVariables false
set_option maxHeartbeats 2000000
set_option maxRecDepth 16000
namespace Go.Proofs.YtlblgkelhibdoaaGreatDoor
open Go Go.SL
open Go.RowKit (wrap64)
theorem samePlane_sp (p : Plane) (hl : p.s.length ≤ 4611686018427387904) : Pure Sg 59 [ag (planeE p), ag (planeE p)] (fun r => r = .b (B true)) := by
 have e : ∀ n : Int, (n != n) = false := fun n => by simp
 refine fn_a Tryz.func59 [.tmp 4] ?_
 repeat' (first | refine dec_a e ?_ | refine un_a ?_ | (refine st_a (fun K hK => ?_); and_intros; (all_goals first | (refine hK _ ?_; clear hK K) | exact auto_cl | skip)))
 refine cw_loop (X := Nat) (fun i => mkSt [(2, .b (.c (.ptr 0 0))), (3, .b (.c (.ptr 1 0))), (5, .b (I i))] [(0, .fix ((planeE p).map CV.p)), (1, .fix ((planeE p).map CV.p))] 2) (fun i => i ≤ p.s.length) (fun i => p.s.length - i) 0 ?_ ?_ ?_
 ·omega
 ·refine le_a [(1, some 1)] ?_ ?_
  and_intros
  all_goals first | exact le_cl | skip
 ·intro i hi
  have e2 : (p.s.getD i default != p.s.getD i default) = false := by simp
  rcases Nat.lt_or_ge i p.s.length with h | h
  ·repeat' (first | refine dec_a (And.intro e2 e) ?_ | refine un_a ?_ | (refine st_a (fun K hK => ?_); and_intros; (all_goals first | (refine hK _ ?_; clear hK K) | exact auto_cl | skip)) | (refine if_a (fun hb => ?_) (fun hb => ?_); all_goals try exact bad_a))
   rw [thenQ_normal]
   refine wk_loop (i + 1) ?_ (by omega) (by omega)
   refine le_a [(1, some 1)] ?_ ?_
   and_intros
   all_goals first | exact le_cl | skip
  ·repeat' (first | with_reducible exact tr_a | refine un_a ?_ | (refine st_a (fun K hK => ?_); and_intros; (all_goals first | (refine hK _ ?_; clear hK K) | exact auto_cl | skip)) | (refine if_a (fun hb => ?_) (fun hb => ?_); all_goals try exact bad_a) | (refine ret_a ?_; (try clear hB KB); (try clear hK K)))
structure ImgLen (m : Image) : Prop where
 l0 : m.p0.s.length ≤ 4611686018427387904
 l1 : m.p1.s.length ≤ 4611686018427387904
 l2 : m.p2.s.length ≤ 4611686018427387904
 l3 : m.p3.s.length ≤ 4611686018427387904
 l4 : m.p4.s.length ≤ 4611686018427387904
theorem sameImage_sp (m : Image) (hl : ImgLen m) : Pure Sg 24 [ag (imageE m), ag (imageE m)] (fun r => r = .b (B true)) := by
 have ht : True := trivial
 have v0 := samePlane_sp m.p0 hl.l0
 have v1 := samePlane_sp m.p1 hl.l1
 have v2 := samePlane_sp m.p2 hl.l2
 have v3 := samePlane_sp m.p3 hl.l3
 have v4 := samePlane_sp m.p4 hl.l4
 refine fn_a Tryz.func24 [.tmp 4] ?_
 repeat' (first | refine un_a ?_ | (refine st_a (fun K hK => ?_); and_intros; (all_goals first | (refine hK _ ?_; clear hK K) | exact auto_cl | skip)))
 refine cw_loop (X := Int) (fun k => mkSt [(2, .b (.c (.ptr 0 0))), (3, .b (.c (.ptr 1 0))), (5, .b (I k))] [(0, .fix ((imageE m).map CV.p)), (1, .fix ((imageE m).map CV.p))] 2) (fun k => 0 ≤ k ∧ k ≤ 5) (fun k => (5 - k).toNat) 0 ?_ ?_ ?_
 ·omega
 ·refine le_a [(1, some 1)] ?_ ?_
  and_intros
  all_goals first | exact le_cl | skip
 ·intro k hk
  have hkv : k = 0 ∨ k = 1 ∨ k = 2 ∨ k = 3 ∨ k = 4 ∨ k = 5 := by omega
  rcases hkv with rfl | rfl | rfl | rfl | rfl | rfl
  ·repeat' (first | refine dec_a ht ?_ | refine un_a ?_ | ((first | refine st_a (fun K hK => ?_) | refine call_c (v0) ?_); and_intros; (all_goals first | (refine hK _ ?_; clear hK K) | exact auto_cl | skip)))
   rw [thenQ_normal]
   refine wk_loop 1 ?_ (by omega) (by decide)
   refine le_a [(1, some 1)] ?_ ?_
   and_intros
   all_goals first | exact le_cl | skip
  ·repeat' (first | refine dec_a ht ?_ | refine un_a ?_ | ((first | refine st_a (fun K hK => ?_) | refine call_c (v1) ?_); and_intros; (all_goals first | (refine hK _ ?_; clear hK K) | exact auto_cl | skip)))
   rw [thenQ_normal]
   refine wk_loop 2 ?_ (by omega) (by decide)
   refine le_a [(1, some 1)] ?_ ?_
   and_intros
   all_goals first | exact le_cl | skip
  ·repeat' (first | refine dec_a ht ?_ | refine un_a ?_ | ((first | refine st_a (fun K hK => ?_) | refine call_c (v2) ?_); and_intros; (all_goals first | (refine hK _ ?_; clear hK K) | exact auto_cl | skip)))
   rw [thenQ_normal]
   refine wk_loop 3 ?_ (by omega) (by decide)
   refine le_a [(1, some 1)] ?_ ?_
   and_intros
   all_goals first | exact le_cl | skip
  ·repeat' (first | refine dec_a ht ?_ | refine un_a ?_ | ((first | refine st_a (fun K hK => ?_) | refine call_c (v3) ?_); and_intros; (all_goals first | (refine hK _ ?_; clear hK K) | exact auto_cl | skip)))
   rw [thenQ_normal]
   refine wk_loop 4 ?_ (by omega) (by decide)
   refine le_a [(1, some 1)] ?_ ?_
   and_intros
   all_goals first | exact le_cl | skip
  ·repeat' (first | refine dec_a ht ?_ | refine un_a ?_ | ((first | refine st_a (fun K hK => ?_) | refine call_c (v4) ?_); and_intros; (all_goals first | (refine hK _ ?_; clear hK K) | exact auto_cl | skip)))
   rw [thenQ_normal]
   refine wk_loop 5 ?_ (by omega) (by decide)
   refine le_a [(1, some 1)] ?_ ?_
   and_intros
   all_goals first | exact le_cl | skip
  ·repeat' (first | refine dec_a ht ?_ | refine un_a ?_ | (refine st_a (fun K hK => ?_); and_intros; (all_goals first | (refine hK _ ?_; clear hK K) | exact auto_cl | skip)) | (refine ret_a ?_; (try clear hB KB); (try clear hK K)))
   simp
theorem img_color {m : Image} {mx : Int} (h : ImgV m mx) (hs : m.solid = true) : PixV m.color mx := by
 obtain ⟨a, b, _, _⟩ := formed_fit h.f
 have := h.p 0 0 (Int.le_refl _) (by omega) (Int.le_refl _) (by omega)
 rw [pixelM, if_pos hs] at this
 exact this
theorem validImage_sp (m : Image) (mx : Int) (hm : Full mx) (h : ImgV m mx) : Pure Sg 114 [ag (imageE m), U mx] (fun r => r = .b (I 0)) := by
 have hf := h.f
 have h1 := r13fits_spec m.w m.h
 have h2 := formed_sp m
 have hff := hf
 rw [show formedM m = (fitsM m.w m.h && formedP m) from rfl, Bool.and_eq_true] at hff
 obtain ⟨b1, b2, b3, b4⟩ := formed_fit hf
 rw [hff.1] at h1
 rw [hff.2] at h2
 have ht : True := trivial
 by_cases hs : m.solid = true
 ·have hv := validPixel_sp m.color mx
  have hc := img_color h hs
  rw [pixOk_v hc] at hv
  refine fn_a Tryz.func114 [.tmp 4] ?_
  repeat' (first | with_reducible exact tr_a | refine dec_a hs ?_ | refine un_a ?_ | ((first | refine st_a (fun K hK => ?_) | refine call_c (h1) ?_ | refine call_c (h2) ?_ | refine call_c (hv) ?_); and_intros; (all_goals first | (refine hK _ ?_; clear hK K) | exact auto_cl | skip)) | (refine ret_a ?_; (try clear hB KB); (try clear hK K)))
 ·have hs' : m.solid = false := by simpa using hs
  refine fn_a Tryz.func114 [.tmp 4] ?_
  repeat' (first | (apply cw_ifF; (case hc => exact ev_a); (case ht => (simp only [Int.toNat_natCast, Int.reduceBEq, Int.reduceBNe, Int.reduceLT, Int.reduceLE, decide_true, decide_false, dcs, hs']; done))) | refine un_a ?_ | ((first | refine st_a (fun K hK => ?_) | refine call_c (h1) ?_ | refine call_c (h2) ?_); and_intros; (all_goals first | (refine hK _ ?_; clear hK K) | exact auto_cl | skip)))
  refine cw_loop (X := Nat) (fun y => mkSt [(1, .b (U mx)), (2, .b (.c (.ptr 0 0))), (5, .b (I y))] [(0, .fix ((imageE m).map CV.p))] 1) (fun y => (y : Int) ≤ m.h) (fun y => m.h.toNat - y) 0 ?_ ?_ ?_
  ·omega
  ·refine le_a [] ?_ ?_
   and_intros
   all_goals first | exact le_cl | skip
  ·intro y hy
   rcases Int.lt_or_le y m.h with hyl | hyg
   ·repeat' (first | refine un_a ?_ | (refine st_a (fun K hK => ?_); and_intros; (all_goals first | (refine hK _ ?_; clear hK K) | exact auto_cl | skip)) | (refine if_a (fun hb => ?_) (fun hb => ?_); all_goals try exact bad_a))
    refine cw_loop (X := Nat) (fun x => mkSt [(1, .b (U mx)), (2, .b (.c (.ptr 0 0))), (5, .b (I y)), (6, .b (I x))] [(0, .fix ((imageE m).map CV.p))] 1) (fun x => (x : Int) ≤ m.w) (fun x => m.w.toNat - x) 0 ?_ ?_ ?_
    ·omega
    ·refine le_a [] ?_ ?_
     and_intros
     all_goals first | exact le_cl | skip
    ·intro x hx
     rcases Int.lt_or_le x m.w with hxl | hxg
     ·have hp := pixel_sp m x y hf (by omega) hxl (by omega) hyl
      have hv := validPixel_sp (pixelM m x y) mx
      rw [pixOk_v (h.p x y (by omega) hxl (by omega) hyl)] at hv
      generalize pixelM m x y = q at *
      repeat' (first | ((first | apply cw_ifF | apply cw_condF); (case hc => exact ev_a); (case ht => (simp only [Int.toNat_natCast, Int.reduceBEq, Int.reduceBNe, Int.reduceLT, Int.reduceLE, decide_true, decide_false, dcs, hs']; done))) | refine un_a ?_ | ((first | refine st_a (fun K hK => ?_) | refine call_c (hp) ?_ | refine call_c (hv) ?_); and_intros; (all_goals first | (refine hK _ ?_; clear hK K) | exact auto_cl | skip)) | (refine if_a (fun hb => ?_) (fun hb => ?_); all_goals try exact bad_a))
      rw [thenQ_normal]
      refine wk_loop (x + 1) ?_ (by omega) (by omega)
      refine le_a [] ?_ ?_
      and_intros
      all_goals first | exact le_cl | skip
     ·repeat' (first | refine un_a ?_ | (refine st_a (fun K hK => ?_); and_intros; (all_goals first | (refine hK _ ?_; clear hK K) | exact auto_cl | skip)) | (refine if_a (fun hb => ?_) (fun hb => ?_); all_goals try exact bad_a))
      rw [thenQ_normal]
      refine wk_loop (y + 1) ?_ (by omega) (by omega)
      refine le_a [] ?_ ?_
      and_intros
      all_goals first | exact le_cl | skip
   ·repeat' (first | with_reducible exact tr_a | refine un_a ?_ | (refine st_a (fun K hK => ?_); and_intros; (all_goals first | (refine hK _ ?_; clear hK K) | exact auto_cl | skip)) | (refine if_a (fun hb => ?_) (fun hb => ?_); all_goals try exact bad_a) | (refine ret_a ?_; (try clear hB KB); (try clear hK K)))
theorem check_sp (s : Script) (V : VOps s) (hs : ScriptLen s) (hm : Full (maxOf s.bits)) (hi : ImgsV s) : Pure Sg 56 [ag (scriptE s)] (fun r => r = .tup [I 0, I 0]) := by
 have h1 := r18frame_spec s hs
 have h2 := checkOps_spec s hs
 rw [vops0 V] at h2
 rw [V.frame] at h1
 have h3 : Pure Sg 77 [I s.bits] (fun x => x = .tup [U (maxOf s.bits), B (decide (s.bits = 8 ∨ s.bits = 16))]) := r01max_spec s.bits
 have ht : True := trivial
 refine fn_a Tryz.func56 [.tmp 2, .tmp 3] ?_
 repeat' (first | refine dec_a ht ?_ | refine un_a ?_ | ((first | refine st_a (fun K hK => ?_) | refine call_c (h1) ?_ | refine call_c (h3) ?_); and_intros; (all_goals first | (refine hK _ ?_; clear hK K) | exact auto_cl | skip)))
 refine cw_loop (X := Nat) (fun i => mkSt [(1, .b (.c (.ptr 0 0))), (5, .b (U (maxOf s.bits))), (7, .b (I i))] [(0, .fix ((scriptE s).map CV.p))] 1) (fun i => i ≤ s.images.length) (fun i => s.images.length - i) 0 ?_ ?_ ?_
 ·omega
 ·refine le_a [] ?_ ?_
  and_intros
  all_goals first | exact le_cl | skip
 ·intro i hil
  have hlen := hs.images
  rcases Nat.lt_or_ge i s.images.length with h | h
  ·have hv := validImage_sp (s.images.getD i default) (maxOf s.bits) hm (by have := hi i (by omega) (by omega); unfold imgM at this; rw [Int.toNat_natCast] at this; exact this)
   repeat' (first | refine dec_a ht ?_ | refine un_a ?_ | ((first | refine st_a (fun K hK => ?_) | refine call_c (hv) ?_); and_intros; (all_goals first | (refine hK _ ?_; clear hK K) | exact auto_cl | skip)) | (refine if_a (fun hb => ?_) (fun hb => ?_); all_goals try exact bad_a))
   rw [thenQ_normal]
   refine wk_loop (i + 1) ?_ (by omega) (by omega)
   refine le_a [] ?_ ?_
   and_intros
   all_goals first | exact le_cl | skip
  ·repeat' (first | with_reducible exact tr_a | refine un_a ?_ | ((first | refine st_a (fun K hK => ?_) | refine call_c (h2) ?_); and_intros; (all_goals first | (refine hK _ ?_; clear hK K) | exact auto_cl | skip)) | (refine if_a (fun hb => ?_) (fun hb => ?_); all_goals try exact bad_a) | (refine ret_a ?_; (try clear hB KB); (try clear hK K)))
end Go.Proofs.YtlblgkelhibdoaaGreatDoor
