/- Part of the proof: U9. -/
import Derived.Test.YtlblgkelhibdoaaGreatDoorM23
import Derived.Test.YtlblgkelhibdoaaGreatDoorM33
set_option linter.unusedSimpArgs false
set_option linter.unusedVariables false
set_option maxHeartbeats 2000000
set_option maxRecDepth 16000
namespace Go.Proofs.YtlblgkelhibdoaaGreatDoor
open Go Go.SL
open Go.RowKit (wrap64)
attribute [local go_sem] accE
theorem PixV.pre {p : Pixel} {m : Int} (h : PixV p m) : Pre p.c0 p.a m ∧ Pre p.c1 p.a m ∧ Pre p.c2 p.a m := ⟨⟨h.n0, h.l0, h.am⟩, ⟨h.n1, h.l1, h.am⟩, ⟨h.n2, h.l2, h.am⟩⟩
theorem AccV.pre {x : Acc} {b : Pixel} {m : Int} (h : AccV x b m) : Pre x.c0 x.a m ∧ Pre x.c1 x.a m ∧ Pre x.c2 x.a m := ⟨⟨h.n0, h.l0, h.am⟩, ⟨h.n1, h.l1, h.am⟩, ⟨h.n2, h.l2, h.am⟩⟩
theorem step_sp (ko : Bool) (op mode m : Int) (s : Pixel) (x : Acc) (b : Pixel) (hm : Full m) (ho : 1 ≤ op ∧ op ≤ 12) (hmo : 1 ≤ mode ∧ mode ≤ 12) (hs : PixV s m) (hx : AccV x b m) (hk : ko = true → op = 4) :
  Pure Sg 158 [B ko, I op, I mode, U m, ag (pixE s), ag (accE x), ag (pixE b)] (fun r => r = .tup [ag (accE (stepM ko op mode m s x b)), B true]) := by
 have hi := isOp_spec op
 rw [isMode_true ho] at hi
 have hi2 := isMode_spec mode
 rw [isMode_true hmo] at hi2
 have hva := validAccum_sp x b m hm hx
 have hvp := validPixel_sp s m
 rw [pixOk_v hs] at hvp
 have hsh := shape_sp op s.f x.f m hm hs.f0 hs.fm hx.f0 hx.fm
 obtain ⟨s1, s2, s3⟩ := hs.pre
 obtain ⟨x1, x2, x3⟩ := hx.pre
 obtain ⟨b1, b2, b3⟩ := hx.bk.pre
 have htt : True := trivial
 cases ko
 ·have c1 := color_sp op mode m s.c0 s.a x.c0 x.a hm ho hmo s1 x1
  have c2 := color_sp op mode m s.c1 s.a x.c1 x.a hm ho hmo s2 x2
  have c3 := color_sp op mode m s.c2 s.a x.c2 x.a hm ho hmo s3 x3
  have a1 := alpha_sp op s.a x.a m hm ho hs.a0 hs.am hx.a0 hx.am
  have a2 := alpha_sp op s.a x.own m hm ho hs.a0 hs.am hx.o0 hx.om
  rw [show stepM false op mode m s x b = ⟨colorM op mode m s.c0 s.a x.c0 x.a, colorM op mode m s.c1 s.a x.c1 x.a, colorM op mode m s.c2 s.a x.c2 x.a, alphaM op s.a x.a m, alphaM op s.a x.own m, shapeM op s.f x.f m⟩ from rfl]
  generalize colorM op mode m s.c0 s.a x.c0 x.a = y1 at *
  generalize colorM op mode m s.c1 s.a x.c1 x.a = y2 at *
  generalize colorM op mode m s.c2 s.a x.c2 x.a = y3 at *
  generalize alphaM op s.a x.a m = y4 at *
  generalize alphaM op s.a x.own m = y5 at *
  generalize shapeM op s.f x.f m = y6 at *
  refine fn_a Tryz.func158 [.cell 14 154, .tmp 15] ?_
  repeat' (first | refine dec_a htt ?_ | refine un_a ?_ | ((first | refine st_a (fun K hK => ?_) | refine call_c (hi) ?_ | refine gcall_c (fun hg => hi2) ?_ | refine gcall_c (fun hg => hva) ?_ | refine gcall_c (fun hg => hvp) ?_ | refine call_c (hsh) ?_); and_intros; (all_goals first | (refine hK _ ?_; clear hK K) | exact auto_cl | skip)))
  refine cw_loop (X := Int) (fun i => mkSt [(0, .b (B false)), (1, .b (I op)), (2, .b (I mode)), (3, .b (U m)), (11, .b (.c (.ptr 0 0))), (12, .b (.c (.ptr 1 0))), (13, .b (.c (.ptr 2 0))), (14, .b (.c (.ptr 3 0))), (16, .b (.c (.ptr 4 0))), (17, .b (I i))]
   [(0, .fix ((pixE s).map CV.p)), (1, .fix ((accE x).map CV.p)), (2, .fix ((pixE b).map CV.p)), (3, .fix ((accE zAcc).map CV.p)), (4, .fix [.p (PU (if 0 < i then y1 else 0)), .p (PU (if 1 < i then y2 else 0)), .p (PU (if 2 < i then y3 else 0)), .p (PU 0), .p (PU 0), .p (PU y6)])] 5) (fun i => 0 ≤ i ∧ i ≤ 3) (fun i => (3 - i).toNat) 0 ?_ ?_ ?_
  ·omega
  ·refine le_a [(1, some 1), (2, some 2), (3, some 3), (4, some 4)] ?_ ?_
   and_intros
   all_goals first | exact le_cl | skip
  ·intro i hi'
   have hiv : i = 0 ∨ i = 1 ∨ i = 2 ∨ i = 3 := by omega
   rcases hiv with rfl | rfl | rfl | rfl
   ·repeat' (first | refine dec_a htt ?_ | refine un_a ?_ | ((first | refine st_a (fun K hK => ?_) | refine call_c (c1) ?_); and_intros; (all_goals first | (refine hK _ ?_; clear hK K) | exact auto_cl | skip)))
    rw [thenQ_normal]
    refine wk_loop 1 ?_ (by omega) (by decide)
    refine le_a [(1, some 1), (2, some 2), (3, some 3), (4, some 4)] ?_ ?_
    and_intros
    all_goals first | exact le_cl | skip
   ·repeat' (first | refine dec_a htt ?_ | refine un_a ?_ | ((first | refine st_a (fun K hK => ?_) | refine call_c (c2) ?_); and_intros; (all_goals first | (refine hK _ ?_; clear hK K) | exact auto_cl | skip)))
    rw [thenQ_normal]
    refine wk_loop 2 ?_ (by omega) (by decide)
    refine le_a [(1, some 1), (2, some 2), (3, some 3), (4, some 4)] ?_ ?_
    and_intros
    all_goals first | exact le_cl | skip
   ·repeat' (first | refine dec_a htt ?_ | refine un_a ?_ | ((first | refine st_a (fun K hK => ?_) | refine call_c (c3) ?_); and_intros; (all_goals first | (refine hK _ ?_; clear hK K) | exact auto_cl | skip)))
    rw [thenQ_normal]
    refine wk_loop 3 ?_ (by omega) (by decide)
    refine le_a [(1, some 1), (2, some 2), (3, some 3), (4, some 4)] ?_ ?_
    and_intros
    all_goals first | exact le_cl | skip
   ·repeat' (first | refine dec_a htt ?_ | refine un_a ?_ | ((first | refine st_a (fun K hK => ?_) | refine call_c (a1) ?_ | refine call_c (a2) ?_); and_intros; (all_goals first | (refine hK _ ?_; clear hK K) | exact auto_cl | skip)) | (refine ret_a ?_; (try clear hB KB); (try clear hK K)))
    rfl
 ·obtain rfl := hk rfl
  have c1 := knockC_sp mode m s.c0 s.a s.f x.c0 b.c0 b.a hm hmo s1 b1 hs.af hs.fm hx.n0 (Int.le_trans hx.l0 hx.am)
  have c2 := knockC_sp mode m s.c1 s.a s.f x.c1 b.c1 b.a hm hmo s2 b2 hs.af hs.fm hx.n1 (Int.le_trans hx.l1 hx.am)
  have c3 := knockC_sp mode m s.c2 s.a s.f x.c2 b.c2 b.a hm hmo s3 b3 hs.af hs.fm hx.n2 (Int.le_trans hx.l2 hx.am)
  have a1 := knockA_sp m s.a s.f x.a b.a hm hs.a0 hs.af hs.fm hx.a0 hx.am hx.bk.a0 hx.bk.am
  have a2 := knockO_sp m s.a s.f x.own hm hs.a0 hs.af hs.fm hx.o0 hx.om
  rw [show stepM true 4 mode m s x b = ⟨knockC mode m s.c0 s.a s.f x.c0 b.c0 b.a, knockC mode m s.c1 s.a s.f x.c1 b.c1 b.a, knockC mode m s.c2 s.a s.f x.c2 b.c2 b.a, knockA m s.a s.f x.a b.a, knockA m s.a s.f x.own 0, shapeM 4 s.f x.f m⟩ from rfl]
  generalize knockC mode m s.c0 s.a s.f x.c0 b.c0 b.a = y1 at *
  generalize knockC mode m s.c1 s.a s.f x.c1 b.c1 b.a = y2 at *
  generalize knockC mode m s.c2 s.a s.f x.c2 b.c2 b.a = y3 at *
  generalize knockA m s.a s.f x.a b.a = y4 at *
  generalize knockA m s.a s.f x.own 0 = y5 at *
  generalize shapeM 4 s.f x.f m = y6 at *
  refine fn_a Tryz.func158 [.cell 14 154, .tmp 15] ?_
  repeat' (first | refine dec_a htt ?_ | refine un_a ?_ | ((first | refine st_a (fun K hK => ?_) | refine call_c (hi) ?_ | refine gcall_c (fun hg => hi2) ?_ | refine gcall_c (fun hg => hva) ?_ | refine gcall_c (fun hg => hvp) ?_ | refine call_c (hsh) ?_); and_intros; (all_goals first | (refine hK _ ?_; clear hK K) | exact auto_cl | skip)))
  refine cw_loop (X := Int) (fun i => mkSt [(0, .b (B true)), (1, .b (I 4)), (2, .b (I mode)), (3, .b (U m)), (11, .b (.c (.ptr 0 0))), (12, .b (.c (.ptr 1 0))), (13, .b (.c (.ptr 2 0))), (14, .b (.c (.ptr 3 0))), (16, .b (.c (.ptr 4 0))), (17, .b (I i))]
   [(0, .fix ((pixE s).map CV.p)), (1, .fix ((accE x).map CV.p)), (2, .fix ((pixE b).map CV.p)), (3, .fix ((accE zAcc).map CV.p)), (4, .fix [.p (PU (if 0 < i then y1 else 0)), .p (PU (if 1 < i then y2 else 0)), .p (PU (if 2 < i then y3 else 0)), .p (PU 0), .p (PU 0), .p (PU y6)])] 5) (fun i => 0 ≤ i ∧ i ≤ 3) (fun i => (3 - i).toNat) 0 ?_ ?_ ?_
  ·omega
  ·refine le_a [(1, some 1), (2, some 2), (3, some 3), (4, some 4)] ?_ ?_
   and_intros
   all_goals first | exact le_cl | skip
  ·intro i hi'
   have hiv : i = 0 ∨ i = 1 ∨ i = 2 ∨ i = 3 := by omega
   rcases hiv with rfl | rfl | rfl | rfl
   ·repeat' (first | refine dec_a htt ?_ | refine un_a ?_ | ((first | refine st_a (fun K hK => ?_) | refine call_c (c1) ?_); and_intros; (all_goals first | (refine hK _ ?_; clear hK K) | exact auto_cl | skip)))
    rw [thenQ_normal]
    refine wk_loop 1 ?_ (by omega) (by decide)
    refine le_a [(1, some 1), (2, some 2), (3, some 3), (4, some 4)] ?_ ?_
    and_intros
    all_goals first | exact le_cl | skip
   ·repeat' (first | refine dec_a htt ?_ | refine un_a ?_ | ((first | refine st_a (fun K hK => ?_) | refine call_c (c2) ?_); and_intros; (all_goals first | (refine hK _ ?_; clear hK K) | exact auto_cl | skip)))
    rw [thenQ_normal]
    refine wk_loop 2 ?_ (by omega) (by decide)
    refine le_a [(1, some 1), (2, some 2), (3, some 3), (4, some 4)] ?_ ?_
    and_intros
    all_goals first | exact le_cl | skip
   ·repeat' (first | refine dec_a htt ?_ | refine un_a ?_ | ((first | refine st_a (fun K hK => ?_) | refine call_c (c3) ?_); and_intros; (all_goals first | (refine hK _ ?_; clear hK K) | exact auto_cl | skip)))
    rw [thenQ_normal]
    refine wk_loop 3 ?_ (by omega) (by decide)
    refine le_a [(1, some 1), (2, some 2), (3, some 3), (4, some 4)] ?_ ?_
    and_intros
    all_goals first | exact le_cl | skip
   ·repeat' (first | refine dec_a htt ?_ | refine un_a ?_ | ((first | refine st_a (fun K hK => ?_) | refine call_c (a1) ?_ | refine call_c (a2) ?_); and_intros; (all_goals first | (refine hK _ ?_; clear hK K) | exact auto_cl | skip)) | (refine ret_a ?_; (try clear hB KB); (try clear hK K)))
    rfl
end Go.Proofs.YtlblgkelhibdoaaGreatDoor
