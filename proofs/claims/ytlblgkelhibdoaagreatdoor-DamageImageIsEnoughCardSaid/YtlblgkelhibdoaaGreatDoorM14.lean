/- Part of the proof: F23, F17, U6. -/
import Derived.Test.YtlblgkelhibdoaaGreatDoorM11
import Derived.Test.YtlblgkelhibdoaaGreatDoorM13
set_option linter.unusedSimpArgs false
set_option linter.unusedVariables false
set_option maxHeartbeats 8000000
set_option maxRecDepth 16000
namespace Go.Proofs.YtlblgkelhibdoaaGreatDoor
open Go Go.SL
open Go.RowKit (wrap64)
def gW (p : Pic) (c : Rect) : Int := if p.w.tdiv 5 % 3 = 0 then c.x1 - c.x0 else 1 + p.w % 5
def gH (p : Pic) (c : Rect) : Int := if p.w.tdiv 5 % 3 = 0 then c.y1 - c.y0 else 1 + p.h % 4
def solidOf (w h : Int) (p : Pixel) : Image := ⟨w, h, true, p, noPlane, noPlane, noPlane, noPlane, noPlane⟩
def gImage (p : Pic) (c : Rect) (m : Int) : Image :=
 if p.solid % 2 = 0 then solidOf (gW p c) (gH p c) (gPix p.row m 0) else imageOf (gW p c) (gH p c) (gPixels p.row (gW p c * gH p c).toNat m)
structure PicOk (p : Pic) : Prop where
 w : i64 p.w
 h : i64 p.h
 solid : i64 p.solid
 row : RowOk p.row
structure Small (c : Rect) : Prop where
 x0 : -10 ≤ c.x0
 x1 : c.x1 ≤ 20
 y0 : -10 ≤ c.y0
 y1 : c.y1 ≤ 20
 w : 1 ≤ c.x1 - c.x0 ∧ c.x1 - c.x0 ≤ 5
 h : 1 ≤ c.y1 - c.y0 ∧ c.y1 - c.y0 ≤ 4
theorem gW_le {p : Pic} {c : Rect} (hc : Small c) : 1 ≤ gW p c ∧ gW p c ≤ 5 ∧ 1 ≤ gH p c ∧ gH p c ≤ 4 ∧ 1 ≤ gW p c * gH p c ∧ gW p c * gH p c ≤ 20 := by
 have hw := hc.w
 have hh := hc.h
 have h1 : 1 ≤ gW p c ∧ gW p c ≤ 5 ∧ 1 ≤ gH p c ∧ gH p c ≤ 4 := by
  unfold gW gH; split <;> omega
 have h2 : gW p c * gH p c ≤ 5 * 4 := Int.mul_le_mul h1.2.1 h1.2.2.2 (by omega) (by omega)
 have h3 : 1 * 1 ≤ gW p c * gH p c := Int.mul_le_mul h1.1 h1.2.2.1 (by omega) (by omega)
 omega
theorem gImage_ok {w h : Int} {n : Nat} (hw : 1 ≤ w ∧ w ≤ 5) (hh : 1 ≤ h ∧ h ≤ 4) (hn : n = (w * h).toNat) : imageOk w h n = true := by
 have hp : 0 ≤ w * h := Int.mul_nonneg (by omega) (by omega)
 have hf : fitsM w h = true := by
  rw [fitsM, decide_eq_true_eq]
  have : w = 1 ∨ w = 2 ∨ w = 3 ∨ w = 4 ∨ w = 5 := by omega
  rcases this with rfl | rfl | rfl | rfl | rfl <;> omega
 rw [imageOk, hf, decide_eq_true (by omega)]; rfl
theorem image_spec (p : Pic) (c : Rect) (m : Int) (hp : PicOk p) (hc : Small c) (hm : u16 m) : Pure Sg 30 [ag (picE p), ag (rectE c), U m] (fun r => r = .b (ag (imageE (gImage p c m)))) := by
 obtain ⟨⟨a1, a2⟩, ⟨b1, b2⟩, ⟨c1, c2⟩, hr⟩ := hp
 have hl := gW_le (p := p) hc
 obtain ⟨x0, x1, y0, y1, hw, hh⟩ := hc
 have hd := i64_wrap (p.w.tdiv 5)
 rw [wtdiv a1 a2 (by omega)] at hd
 refine fn_a Tryz.func30 [.cell 6 71] ?_
 repeat' (first | refine un_a ?_ | ((with_reducible refine cw_stepV (id := 4) (fun K hW => ?_)); (try simp (maxSteps := 1000000) (disch := omega) only [go_sem]); and_intros; (all_goals first | (refine hK _ ?_; clear hK K) | exact auto_cl | skip)) | ((first | refine st_a (fun K hK => ?_) | refine call_c (modp_spec _ _ (by omega) (by omega)) ?_); and_intros; (all_goals first | (refine hK _ ?_; clear hK K) | exact auto_cl | skip)) | (apply cw_ite; (case hf => rfl); (case hc => exact ev_a); (all_goals first | (intro hb; (try simp only [hbs] at hb)) | skip)) | exact atN_intro)
 have hlen : (gPixels p.row (gW p c * gH p c).toNat m).length = (gW p c * gH p c).toNat := by simp [gPixels]
 refine call_as ?_ ?_ (by simp (maxSteps := 1000000) (disch := omega) only [go_sem]) (pixels_spec p.row (gW p c * gH p c) m hr (by omega) (by omega) hm)
 try simp (maxSteps := 1000000) (disch := omega) only [go_sem]
 try (refine hK _ ?_; clear hK K)
 ·refine hW _ (mkSt [(2, .b (U m)), (3, .b (.c (.ptr 0 0))), (4, .b (.c (.ptr 1 0))), (6, .b (.c (.ptr 2 0))), (7, .b (I (gW p c))), (8, .b (I (gH p c))), (9, .b (.c (.p (pixL (gPixels p.row (gW p c * gH p c).toNat m)))))]
   [(0, .fix ((picE p).map CV.p)), (1, .fix ((rectE c).map CV.p)), (2, .fix ((List.range 28).map fun _ => CV.p .any))] 3) ?_ ?_
  ·clear hW
   refine le_a [(1, some 1), (2, some 2)] ?_ ?_
   and_intros
   all_goals first | exact le_cl | skip
  ·clear hW
   have hpl : 0 < (gPixels p.row (gW p c * gH p c).toNat m).length := by omega
   repeat' (first | refine un_a ?_ | ((first | refine st_a (fun K hK => ?_) | refine call_c (modp_spec _ _ (by omega) (by omega)) ?_ | refine call_c (solid_spec _ _ _) ?_ | refine call_c (imageOf_spec _ _ _ (by omega)) ?_); and_intros; (all_goals first | (refine hK _ ?_; clear hK K) | exact auto_cl | skip)) | (refine if_a (fun hb => ?_) (fun hb => ?_); all_goals try exact bad_a) | (refine ret_a ?_; (try clear hB KB); (try clear hK K)))
   ·have e2 : gImage p c m = solidOf (gW p c) (gH p c) (gPix p.row m 0) := by rw [gImage, if_pos hb]
    have e : (gPixels p.row (gW p c * gH p c).toNat m).getD 0 default = gPix p.row m 0 := by
     have : 0 < (gW p c * gH p c).toNat := by omega
     simp [gPixels, this]
    rw [e2, e]; rfl
   ·have e2 : gImage p c m = imageOf (gW p c) (gH p c) (gPixels p.row (gW p c * gH p c).toNat m) := by rw [gImage, if_neg hb]
    rw [e2, imageOfM, if_pos (gImage_ok (by omega) (by omega) hlen)]; rfl
 ·have e : IntKind.i64.wrap (gW p c * gH p c) = gW p c * gH p c := w64' (by omega) (by omega)
  show [_, I (IntKind.i64.wrap (gW p c * gH p c)), _] = _
  rw [e]; rfl
end Go.Proofs.YtlblgkelhibdoaaGreatDoor
set_option maxHeartbeats 4000000
set_option maxRecDepth 16000
namespace Go.Proofs.YtlblgkelhibdoaaGreatDoor
open Go Go.SL
open Go.RowKit (wrap64)
def nextOpen (l : List Op) (o : Op) : List Op := if o.kind = 2 then l ++ [o] else if o.kind = 3 then l.dropLast else l
def opsGo (b : Int) (n : Nat) : Nat → List Op → List Op → Int × Int
 | i, [], l => if 0 < l.length then (18, i) else (0, 0)
 | i, o :: r, l => if opErr b n o l = 0 then opsGo b n (i + 1) r (nextOpen l o) else (opErr b n o l, i)
def opsM (s : Script) : Int × Int := if frameM s = 0 then opsGo s.bits s.images.length 0 s.ops [] else (frameM s, 0)
theorem opsGo_step {b : Int} {n : Nat} {ops : List Op} {i : Nat} {l : List Op} (hi : i < ops.length) : opsGo b n i (ops.drop i) l =
  if opErr b n (ops.getD i default) l = 0 then opsGo b n (i + 1) (ops.drop (i + 1)) (nextOpen l (ops.getD i default)) else (opErr b n (ops.getD i default) l, (i : Int)) := by
 rw [List.drop_eq_getElem_cons hi, List.getD_eq_getElem?_getD, List.getElem?_eq_getElem hi]
 rfl
theorem frameM_ok {s : Script} (h : frameM s = 0) : s.images.length ≤ 64 ∧ s.ops.length ≤ 4096 := by
 unfold frameM at h
 split at h
 ·cases h
 split at h
 ·cases h
 split at h
 ·cases h
 split at h
 ·cases h
 split at h
 ·cases h
 ·omega
theorem lent_open {l : List Op} {g : Nat → Nat → PV} (hg : ∀ k, k < l.length → ∀ j, j < 12 → g k j = fnOf opE l k j) : BV.le (.c (.p (.lst 12 l.length g))) (.c (.p (opL l))) :=
 bvle_p (lst_le hg)
theorem push_open {l : List Op} {o : Op} {g f : Nat → Nat → PV} (hg : ∀ k, k < l.length → ∀ j, j < 12 → g k j = fnOf opE l k j) (hf : ∀ j, j < 12 → f 0 j = (opE o).getD j .any) :
  ∀ i, i < (l ++ [o]).length → ∀ j, j < 12 → PV.le (appF l.length g f i j) (fnOf opE (l ++ [o]) i j) := fun i hi j hj => by
 rw [List.length_append] at hi
 have := arr_push (enc := opE) (xs := l) (x := o) (s := 12) (g := f) hf i hi j hj
 unfold appF at this ⊢
 by_cases h : i < l.length
 ·rw [if_pos h] at this ⊢
  rw [hg i h j hj]; exact this
 ·rw [if_neg h] at this ⊢
  exact this
theorem pop_open {l : List Op} {g : Nat → Nat → PV} (hg : ∀ k, k < l.length → ∀ j, j < 12 → g k j = fnOf opE l k j) : ∀ k, k < l.dropLast.length → ∀ j, j < 12 → g k j = fnOf opE l.dropLast k j := fun k hk j hj => by
 rw [List.length_dropLast] at hk
 rw [hg k (by omega) j hj]
 have e : l.dropLast.getD k default = l.getD k default := by
  rw [List.getD_eq_getElem?_getD, List.getD_eq_getElem?_getD, List.getElem?_dropLast, if_pos hk]
 unfold fnOf
 rw [e]
theorem opErr_pop {b : Int} {n : Nat} {o : Op} {l : List Op} (h : opErr b n o l = 0) (hk : o.kind = 3) : 0 < l.length := by
 unfold opErr at h
 rw [if_neg (by omega)] at h
 split at h
 ·cases h
 split at h
 ·cases h
 ·omega
theorem vops_spec (s : Script) (hs : ScriptLen s) : Pure Sg 37 [ag (scriptE s)] (fun x => x = .tup [I (opsM s).1, I (opsM s).2]) := by
 have hf := frame_spec s hs
 obtain ⟨h1, h2, h3⟩ := id hs
 refine fn_a Tryz.func37 [.tmp 2, .tmp 3] ?_
 repeat' (first | refine un_a ?_ | ((first | refine st_a (fun K hK => ?_) | refine call_c (hf) ?_); and_intros; (all_goals first | (refine hK _ ?_; clear hK K) | exact auto_cl | skip)) | (refine if_a (fun hb => ?_) (fun hb => ?_); all_goals try exact bad_a) | (refine ret_a ?_; (try clear hB KB); (try clear hK K)))
 ·rw [opsM, if_neg hb]
 have hfo := frameM_ok hb
 rw [opsM, if_pos hb]
 clear hf
 refine cw_loop (X := Nat × List Op × Nat × (Nat → Nat → PV)) (fun x => mkSt [(1, .b (.c (.ptr 0 0))), (5, .b (.c (.own 1 x.2.1.length))), (15, .b (.c (.p (opL s.ops)))), (16, .b (I s.ops.length)), (17, .b (I x.1))]
  [(0, .fix ((scriptE s).map CV.p)), (1, .arr 89 12 x.2.2.1 x.2.2.2)] 2) (fun x => x.1 ≤ s.ops.length ∧ x.2.1.length ≤ x.1 ∧ x.2.1.length ≤ x.2.2.1 ∧ (∀ k, k < x.2.1.length → ∀ j, j < 12 → x.2.2.2 k j = fnOf opE x.2.1 k j) ∧
   opsGo s.bits s.images.length x.1 (s.ops.drop x.1) x.2.1 = opsGo s.bits s.images.length 0 s.ops []) (fun x => s.ops.length - x.1) (0, [], 0, fun _ _ => .any) ?_ ?_ ?_
 ·exact ⟨by omega, Nat.le_refl _, Nat.le_refl _, fun k hk => by simp at hk, rfl⟩
 ·refine le_a [(1, none)] ?_ ?_
  and_intros
  all_goals first | exact le_cl | skip
 ·rintro ⟨i, l, m, g⟩ ⟨hi, hl, hm, hg, hgo⟩
  dsimp only at hi hl hm hg hgo ⊢
  have hv := vop_spec s i l hs (by omega)
  have he : i < s.ops.length → opErrAt s i l = opErr s.bits s.images.length (s.ops.getD i default) l := fun h => by
   rw [opErrAt, if_neg (by omega), Int.toNat_natCast]
  have hpop : i < s.ops.length → opErrAt s i l = 0 → (s.ops.getD (i : Int).toNat default).kind = 3 → 0 < l.length := fun h1 h2 h3 => by
   rw [he h1] at h2
   exact opErr_pop h2 h3
  repeat' (first | refine un_a ?_ | (refine st_a (fun K hK => ?_); and_intros; (all_goals first | (refine hK _ ?_; clear hK K) | exact auto_cl | skip)) | (refine if_a (fun hb => ?_) (fun hb => ?_); all_goals try exact bad_a) | (refine ret_a ?_; (try clear hB KB); (try clear hK K)))
  ·refine call_lends ?_ ?_ (by simp (maxSteps := 1000000) (disch := omega) only [go_sem]) ?_ (hv)
   try simp (maxSteps := 1000000) (disch := omega) only [go_sem]
   try (refine hK _ ?_; clear hK K)
   ·repeat' (first | refine un_a ?_ | (refine st_a (fun K hK => ?_); and_intros; (all_goals first | (refine hK _ ?_; clear hK K) | exact auto_cl | skip)) | ((first | apply cw_ite | apply cw_iteN); (case hf => rfl); (case hc => exact ev_a); (all_goals first | (intro hb; (try simp only [hbs] at hb)) | skip)) | exact atN_intro | (refine if_a (fun hb => ?_) (fun hb => ?_); all_goals try exact bad_a) | (refine ret_a ?_; (try clear hB KB); (try clear hK K)))
    ·rw [he (by omega)] at hb ⊢
     rw [← hgo, opsGo_step (by omega), if_neg hb]
    ·have hn : ∀ l', nextOpen l (s.ops.getD i default) = l' → opsGo s.bits s.images.length (i + 1) (s.ops.drop (i + 1)) l' = opsGo s.bits s.images.length 0 s.ops [] := by
      rintro l' rfl
      have q := opsGo_step (b := s.bits) (n := s.images.length) (l := l) (show i < s.ops.length by omega)
      rw [if_pos (by rw [← he (by omega)]; exact hb)] at q
      rw [← q, hgo]
     rw [thenQ_normal]
     simp only [Int.toNat_natCast] at hpop ⊢
     by_cases hk2 : (s.ops.getD i default).kind = 2
     ·have e2 : ((s.ops.getD i default).kind == 2) = true := by rw [hk2]; rfl
      simp only [e2, St.ite_t]
      refine wk_loop (i + 1, l ++ [s.ops.getD i default], l.length + 1, fnOf opE (l ++ [s.ops.getD i default])) ?_ ⟨by omega, by simp; omega, by simp, fun _ _ _ _ => rfl, hn _ (by rw [nextOpen, if_pos hk2])⟩ (by dsimp only; omega)
      refine le_a [(1, some 4)] ?_ ?_
      and_intros
      all_goals first | exact le_cl | skip
      ·simp
      ·refine .inr fun a ha j hj => push_open hg (fun j hj => ?_) a (by simpa using ha) j hj
       have hivl : j = 0 ∨ j = 1 ∨ j = 2 ∨ j = 3 ∨ j = 4 ∨ j = 5 ∨ j = 6 ∨ j = 7 ∨ j = 8 ∨ j = 9 ∨ j = 10 ∨ j = 11 := by omega
       rcases hivl with rfl | rfl | rfl | rfl | rfl | rfl | rfl | rfl | rfl | rfl | rfl | rfl <;> rfl
     ·have e2 : ((s.ops.getD i default).kind == 2) = false := by simpa using hk2
      simp only [e2, St.ite_f]
      by_cases hk3 : (s.ops.getD i default).kind = 3
      ·have e3 : ((s.ops.getD i default).kind == 3) = true := by rw [hk3]; rfl
       simp only [e3, St.ite_t]
       have hp := hpop (by omega) hb hk3
       refine wk_loop (i + 1, l.dropLast, m, g) ?_ ⟨by omega, by rw [List.length_dropLast]; dsimp only; omega, by rw [List.length_dropLast]; dsimp only; omega, pop_open hg, hn _ (by rw [nextOpen, if_neg hk2, if_pos hk3])⟩ (by dsimp only; omega)
       refine le_a [(1, some 1)] ?_ ?_
       and_intros
       all_goals first | exact le_cl | skip
       rw [List.length_dropLast]; omega
      ·have e3 : ((s.ops.getD i default).kind == 3) = false := by simpa using hk3
       simp only [e3, St.ite_f]
       refine wk_loop (i + 1, l, m, g) ?_ ⟨by omega, by dsimp only; omega, hm, hg, hn _ (by rw [nextOpen, if_neg hk2, if_neg hk3])⟩ (by dsimp only; omega)
       refine le_a [(1, some 1)] ?_ ?_
       and_intros
       all_goals first | exact le_cl | skip
   ·simp (maxSteps := 1000000) (disch := omega) only [go_sem, argsLe_cons, argsLe_nil]
    rw [if_pos hm]
    exact ⟨bvle_refl, bvle_refl, lent_open hg⟩
   ·trivial
  ·have hi2 : i = s.ops.length := by omega
   (try rw [opsM, if_pos (by assumption)]); rw [← hgo, hi2, List.drop_length, opsGo, if_pos (by omega)]
  ·have hi2 : i = s.ops.length := by omega
   (try rw [opsM, if_pos (by assumption)]); rw [← hgo, hi2, List.drop_length, opsGo, if_neg (by omega)]
end Go.Proofs.YtlblgkelhibdoaaGreatDoor
set_option maxHeartbeats 2000000
set_option maxRecDepth 16000
namespace Go.Proofs.YtlblgkelhibdoaaGreatDoor
open Go Go.SL
open Go.RowKit (wrap64)
attribute [local go_sem] qE exE
theorem bor_pow {n : Int} {k : Nat} (h0 : 0 ≤ n) (hk : k < 64) (hm : n % 2 ^ (k + 1) = 0) (h : n + 2 ^ k < 18446744073709551616) : bOr .u64 n (2 ^ k) = n + 2 ^ k := by
 obtain ⟨m, rfl⟩ := Int.eq_ofNat_of_zero_le h0
 have p : ((2 : Int) ^ k) = ((2 ^ k : Nat) : Int) := by simp
 have p1 : ((2 : Int) ^ (k + 1)) = ((2 ^ (k + 1) : Nat) : Int) := by simp
 rw [p] at h ⊢
 rw [p1] at hm
 have hlt : m + 2 ^ k < 18446744073709551616 := by omega
 have hm' : m % 2 ^ (k + 1) = 0 := by omega
 show IntKind.u64.wrap (BitVec.ofInt 64 (m : Int) ||| BitVec.ofInt 64 ((2 ^ k : Nat) : Int)).toNat = _
 rw [BitVec.toNat_or, BitVec.toNat_ofInt, BitVec.toNat_ofInt]
 have e1 : ((m : Int) % ((2 ^ 64 : Nat) : Int)).toNat = m := by omega
 have e2 : (((2 ^ k : Nat) : Int) % ((2 ^ 64 : Nat) : Int)).toNat = 2 ^ k := by omega
 rw [e1, e2]
 have e3 : m ||| 2 ^ k = m + 2 ^ k := by
  have h1 : 2 ^ (k + 1) * (m / 2 ^ (k + 1)) = m := by have := Nat.div_add_mod m (2 ^ (k + 1)); omega
  have := Nat.two_pow_add_eq_or_of_lt (b := 2 ^ k) (i := k + 1) (Nat.pow_lt_pow_right (by decide) (by omega)) (m / 2 ^ (k + 1))
  rw [h1] at this
  exact this.symm
 rw [e3, wu64 (by omega) (by omega)]
 omega
theorem validExact_sp (x : Ex) (h : ExOk x) : Pure Sg 193 [ag (exE x)] (fun r => r = .b (B true)) := by
 obtain ⟨p0, p1, q0, q1, r0, r1, d0, d1, _⟩ := h
 have g1 : decide (x.p / 18446744073709551616 < 4294967296) = true := decide_eq_true (by omega)
 have g2 : decide (x.q < 70368744177664) = true := decide_eq_true q1
 have g3 : decide (x.r < 8589934592) = true := decide_eq_true r1
 have g4 : decide (x.d ≥ 1) = true := decide_eq_true d0
 refine fn_a Tryz.func193 [.tmp 2] ?_
 repeat' (first | (refine st_a (fun K hK => ?_); and_intros; (all_goals first | (refine hK _ ?_; clear hK K) | exact auto_cl | skip)) | (refine ret_a ?_; (try clear hB KB); (try clear hK K)))
 rw [g1, g2, g3, g4]; rfl
theorem floor_sp (x : Ex) (h : ExOk x) : Pure Sg 188 [ag (exE x)] (fun r => r = .tup [U64 (floorX x), B true]) := by
 have hv := validExact_sp x h
 have ht : True := trivial
 have t1 := times_sp x false 9223372036854775808 h ⟨by decide, by decide⟩
 have b1 : decide (timesM x false 9223372036854775808 ≥ 0) = false := by
  refine decide_eq_false fun q => ?_
  have q1 := (times_ge (t := false) h (by decide)).1 q
  have q2 := geX_mono (by have := h.d0; omega) q1 (show (4611686018427387904 : Int) ≤ 9223372036854775808 by decide)
  have := h.b
  simp only [Bool.false_eq_true, if_false] at q2
  rw [q2] at this; cases this
 refine fn_a Tryz.func188 [.tmp 2, .tmp 3] ?_
 repeat' (first | refine dec_a b1 ?_ | refine un_a ?_ | ((first | refine st_a (fun K hK => ?_) | refine call_c (hv) ?_ | refine gcall_c (fun hg => t1) ?_); and_intros; (all_goals first | (refine hK _ ?_; clear hK K) | exact auto_cl | skip)))
 refine cw_loop (X := Int × Int) (fun s => mkSt [(1, .b (.c (.ptr 0 0))), (4, .b (U64 s.1)), (5, .b (I s.2))] [(0, .fix ((exE x).map CV.p))] 1)
  (fun s => -1 ≤ s.2 ∧ s.2 ≤ 62 ∧ 0 ≤ s.1 ∧ s.1 + 2 ^ (s.2 + 1).toNat ≤ 9223372036854775808 ∧ s.1 % 2 ^ (s.2 + 1).toNat = 0 ∧ bis (geX x 1) (s.2 + 1).toNat s.1 = floorX x) (fun s => (s.2 + 1).toNat) (0, 62) ?_ ?_ ?_
 ·exact ⟨by decide, by decide, by decide, by decide, by decide, rfl⟩
 ·refine le_a [(1, some 1)] ?_ ?_
  and_intros
  all_goals first | exact le_cl | skip
 ·rintro ⟨n, i⟩ ⟨i0, i1, n0, n1, hm, hs⟩
  dsimp only at i0 i1 n0 n1 hm hs ⊢
  by_cases hi : 0 ≤ i
  ·obtain ⟨k, rfl⟩ := Int.eq_ofNat_of_zero_le hi
   have ek : ((k : Int) + 1).toNat = k + 1 := rfl
   rw [ek] at n1 hm hs
   have hp : (2 : Int) ^ (k + 1) = 2 ^ k + 2 ^ k := by rw [Int.pow_succ]; omega
   have hpos : (0 : Int) < 2 ^ k := Int.pow_pos (by decide)
   rw [hp] at n1
   have hor := bor_pow (n := n) (k := k) n0 (by omega) hm (by omega)
   have t2 := times_sp x false (n + 2 ^ k) h ⟨by omega, by omega⟩
   have tg := times_ge (t := false) (n := n + 2 ^ k) h (by omega)
   simp only [Bool.false_eq_true, if_false] at tg
   rw [show bis (geX x 1) (k + 1) n = bis (geX x 1) k (if geX x 1 (n + 2 ^ k) = true then n + 2 ^ k else n) from rfl] at hs
   have hm1 : n % 2 ^ k = 0 := by
    rw [← Int.emod_emod_of_dvd n (show (2 : Int) ^ k ∣ 2 ^ (k + 1) from ⟨2, by rw [Int.pow_succ]⟩), hm, Int.zero_emod]
   have hm2 : (n + 2 ^ k) % 2 ^ k = 0 := by rw [Int.add_emod_right, hm1]
   have g0 : decide ((k : Int) ≥ 0) = true := decide_eq_true hi
   have es : IntKind.u64.wrap (1 * 2 ^ min ((k : Int)).toNat 64) = 2 ^ k := by
    rw [Int.toNat_natCast, Nat.min_eq_left (by omega), Int.one_mul]
    exact wu64 (by omega) (by omega)
   have eb : bOr .u64 n (IntKind.u64.wrap (1 * 2 ^ min ((k : Int)).toNat 64)) = n + 2 ^ k := by rw [es, hor]
   rw [← eb] at t2
   have ez : ((k : Int) - 1 + 1).toNat = k := by omega
   by_cases hg : timesM x false (n + 2 ^ k) ≥ 0
   ·have g1 : decide (timesM x false (bOr .u64 n (IntKind.u64.wrap (1 * 2 ^ min ((k : Int)).toNat 64))) ≥ 0) = true := by rw [eb]; exact decide_eq_true hg
    rw [if_pos (tg.1 hg)] at hs
    repeat' (first | refine dec_a (And.intro g0 g1) ?_ | refine un_a ?_ | ((first | refine st_a (fun K hK => ?_) | refine call_c (t2) ?_); and_intros; (all_goals first | (refine hK _ ?_; clear hK K) | exact auto_cl | skip)) | (apply cw_iteN; (case hf => rfl); (case hc => exact ev_a); (all_goals first | (intro hb; (try simp only [hbs] at hb)) | skip)) | exact atN_intro)
    refine wk_loop (n + 2 ^ k, (k : Int) - 1) ?_ ⟨by dsimp only; omega, by dsimp only; omega, by dsimp only; omega, ?_, ?_, ?_⟩ ?_
    ·refine le_a [(1, some 1)] ?_ ?_
     and_intros
     all_goals first | exact le_cl | skip
     exact .inl (by rw [eb, if_pos hg])
    ·dsimp only; rw [ez]; omega
    ·dsimp only; rw [ez]; exact hm2
    ·dsimp only; rw [ez]; exact hs
    ·dsimp only; omega
   ·have g1 : decide (timesM x false (bOr .u64 n (IntKind.u64.wrap (1 * 2 ^ min ((k : Int)).toNat 64))) ≥ 0) = false := by rw [eb]; exact decide_eq_false hg
    rw [if_neg (fun q => hg (tg.2 q))] at hs
    repeat' (first | refine dec_a (And.intro g0 g1) ?_ | refine un_a ?_ | ((first | refine st_a (fun K hK => ?_) | refine call_c (t2) ?_); and_intros; (all_goals first | (refine hK _ ?_; clear hK K) | exact auto_cl | skip)) | (apply cw_iteN; (case hf => rfl); (case hc => exact ev_a); (all_goals first | (intro hb; (try simp only [hbs] at hb)) | skip)) | exact atN_intro)
    refine wk_loop (n, (k : Int) - 1) ?_ ⟨by dsimp only; omega, by dsimp only; omega, by dsimp only; omega, ?_, ?_, ?_⟩ ?_
    ·refine le_a [(1, some 1)] ?_ ?_
     and_intros
     all_goals first | exact le_cl | skip
     exact .inl (by rw [eb, if_neg hg])
    ·dsimp only; rw [ez]; omega
    ·dsimp only; rw [ez]; exact hm1
    ·dsimp only; rw [ez]; exact hs
    ·dsimp only; omega
  ·have g0 : decide (i ≥ 0) = false := decide_eq_false hi
   have ez : (i + 1).toNat = 0 := by omega
   rw [ez] at hs
   rw [← hs]
   repeat' (first | refine dec_a g0 ?_ | refine un_a ?_ | (refine st_a (fun K hK => ?_); and_intros; (all_goals first | (refine hK _ ?_; clear hK K) | exact auto_cl | skip)) | (refine ret_a ?_; (try clear hB KB); (try clear hK K)))
   rfl
theorem half_exact_sp (x : Ex) (h : ExOk x) : Pure Sg 178 [ag (exE x)] (fun r => r = .tup [U64 (hx x), B true]) := by
 have hf := floor_sp x h
 have ht : True := trivial
 obtain ⟨_, _, f0, f1⟩ := floorX_spec h
 have t1 := times_sp x true (2 * floorX x + 1) h ⟨by omega, by omega⟩
 have tg := times_ge (t := true) (n := 2 * floorX x + 1) h (by omega)
 simp only [if_true] at tg
 unfold hx
 refine fn_a Tryz.func178 [.tmp 2, .tmp 3] ?_
 by_cases hg : timesM x true (2 * floorX x + 1) ≥ 0
 ·have g1 : decide (timesM x true (2 * floorX x + 1) ≥ 0) = true := decide_eq_true hg
  have g2 : decide (floorX x + 1 ≥ 9223372036854775808) = false := decide_eq_false (by omega)
  rw [if_pos (tg.1 hg)]
  repeat' (first | with_reducible exact tr_a | refine dec_a (And.intro g1 (And.intro g2 ht)) ?_ | refine un_a ?_ | ((first | refine st_a (fun K hK => ?_) | refine call_c (hf) ?_ | refine call_c (t1) ?_); and_intros; (all_goals first | (refine hK _ ?_; clear hK K) | exact auto_cl | skip)) | (refine ret_a ?_; (try clear hB KB); (try clear hK K)))
 ·have g1 : decide (timesM x true (2 * floorX x + 1) ≥ 0) = false := decide_eq_false hg
  have g2 : decide (floorX x ≥ 9223372036854775808) = false := decide_eq_false (by omega)
  rw [if_neg (fun q => hg (tg.2 q))]
  repeat' (first | with_reducible exact tr_a | refine dec_a (And.intro g1 (And.intro g2 ht)) ?_ | refine un_a ?_ | ((first | refine st_a (fun K hK => ?_) | refine call_c (hf) ?_ | refine call_c (t1) ?_); and_intros; (all_goals first | (refine hK _ ?_; clear hK K) | exact auto_cl | skip)) | (refine ret_a ?_; (try clear hB KB); (try clear hK K)))
end Go.Proofs.YtlblgkelhibdoaaGreatDoor
