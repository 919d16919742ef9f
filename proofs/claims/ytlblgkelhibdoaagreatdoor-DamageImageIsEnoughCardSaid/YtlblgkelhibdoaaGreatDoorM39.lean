/- Part of the proof: TE, VC. -/
import Derived.Test.YtlblgkelhibdoaaGreatDoorM19
import Derived.Test.YtlblgkelhibdoaaGreatDoorM25
import Derived.Test.YtlblgkelhibdoaaGreatDoorM38
set_option linter.unusedSimpArgs false
set_option linter.unusedVariables false
set_option maxRecDepth 8000
set_option maxHeartbeats 2000000
namespace Go.Proofs.YtlblgkelhibdoaaGreatDoor
open Go Go.SL
open Go.RowKit (wrap64)
theorem opsM_ok {t : Script} (hf : frameM t = 0) (hk : okAll t.bits t.images.length t.ops []) (ho : openAfter t.ops [] = []) : opsM t = (0, 0) := by
 rw [opsM, if_pos hf]
 exact opsGo_ok hk ho
theorem gPixel_v (n : N5) {m : Int} (h : 0 ≤ m) : PixV (gPixel n m) m := by
 have f1 := gSample_le n.e m h
 have a1 := gSample_le (n.d.tdiv 3) (gSample n.e m) f1.1
 have key : ∀ a, 0 ≤ a → a ≤ gSample n.e m → PixV ⟨gSample n.a a, gSample n.b a, gSample n.c a, a, gSample n.e m⟩ m := fun a h1 h2 => by
  have c0 := gSample_le n.a a h1
  have c1 := gSample_le n.b a h1
  have c2 := gSample_le n.c a h1
  exact ⟨c0.1, c1.1, c2.1, c0.2, c1.2, c2.2, h2, f1.2⟩
 unfold gPixel
 dsimp only
 split
 ·exact key _ a1.1 a1.2
 ·exact key _ f1.1 (Int.le_refl _)
theorem gPix_v (r : Row) (i : Nat) {m : Int} (h : 0 ≤ m) : PixV (gPix r m i) m := by
 have hb : ∀ i, PixV (gBase r m i) m := fun i => by unfold gBase; exact gPixel_v _ h
 unfold gPix
 split
 ·exact ⟨Int.le_refl _, Int.le_refl _, Int.le_refl _, Int.le_refl _, Int.le_refl _, Int.le_refl _, Int.le_refl _, h⟩
 split
 ·obtain ⟨a, b, c, d, e, f, g, k⟩ := hb i
  exact ⟨a, b, c, by dsimp only; omega, by dsimp only; omega, by dsimp only; omega, Int.le_refl _, Int.le_refl _⟩
 split
 ·exact hb 0
 ·exact hb i
theorem formed_solid {w h : Int} {p : Pixel} (hf : fitsM w h = true) : formedM (solidOf w h p) = true := by
 unfold formedM
 rw [show (solidOf w h p).w = w from rfl, show (solidOf w h p).h = h from rfl, hf]
 rfl
theorem imgv_solid {w h m : Int} {p : Pixel} (hf : fitsM w h = true) (hp : PixV p m) : ImgV (solidOf w h p) m := ⟨formed_solid hf, fun x y _ _ _ _ => hp⟩
theorem formed_of {w h : Int} {l : List Pixel} (hf : fitsM w h = true) (hl : (l.length : Int) = w * h) : formedM (imageOf w h l) = true := by
 obtain ⟨b1, b2, b3, b4, b5, b6⟩ := fits_bound hf
 have e : (h - 1) * w + w = w * h := by rw [Int.sub_mul, Int.one_mul, Int.mul_comm h w]; omega
 have hk : ∀ k, planeFit (imageOf w h l) (planeOf w h l k) = true := fun k => by
  unfold planeFit planeOk
  rw [show (imageOf w h l).solid = false from rfl, if_neg (by decide)]
  have : (planeOf w h l k).s.length = l.length := by simp [planeOf]
  rw [this]
  show (fitsM w h && decide (w ≤ w) && decide (w ≤ 16777216) && decide ((h - 1) * w + w ≤ (l.length : Int)) && decide (w = w) && decide (h = h)) = true
  rw [hf, e, hl]
  simp
  omega
 unfold formedM
 rw [show (imageOf w h l).w = w from rfl, show (imageOf w h l).h = h from rfl, hf]
 show (true && (planeFit _ (planeOf w h l 0) && planeFit _ (planeOf w h l 1) && planeFit _ (planeOf w h l 2) && planeFit _ (planeOf w h l 3) && planeFit _ (planeOf w h l 4) && (false || decide (zPix = zPix)))) = true
 rw [hk, hk, hk, hk, hk]
 simp
theorem pix_of {w h : Int} {l : List Pixel} {x y : Int} (hl : (l.length : Int) = w * h) (hx : 0 ≤ x) (hxw : x < w) (hy : 0 ≤ y) (hyh : y < h) : (y * w + x).toNat < l.length ∧ pixelM (imageOf w h l) x y = l.getD (y * w + x).toNat default := by
 have e1 : 0 ≤ y * w := mul_nn hy (by omega)
 have e2 : y * w ≤ (h - 1) * w := mul_lr (by omega) (Int.le_refl _) (by omega) (by omega)
 have e : (h - 1) * w + w = w * h := by rw [Int.sub_mul, Int.one_mul, Int.mul_comm h w]; omega
 have hi : (y * w + x).toNat < l.length := by omega
 refine ⟨hi, ?_⟩
 unfold pixelM
 rw [if_neg (by show ¬ false = true; decide)]
 have key : ∀ k, (planeOf w h l k).s.getD (y * w + x).toNat 0 = pixC k (l.getD (y * w + x).toNat default) := fun k => by
  simp only [planeOf, List.getD_eq_getElem?_getD, List.getElem?_map, List.getElem?_eq_getElem hi, Option.map_some, Option.getD_some]
 show (⟨(planeOf w h l 0).s.getD (y * w + x).toNat 0, (planeOf w h l 1).s.getD (y * w + x).toNat 0, (planeOf w h l 2).s.getD (y * w + x).toNat 0, (planeOf w h l 3).s.getD (y * w + x).toNat 0, (planeOf w h l 4).s.getD (y * w + x).toNat 0⟩ : Pixel) = _
 rw [key, key, key, key, key]
 rfl
theorem imgv_of {w h m : Int} {l : List Pixel} (hf : fitsM w h = true) (hl : (l.length : Int) = w * h) (hp : ∀ p ∈ l, PixV p m) : ImgV (imageOf w h l) m := by
 refine ⟨formed_of hf hl, fun x y h1 h2 h3 h4 => ?_⟩
 obtain ⟨hi, e⟩ := pix_of hl h1 h2 h3 h4
 rw [e, List.getD_eq_getElem?_getD, List.getElem?_eq_getElem hi]
 exact hp _ (List.getElem_mem _)
theorem imgv_g {p : Pic} {c : Rect} {m : Int} (hc : Small c) (hm : 0 ≤ m) : ImgV (gImage p c m) m := by
 have hl := gW_le (p := p) hc
 have hlen : (gPixels p.row (gW p c * gH p c).toNat m).length = (gW p c * gH p c).toNat := by simp [gPixels]
 have hok := gImage_ok (w := gW p c) (h := gH p c) ⟨hl.1, hl.2.1⟩ ⟨hl.2.2.1, hl.2.2.2.1⟩ hlen
 have hf : fitsM (gW p c) (gH p c) = true := by
  unfold imageOk at hok
  rw [Bool.and_eq_true] at hok; exact hok.1
 unfold gImage
 split
 ·exact imgv_solid hf (gPix_v _ _ hm)
 ·refine imgv_of hf (by rw [hlen]; omega) fun q hq => ?_
  unfold gPixels at hq
  obtain ⟨i, _, rfl⟩ := List.mem_map.1 hq
  exact gPix_v _ _ hm
structure Of (c : Scene) (s : Script) : Prop where
 b : s.bits = (gScript c).bits
 cv : s.canvas = gCanvas c
 w : s.tileW = gTileW c
 h : s.tileH = gTileH c
 o : s.order = (gScript c).order
 n1 : 1 ≤ s.images.length
 n2 : s.images.length ≤ 6
 im : ImgsV s
 V : VOps s
 op : ∀ o ∈ s.ops, 0 ≤ o.opacity
theorem Of.mx {c : Scene} {s : Script} (h : Of c s) : maxOf s.bits = gMax c.bits := by rw [h.b]; exact maxOf_g c
theorem full_g (c : Scene) : Full (gMax c.bits) := ⟨by have := gMax_u c.bits; omega⟩
theorem Of.pt {c : Scene} {s : Script} (h : Of c s) {x y : Int} (hx : inR (gCanvas c) x y) : Pt s (gMax c.bits) x y :=
 ⟨h.V, full_g c, h.mx, h.im, h.op, by rw [h.cv]; exact small_empty (gCanvas_small c), by rw [h.cv]; exact hx⟩
theorem imgs_g (c : Scene) : ImgsV (gScript c) := by
 intro i h0 h1
 rw [maxOf_g]
 have hm : 0 ≤ gMax c.bits := by have := gMax_u c.bits; omega
 have hmem : imgM (gScript c) i ∈ gImages c := by
  have hi : i.toNat < (gImages c).length := by
   have h1 : i < ((gImages c).length : Int) := h1
   omega
  show (gImages c).getD i.toNat default ∈ gImages c
  rw [List.getD_eq_getElem?_getD, List.getElem?_eq_getElem hi]
  exact List.getElem_mem _
 generalize imgM (gScript c) i = q at hmem
 have hs := gCanvas_small c
 unfold gImages at hmem
 split at hmem
 ·rw [List.mem_singleton.1 hmem]
  refine imgv_solid ?_ ⟨hm, Int.le_refl _, Int.le_refl _, Int.le_refl _, hm, hm, Int.le_refl _, Int.le_refl _⟩
  have := gImage_ok (w := 1 + c.w % 5) (h := 1 + c.h % 4) (n := ((1 + c.w % 5) * (1 + c.h % 4)).toNat) (by omega) (by omega) rfl
  unfold imageOk at this
  rw [Bool.and_eq_true] at this; exact this.1
 ·unfold gImages0 at hmem
  obtain ⟨p, _, rfl⟩ := List.mem_map.1 hmem
  exact imgv_g hs hm
theorem frame_of {c : Scene} {s : Script} (b : s.bits = (gScript c).bits) (c' : s.canvas = gCanvas c) (w : s.tileW = gTileW c) (h : s.tileH = gTileH c) (o : s.order = (gScript c).order) (n2 : s.images.length ≤ 64) (n3 : s.ops.length ≤ 4096) : frameM s = 0 := gframe b c' w h o n2 n3
theorem of_g (c : Scene) : Of c (gScript c) := by
 have hi := gImages_le c
 have hg := gScript_good c
 refine ⟨rfl, rfl, rfl, rfl, rfl, hi.1, Nat.le_trans hi.2 (by decide), imgs_g c, vops_of ?_, fun o ho => (hg.tame o ho).op.1⟩
 rw [opsM_ok (gframe rfl rfl rfl rfl rfl (gimages_len c) (Nat.le_trans (gops_len c) (by decide))) hg.ok hg.op]
theorem most_g (c : Scene) : mostM (gScript c).bits = gMax c.bits := by
 have hm := gMax_u c.bits
 unfold mostM gScript
 dsimp only
 rcases hm with h | h <;> rw [h] <;> rfl
theorem bOp_same (s : Script) (v : Int) (o : Op) : (bOp s v o).kind = o.kind ∧ (bOp s v o).isolated = o.isolated ∧ (bOp s v o).knockout = o.knockout := by
 unfold bOp
 repeat' split
 all_goals exact ⟨rfl, rfl, rfl⟩
theorem bias_at (s : Script) (l : List Int) (a : Nat) : opAt (biasM s l).ops a = opAt s.ops a ∨ ∃ v, opAt (biasM s l).ops a = bOp s v (opAt s.ops a) := by
 by_cases h : a < s.ops.length
 ·have : opAt (biasM s l).ops a = if a < l.length then bOp s (l.getD a 0) (opAt s.ops a) else opAt s.ops a := bAt_at s l _ h
  rw [this]
  split
  ·exact .inr ⟨_, rfl⟩
  ·exact .inl rfl
 ·left
  have hl : (biasM s l).ops.length = s.ops.length := bAt_len s l _
  rw [opAt, opAt, List.getD_eq_getElem?_getD, List.getD_eq_getElem?_getD, List.getElem?_eq_none (by omega), List.getElem?_eq_none (by omega)]
theorem bias_same (s : Script) (l : List Int) (a : Nat) : (opAt (biasM s l).ops a).kind = (opAt s.ops a).kind ∧ (opAt (biasM s l).ops a).isolated = (opAt s.ops a).isolated ∧ (opAt (biasM s l).ops a).knockout = (opAt s.ops a).knockout := by
 rcases bias_at s l a with h | ⟨v, h⟩
 ·rw [h]; exact ⟨rfl, rfl, rfl⟩
 ·rw [h]; exact bOp_same s v _
theorem ctx_same {f g : Nat → Op} (h1 : ∀ a, (f a).isolated = (g a).isolated) (h2 : ∀ a, (f a).knockout = (g a).knockout) (l : List Nat) : ctxOk (l.map f) = ctxOk (l.map g) := by
 by_cases h : l = []
 ·subst h; rfl
 have hl : l.length - 1 < l.length := by
  have : 0 < l.length := List.length_pos_iff.2 h
  omega
 have e : ∀ k : Nat → Op, (l.map k).getD ((l.map k).length - 1) default = k (l.getD (l.length - 1) default) := fun k => by
  rw [List.length_map, List.getD_eq_getElem?_getD, List.getD_eq_getElem?_getD, List.getElem?_map, List.getElem?_eq_getElem hl]
  rfl
 have e2 : (l.map f).isEmpty = (l.map g).isEmpty := by cases l <;> rfl
 rw [ctxOk, ctxOk, e, e, h1, h2, e2]
theorem bX_le {s : Script} (hc : Small s.canvas) (v : Int) : -20 ≤ bX s v ∧ bX s v ≤ 20 := by
 obtain ⟨x0, x1, y0, y1, hw, hh⟩ := hc
 have h1 : 0 ≤ gMod (IntKind.i64.wrap (v.tdiv 16)) 3 ∧ gMod (IntKind.i64.wrap (v.tdiv 16)) 3 < 3 := by
  unfold gMod
  rw [if_neg (by decide)]
  omega
 unfold bX
 rw [w64' (by omega) (by omega)]
 omega
theorem bMost_g (c : Scene) : bMost (gScript c).bits = gMax c.bits := most_g c
theorem bOp_err {s : Script} {v : Int} {o : Op} {l l' : List Op} (hc : Small s.canvas) (hm : bMost s.bits = maxOf s.bits) (hm0 : 0 ≤ maxOf s.bits) (h1 : 1 ≤ s.images.length) (hk : ctxOk l' = ctxOk l) (hl : l'.length = l.length) (h : opErr s.bits s.images.length o l = 0) :
  opErr s.bits (bImgs s).length (bOp s v o) l' = 0 := by
 have hx := bX_le hc v
 obtain ⟨x0, x1, y0, y1, hw, hh⟩ := hc
 have hn : (bImgs s).length = s.images.length + 2 := by simp [bImgs]
 rw [opErr_zero] at h ⊢
 rw [hk, hl]
 obtain ⟨a1, a2, a3, a4⟩ := h
 by_cases k3 : o.kind = 3
 ·have : bOp s v o = o := by unfold bOp; rw [if_pos k3]
  rw [this]
  exact ⟨a1, a2, a3, fun q => absurd k3 q⟩
 obtain ⟨q1, q2, q3, q4, q5, q6, q7⟩ := a4 k3
 simp only [withinM, List.all_cons, List.all_nil, Bool.and_true, Bool.and_eq_true, decide_eq_true_eq] at q2
 have hf : ∀ p : Op, p.kind = o.kind → p.isolated = o.isolated → p.knockout = o.knockout → (o.kind = 2 → p.image = o.image ∧ p.x = o.x ∧ p.y = o.y) → (p.mask = 0 → p.maskX = 0 ∧ p.maskY = 0) → fieldsM p = true := fun p e1 e2 e3 e4 e5 => by
  simp only [fieldsM, if_neg k3] at a2
  simp only [fieldsM, e1, if_neg k3, e2, e3]
  split at a2
  ·cases a2
  rename_i n1
  rw [if_neg n1]
  split at a2
  ·cases a2
  rename_i n2
  rw [if_neg (fun q => n2 (by obtain ⟨f1, f2, f3⟩ := e4 q.1; rw [f1, f2, f3] at q; exact q)), decide_eq_true_eq]
  by_cases e0 : p.mask = 0
  ·exact .inr (e5 e0)
  ·exact .inl e0
 have hf0 : o.mask = 0 → o.maskX = 0 ∧ o.maskY = 0 := fun h0 => by
  simp only [fieldsM, if_neg k3] at a2
  split at a2
  ·cases a2
  split at a2
  ·cases a2
  rw [decide_eq_true_eq] at a2
  rcases a2 with h | h
  ·exact absurd h0 h
  ·exact h
 have fin : ∀ p : Op, p.kind = o.kind → fieldsM p = true → (o.kind = 1 → 0 ≤ p.image ∧ p.image < (bImgs s).length) → 0 ≤ p.mask → p.mask ≤ (bImgs s).length → (-1048576 ≤ p.x ∧ p.x ≤ 1048576 ∧ -1048576 ≤ p.y ∧ p.y ≤ 1048576 ∧ -1048576 ≤ p.maskX ∧ p.maskX ≤ 1048576 ∧ -1048576 ≤ p.maskY ∧ p.maskY ≤ 1048576) →
   p.opacity ≤ maxOf s.bits → isOp p.operator = true → isOp p.mode = true → (p.operator ≠ 4 → ctxOk l = true) →
   (1 ≤ p.kind ∧ p.kind ≤ 3) ∧ fieldsM p = true ∧ (p.kind = 3 → 0 < l.length) ∧
   (p.kind ≠ 3 → ¬ (p.kind = 1 ∧ (p.image < 0 ∨ (bImgs s).length ≤ p.image) ∨ p.mask < 0 ∨ (bImgs s).length < p.mask) ∧ withinM 1048576 [p.x, p.y, p.maskX, p.maskY] = true ∧ p.opacity ≤ maxOf s.bits ∧ isOp p.operator = true ∧ isOp p.mode = true ∧ (p.operator ≠ 4 → ctxOk l = true) ∧ (p.kind = 2 → l.length < 64)) :=
  fun p e1 e2 e3 e4 e5 e6 e7 e8 e9 e10 => by
   refine ⟨by rw [e1]; exact a1, e2, fun q => absurd (e1.symm.trans q) k3, fun _ => ⟨?_, ?_, e7, e8, e9, e10, fun q => q7 (e1.symm.trans q)⟩⟩
   ·rintro (⟨g1, g2⟩ | g2)
    ·have := e3 (e1.symm.trans g1); omega
    ·omega
   ·simp only [withinM, List.all_cons, List.all_nil, Bool.and_true, Bool.and_eq_true, decide_eq_true_eq]
    omega
 have him : o.kind = 1 → 0 ≤ o.image ∧ o.image < (bImgs s).length := fun h => by omega
 unfold bOp
 rw [if_neg k3]
 split
 ·exact fin _ rfl (hf _ rfl rfl rfl (fun _ => ⟨rfl, rfl, rfl⟩) (fun q => by dsimp only at q; omega)) him (by dsimp only; omega) (by dsimp only; omega) (by dsimp only; omega) q3 q4 q5 q6
 split
 ·exact fin _ rfl (hf _ rfl rfl rfl (fun _ => ⟨rfl, rfl, rfl⟩) (fun q => by dsimp only at q; omega)) him (by dsimp only; omega) (by dsimp only; omega) (by dsimp only; omega) q3 q4 q5 q6
 split
 ·split
  ·rename_i k1
   exact fin _ rfl (hf _ rfl rfl rfl (fun q => by omega) (fun _ => ⟨rfl, rfl⟩)) (fun _ => by dsimp only; omega) (by dsimp only; omega) (by dsimp only; omega) (by dsimp only; omega) (by dsimp only; omega) q4 rfl q6
  ·exact fin o rfl a2 him (by omega) (by omega) (by omega) q3 q4 q5 q6
 split
 ·split
  ·exact fin _ rfl (hf _ rfl rfl rfl (fun _ => ⟨rfl, rfl, rfl⟩) (fun _ => ⟨rfl, rfl⟩)) him (by dsimp only; omega) (by dsimp only; omega) (by dsimp only; omega) (by dsimp only; omega) rfl rfl (fun q => absurd rfl q)
  ·exact fin _ rfl (hf _ rfl rfl rfl (fun _ => ⟨rfl, rfl, rfl⟩) (fun _ => ⟨rfl, rfl⟩)) him (by dsimp only; omega) (by dsimp only; omega) (by dsimp only; omega) (by dsimp only; omega) q4 q5 q6
 split
 ·exact fin _ rfl (hf _ rfl rfl rfl (fun _ => ⟨rfl, rfl, rfl⟩) hf0) him (by dsimp only; omega) (by dsimp only; omega) (by dsimp only; omega) (by dsimp only; omega) q4 q5 q6
 ·exact fin o rfl a2 him (by omega) (by omega) (by omega) q3 q4 q5 q6
theorem opErr_more {b : Int} {n n' : Nat} {o : Op} {l l' : List Op} (hn : n ≤ n') (hk : ctxOk l' = ctxOk l) (hl : l'.length = l.length) (h : opErr b n o l = 0) : opErr b n' o l' = 0 := by
 rw [opErr_zero] at h ⊢
 rw [hk, hl]
 obtain ⟨a1, a2, a3, a4⟩ := h
 refine ⟨a1, a2, a3, fun k3 => ?_⟩
 obtain ⟨q1, q2⟩ := a4 k3
 exact ⟨by omega, q2⟩
theorem of_bias {c : Scene} {s : Script} (h : Of c s) (hn : s.images.length ≤ 4) (l : List Int) : Of c (biasM s l) := by
 have hsm : Small s.canvas := by rw [h.cv]; exact gCanvas_small c
 have hm := gMax_u c.bits
 have hmost : bMost s.bits = maxOf s.bits := by rw [h.b, bMost_g, maxOf_g]
 have hlen : (biasM s l).ops.length = s.ops.length := bAt_len s l _
 have hnn : (bImgs s).length = s.images.length + 2 := by simp [bImgs]
 have W := h.V.wf
 have hk : ∀ j, (opAt (biasM s l).ops j).kind = (opAt s.ops j).kind := fun j => (bias_same s l j).1
 have hs := fun i => stk_kinds hk i
 have hmx := h.mx
 refine ⟨h.b, h.cv, h.w, h.h, h.o, ?_, ?_, ?_, ⟨⟨fun i hi => ?_, fun i hi h3 => ?_, ?_⟩, fun i hi => ?_, ?_, ?_, ?_⟩, fun o ho => ?_⟩
 ·show 1 ≤ (bImgs s).length
  omega
 ·show (bImgs s).length ≤ 6
  omega
 ·intro i h0 h1
  have h1 : i < ((bImgs s).length : Int) := h1
  show ImgV ((bImgs s).getD i.toNat default) (maxOf s.bits)
  have hb : 0 ≤ bMid s.bits ∧ bMid s.bits ≤ maxOf s.bits := by
   rw [← hmost]
   have := h.b
   unfold bMid
   rw [hmost, hmx]
   rcases hm with q | q <;> rw [q] <;> decide
  have hmp : 0 ≤ maxOf s.bits := by omega
  unfold bImgs
  rw [List.getD_eq_getElem?_getD]
  rcases Nat.lt_or_ge i.toNat s.images.length with q | q
  ·rw [List.getElem?_append_left q]
   have := h.im i h0 (by omega)
   rw [imgM, List.getD_eq_getElem?_getD] at this
   exact this
  ·rw [List.getElem?_append_right q]
   have hv : i.toNat - s.images.length = 0 ∨ i.toNat - s.images.length = 1 := by omega
   have hw : bW s = s.canvas.x1 - s.canvas.x0 + 2 ∧ bH s = s.canvas.y1 - s.canvas.y0 + 1 := by
    obtain ⟨x0, x1, y0, y1, hw, hh⟩ := hsm
    unfold bW bH
    rw [w64' (n := s.canvas.x1 - s.canvas.x0) (by omega) (by omega), w64' (n := s.canvas.y1 - s.canvas.y0) (by omega) (by omega), w64' (by omega) (by omega), w64' (by omega) (by omega)]
    exact ⟨rfl, rfl⟩
   rcases hv with e | e
   ·rw [e]
    refine imgv_solid ?_ ⟨hb.1, Int.le_refl _, ?_, ?_, ?_, ?_, Int.le_refl _, ?_⟩
    ·obtain ⟨x0, x1, y0, y1, hw2, hh⟩ := hsm
     rw [hw.1, hw.2, fitsM, decide_eq_true_eq]
     have hv : s.canvas.x1 - s.canvas.x0 = 1 ∨ s.canvas.x1 - s.canvas.x0 = 2 ∨ s.canvas.x1 - s.canvas.x0 = 3 ∨ s.canvas.x1 - s.canvas.x0 = 4 ∨ s.canvas.x1 - s.canvas.x0 = 5 := by omega
     rcases hv with q | q | q | q | q <;> rw [q] <;> omega
    all_goals dsimp only; omega
   ·rw [e]
    exact imgv_solid (by decide) ⟨Int.le_refl _, Int.le_refl _, Int.le_refl _, Int.le_refl _, Int.le_refl _, Int.le_refl _, by dsimp only; omega, by dsimp only; omega⟩
 ·rw [hk]; exact W.kinds i (by omega)
 ·rw [hs]; rw [hk] at h3; exact W.pops i (by omega) h3
 ·rw [hs, hlen]; exact W.fin
 ·rw [hs]
  have hc := ctx_same (fun a => (bias_same s l a).2.1) (fun a => (bias_same s l a).2.2) (stk s.ops i).reverse
  have hok := h.V.ok i (by omega)
  rcases bias_at s l i with e | ⟨v, e⟩
  ·rw [e]
   exact opErr_more (by show _ ≤ (bImgs s).length; omega) hc (by simp) hok
  ·rw [e]
   exact bOp_err hsm hmost (by omega) h.n1 hc (by simp) hok
 ·show (bImgs s).length ≤ 64
  omega
 ·have := h.V.cnt; omega
 ·exact frame_of h.b h.cv h.w h.h h.o (by show (bImgs s).length ≤ 64; omega) (by have := h.V.cnt; omega)
 ·obtain ⟨i, hi, rfl⟩ := List.mem_iff_getElem.1 ho
  have e0 : (biasM s l).ops[i] = opAt (biasM s l).ops i := by rw [opAt, List.getD_eq_getElem?_getD, List.getElem?_eq_getElem hi]; rfl
  rw [e0]
  have hoi := h.op _ (opAt_mem (show i < s.ops.length by omega))
  rcases bias_at s l i with e | ⟨v, e⟩
  ·rw [e]; exact hoi
  ·rw [e]
   unfold bOp
   repeat' split
   all_goals first | exact hoi | (dsimp only; omega) | exact Int.le_refl _
end Go.Proofs.YtlblgkelhibdoaaGreatDoor
set_option maxHeartbeats 8000000
set_option maxRecDepth 16000
namespace Go.Proofs.YtlblgkelhibdoaaGreatDoor
open Go Go.SL
open Go.RowKit (wrap64)
attribute [local go_sem] lastP mcP Int.toNat_natCast
theorem value_pt (s : Script) (x y m : Int) (C : Pt s m x y) (hs : ScriptLen s) (hx : i64 x) (hy : i64 y) : Pure Sg 16 [ag (scriptE s), I x, I y] (fun r => r = .b (ag (pixE (valueM s x y)))) := by
 have ht : True := trivial
 have hr := rrun_sp s x y m C hs hx hy
 have ha := at_i C s.ops.length (Nat.le_refl _)
 obtain ⟨t, r, e⟩ := ha.ne
 have hv : valueM s x y = resultA t.acc t.back m := by
  have e2 : runL m (smpM s x y) s.ops [base] = t :: r := by
   rw [← e]; unfold stAt; rw [List.take_length]
  unfold valueM
  rw [C.mx, e2]; rfl
 rw [e] at ha hr
 have hre := mresult_sp m (fun _ j => (lvE t).getD j .any) t (fun j _ => rfl) C.hm ha.v.head.v
 rw [hv]
 have hr : Pure Sg 44 [ag (scriptE s), I x, I y] (fun q => q = .tup [.c (.p .any), lastP m t]) := hr
 generalize resultA t.acc t.back m = q at *
 refine fn_a Tryz.func16 [.cell 6 52] ?_
 repeat' (first | ((first | refine st_a (fun K hK => ?_) | refine call_c (hr) ?_ | refine call_c (hre) ?_); and_intros; (all_goals first | (refine hK _ ?_; clear hK K) | exact auto_cl | skip)) | (refine ret_a ?_; (try clear hB KB); (try clear hK K)))
 rfl
end Go.Proofs.YtlblgkelhibdoaaGreatDoor
