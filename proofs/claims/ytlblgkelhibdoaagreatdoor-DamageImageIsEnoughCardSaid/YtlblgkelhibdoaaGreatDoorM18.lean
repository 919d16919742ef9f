/- Part of the proof: FM, D3, FL. -/
import Derived.Test.YtlblgkelhibdoaaGreatDoorM14
set_option linter.unusedSimpArgs false
set_option linter.unusedVariables false
set_option maxRecDepth 8000
namespace Go.Proofs.YtlblgkelhibdoaaGreatDoor
open Go Go.SL
open Go.RowKit (wrap64)
def popOp : Op := ⟨3, 0, 0, 0, 0, 0, 0, 0, 0, 0, false, false⟩
def gCanvas (s : Scene) : Rect := ⟨s.x % 13 - 6, s.y % 13 - 6, s.x % 13 - 6 + (1 + s.w % 5), s.y % 13 - 6 + (1 + s.h % 4)⟩
def gTileW (s : Scene) : Int := 1 + s.tileW % (1 + s.w % 5)
def gTileH (s : Scene) : Int := 1 + s.tileH % (1 + s.h % 4)
def gImages0 (s : Scene) : List Image := (s.pics.take 4).map fun p => gImage p (gCanvas s) (gMax s.bits)
def gImages (s : Scene) : List Image := if (gImages0 s).length = 0 then [solidOf (1 + s.w % 5) (1 + s.h % 4) ⟨gMax s.bits, 0, 0, gMax s.bits, gMax s.bits⟩] else gImages0 s
def gStep (n : Int) (c : Rect) (m : Int) (st : List Op × List Op) (r : Raw) : List Op × List Op :=
 if r.kind % 8 = 0 ∧ 0 < st.2.length then (st.1 ++ [popOp], st.2.dropLast)
 else (st.1 ++ [gOp r (decide (r.kind % 8 < 3)) n c.x0 c.y0 (ctxOk st.2) m], if r.kind % 8 < 3 then st.2 ++ [gOp r (decide (r.kind % 8 < 3)) n c.x0 c.y0 (ctxOk st.2) m] else st.2)
def gOps (s : Scene) : List Op × List Op := (s.ops.take 9).foldl (gStep (gImages s).length (gCanvas s) (gMax s.bits)) ([], [])
def gScript (s : Scene) : Script :=
 { bits := if gMax s.bits > 255 then 16 else 8, canvas := gCanvas s, tileW := gTileW s, tileH := gTileH s, order := gPerm s.order (tilesX (gCanvas s) (gTileW s) (gTileH s) * tilesY (gCanvas s) (gTileW s) (gTileH s)), images := gImages s, ops := (gOps s).1 ++ List.replicate (gOps s).2.length popOp }
structure SceneOk (s : Scene) : Prop where
 bits : i64 s.bits
 x : i64 s.x
 y : i64 s.y
 w : i64 s.w
 h : i64 s.h
 tileW : i64 s.tileW
 tileH : i64 s.tileH
 order : s.order.length ≤ 4611686018427387904
 pics : s.pics.length ≤ 4611686018427387904
 ops : s.ops.length ≤ 4611686018427387904
 pic : ∀ i, i < s.pics.length → PicOk (s.pics.getD i default)
 op : ∀ i, i < s.ops.length → RawOk (s.ops.getD i default)
theorem gCanvas_small (s : Scene) : Small (gCanvas s) := by
 unfold gCanvas
 exact ⟨by dsimp only; omega, by dsimp only; omega, by dsimp only; omega, by dsimp only; omega, ⟨by dsimp only; omega, by dsimp only; omega⟩, ⟨by dsimp only; omega, by dsimp only; omega⟩⟩
theorem gMax_u (n : Int) : gMax n = 255 ∨ gMax n = 65535 := by unfold gMax; split <;> omega
end Go.Proofs.YtlblgkelhibdoaaGreatDoor
set_option maxHeartbeats 1000000
set_option maxRecDepth 16000
namespace Go.Proofs.YtlblgkelhibdoaaGreatDoor
open Go Go.SL
open Go.RowKit (wrap64)
theorem imax_ite (a b : Int) : (if b > a then b else a) = max a b := by split <;> omega
theorem imin_ite (a b : Int) : (if b < a then b else a) = min a b := by split <;> omega
attribute [local go_sem] imax_ite imin_ite
theorem isect_spec (r q : Rect) : Pure Sg 38 [ag (rectE r), ag (rectE q)] (fun x => x = .b (ag (rectE (isect r q)))) := by
 refine fn_a Tryz.func38 [.cell 4 32] ?_
 repeat' (first | refine un_a ?_ | ((first | refine st_a (fun K hK => ?_) | refine call_c (rempty_spec _) ?_ | refine gcall_c (fun hg => rempty_spec _) ?_ | refine call_c (rclean_spec ⟨max r.x0 q.x0, max r.y0 q.y0, min r.x1 q.x1, min r.y1 q.y1⟩) ?_); and_intros; (all_goals first | (refine hK _ ?_; clear hK K) | exact auto_cl | skip)) | (refine if_a (fun hb => ?_) (fun hb => ?_); all_goals try exact bad_a) | (refine ret_a ?_; (try clear hB KB); (try clear hK K)))
 ·rw [isect, if_pos hb]; rfl
 ·rw [isect, if_neg (by rw [hb.1, hb.2]; simp)]; rfl
theorem bfar_spec (v : Int) : Pure Sg 172 [I v] (fun x => x = .b (B (farM v))) := by
 refine fn_a Tryz.func172 [.tmp 2] ?_
 repeat' (first | (refine st_a (fun K hK => ?_); and_intros; (all_goals first | (refine hK _ ?_; clear hK K) | exact auto_cl | skip)) | (refine ret_a ?_; (try clear hB KB); (try clear hK K)))
 refine bool_eq ?_
 (try simp only [farM, Bool.and_eq_true, Bool.or_eq_true, Bool.not_eq_true', Bool.not_eq_false', decide_eq_true_eq, decide_eq_false_iff_not, ge_iff_le, gt_iff_lt, beq_iff_eq, bne_iff_ne, ne_eq, Bool.or_eq_false_iff, Bool.and_eq_false_imp, Bool.not_true, Bool.not_false])
 try omega
theorem rule_neutral (o : Int) : ∃ a b c, ruleE o = [.val (.string (opNm o)), PI a, PI b, PI c] ∧ (decide (1 ≤ o ∧ o ≤ 12) && ((b == 1 || b == 3) && (c == 2 || c == 3))) = neutralM o := by
 by_cases h : 1 ≤ o ∧ o ≤ 12
 ·have : o = 1 ∨ o = 2 ∨ o = 3 ∨ o = 4 ∨ o = 5 ∨ o = 6 ∨ o = 7 ∨ o = 8 ∨ o = 9 ∨ o = 10 ∨ o = 11 ∨ o = 12 := by omega
  rcases this with rfl | rfl | rfl | rfl | rfl | rfl | rfl | rfl | rfl | rfl | rfl | rfl <;> exact ⟨_, _, _, rfl, by decide +kernel⟩
 ·obtain ⟨a, b, c, e, _⟩ := opNm_spec o
  refine ⟨a, b, c, e, ?_⟩
  rw [decide_eq_false h, Bool.false_and, neutralM]
  exact (decide_eq_false (by omega)).symm
theorem neutral_spec (o : Int) : Pure Sg 140 [I o] (fun x => x = .b (B (neutralM o))) := by
 obtain ⟨a, b, c, he, hn⟩ := rule_neutral o
 have hf := find_spec o
 rw [he] at hf
 rw [← hn]
 refine fn_a Tryz.func140 [.tmp 2] ?_
 repeat' (first | ((first | refine st_a (fun K hK => ?_) | refine call_c (hf) ?_); and_intros; (all_goals first | (refine hK _ ?_; clear hK K) | exact auto_cl | skip)) | (refine ret_a ?_; (try clear hB KB); (try clear hK K)))
 rw [Bool.and_assoc]
def rectL (l : List Rect) : PV := .lst 4 l.length (fnOf rectE l)
attribute [go_sem] rectL
theorem far_le {v : Int} (h : farM v = false) : -1099511627776 ≤ v ∧ v ≤ 1099511627776 := by
 simp only [farM, decide_eq_false_iff_not] at h; omega
theorem placed_spec (s : Script) (i x y : Int) (hs : ScriptLen s) : Pure Sg 160 [ag (scriptE s), I i, I x, I y] (fun r => r = .b (ag (rectE (placedM s i x y)))) := by
 obtain ⟨h1, h2, h3⟩ := id hs
 refine fn_a Tryz.func160 [.cell 8 32] ?_
 cases hfar : (farM x || farM y || farM (s.images.getD i.toNat default).w || farM (s.images.getD i.toNat default).h) with
 | true =>
  repeat' (first | refine dec_a hfar ?_ | refine un_a ?_ | ((first | refine st_a (fun K hK => ?_) | refine call_c (bfar_spec x) ?_ | refine gcall_c (fun hg => bfar_spec y) ?_ | refine gcall_c (fun hg => bfar_spec (s.images.getD i.toNat default).w) ?_ | refine gcall_c (fun hg => bfar_spec (s.images.getD i.toNat default).h) ?_); and_intros; (all_goals first | (refine hK _ ?_; clear hK K) | exact auto_cl | skip)) | (refine if_a (fun hb => ?_) (fun hb => ?_); all_goals try exact bad_a) | (refine ret_a ?_; (try clear hB KB); (try clear hK K)))
  ·rw [placedM, if_pos (by omega)]; rfl
  ·rw [placedM, if_neg (by omega), if_pos hfar]; rfl
 | false =>
  have hq := hfar
  simp only [Bool.or_eq_false_iff] at hq
  have f1 := far_le hq.1.1.1
  have f2 := far_le hq.1.1.2
  have f3 := far_le hq.1.2
  have f4 := far_le hq.2
  repeat' (first | refine dec_a hfar ?_ | refine un_a ?_ | ((first | refine st_a (fun K hK => ?_) | refine call_c (bfar_spec x) ?_ | refine gcall_c (fun hg => bfar_spec y) ?_ | refine gcall_c (fun hg => bfar_spec (s.images.getD i.toNat default).w) ?_ | refine gcall_c (fun hg => bfar_spec (s.images.getD i.toNat default).h) ?_ | refine call_c (isect_spec ⟨x, y, x + (s.images.getD i.toNat default).w, y + (s.images.getD i.toNat default).h⟩ s.canvas) ?_); and_intros; (all_goals first | (refine hK _ ?_; clear hK K) | exact auto_cl | skip)) | (refine if_a (fun hb => ?_) (fun hb => ?_); all_goals try exact bad_a) | (refine ret_a ?_; (try clear hB KB); (try clear hK K)))
  ·rw [placedM, if_pos (by omega)]; rfl
  ·rw [placedM, if_neg (by omega), if_neg (by rw [hfar]; simp)]; rfl
theorem imageRect_spec (s : Script) (o : Op) (hs : ScriptLen s) : Pure Sg 139 [ag (scriptE s), ag (opE o)] (fun r => r = .b (ag (rectE (imageRectM s o)))) := by
 refine fn_a Tryz.func139 [.cell 4 32] ?_
 repeat' (first | refine un_a ?_ | ((first | refine st_a (fun K hK => ?_) | refine call_c (placed_spec s o.image o.x o.y hs) ?_); and_intros; (all_goals first | (refine hK _ ?_; clear hK K) | exact auto_cl | skip)) | (refine if_a (fun hb => ?_) (fun hb => ?_); all_goals try exact bad_a) | (refine ret_a ?_; (try clear hB KB); (try clear hK K)))
 ·rw [imageRectM, if_neg (by omega)]; rfl
 ·rw [imageRectM, if_pos (by omega)]; rfl
theorem maskRect_spec (s : Script) (o : Op) (hs : ScriptLen s) (hm : 0 ≤ o.mask ∧ o.mask ≤ 1000000) : Pure Sg 159 [ag (scriptE s), ag (opE o)] (fun r => r = .b (ag (rectE (maskRectM s o)))) := by
 obtain ⟨m1, m2⟩ := hm
 refine fn_a Tryz.func159 [.cell 4 32] ?_
 repeat' (first | refine un_a ?_ | ((first | refine st_a (fun K hK => ?_) | refine call_c (isect_spec s.canvas s.canvas) ?_ | refine call_c (placed_spec s (o.mask - 1) o.maskX o.maskY hs) ?_); and_intros; (all_goals first | (refine hK _ ?_; clear hK K) | exact auto_cl | skip)) | (refine if_a (fun hb => ?_) (fun hb => ?_); all_goals try exact bad_a) | (refine ret_a ?_; (try clear hB KB); (try clear hK K)))
 ·rw [maskRectM, if_pos (by omega)]; rfl
 ·rw [maskRectM, if_neg (by omega)]; rfl
end Go.Proofs.YtlblgkelhibdoaaGreatDoor
set_option maxRecDepth 8000
namespace Go.Proofs.YtlblgkelhibdoaaGreatDoor
open Go Go.SL
theorem nodup_inj {l : List Int} {i j : Nat} {hi : i < l.length} {hj : j < l.length} (h : l.Nodup) : l[i] = l[j] ↔ i = j := by
 refine ⟨fun e => ?_, fun e => by subst e; rfl⟩
 have hp := List.pairwise_iff_getElem.1 h
 rcases Nat.lt_trichotomy i j with q | q | q
 ·exact absurd e (hp i j hi hj q)
 ·exact q
 ·exact absurd e.symm (hp j i hj hi q)
theorem permGo_ok {l : List Int} : ∀ (k i : Nat) (rest : List Int), rest.length = k → rest.Nodup → (permGo l k i rest).length = k ∧ (permGo l k i rest).Nodup ∧ ∀ v ∈ permGo l k i rest, v ∈ rest
 | 0, i, rest, _, _ => ⟨rfl, List.nodup_nil, fun v hv => by simp [permGo] at hv⟩
 | k + 1, i, rest, hl, hn => by
  have h1 := Int.emod_nonneg (gAt l i) (show (rest.length : Int) ≠ 0 by omega)
  have h2 := Int.emod_lt_of_pos (gAt l i) (show (0 : Int) < rest.length by omega)
  have h3 : (gAt l i % rest.length).toNat < rest.length := by omega
  obtain ⟨a, b, c⟩ := permGo_ok (l := l) k (i + 1) (rest.eraseIdx (gAt l i % rest.length).toNat) (by rw [List.length_eraseIdx, if_pos h3]; omega) (List.Pairwise.sublist (List.eraseIdx_sublist ..) hn)
  have hg : rest.getD (gAt l i % rest.length).toNat 0 = rest[(gAt l i % rest.length).toNat] := by
   rw [List.getD_eq_getElem?_getD, List.getElem?_eq_getElem h3]; rfl
  refine ⟨by simp only [permGo, List.length_cons, a], ?_, fun v hv => ?_⟩
  ·simp only [permGo]
   refine List.nodup_cons.2 ⟨fun hm => ?_, b⟩
   have := c _ hm
   rw [List.mem_eraseIdx_iff_getElem] at this
   obtain ⟨j, hj, hne, he⟩ := this
   rw [hg] at he
   exact hne ((nodup_inj hn).1 he)
  ·simp only [permGo] at hv
   rcases List.mem_cons.1 hv with rfl | hv
   ·rw [hg]; exact List.getElem_mem _
   ·exact List.mem_of_mem_eraseIdx (c v hv)
theorem iota_nodup (n : Nat) : (iota n).Nodup := by
 unfold iota
 refine List.Pairwise.map _ (fun a b h => ?_) List.nodup_range
 intro e
 exact h (by omega)
theorem ordAt_ok {x : List Int} {n : Int} {i : Nat} (hi : i < x.length) (hn : x.Nodup) (hm : ∀ v ∈ x, 0 ≤ v ∧ v < n) : ordAt x n i = true := by
 have hg : x.getD i 0 = x[i] := by rw [List.getD_eq_getElem?_getD, List.getElem?_eq_getElem hi]; rfl
 rw [ordAt, hg, decide_eq_true (hm _ (List.getElem_mem hi)), Bool.true_and, Bool.not_eq_true', List.contains_eq_mem, decide_eq_false_iff_not]
 intro h
 obtain ⟨j, hj, he⟩ := List.getElem_of_mem h
 rw [List.getElem_take] at he
 rw [List.length_take] at hj
 have := (nodup_inj hn).1 he
 omega
theorem gPerm_ok {l : List Int} {n : Int} (h0 : 0 ≤ n) (h1 : n ≤ 64) : ordOk (gPerm l n) n = true := by
 have hk : ∀ x : List Int, x.length = n.toNat → x.Nodup → (∀ v ∈ x, v ∈ iota n.toNat) → (List.range n.toNat).all (ordAt x n) = true := fun x hl hn hm => by
  rw [List.all_eq_true]
  intro i hi
  refine ordAt_ok (by rw [hl]; exact List.mem_range.1 hi) hn fun v hv => ?_
  have := hm v hv
  simp only [iota, List.mem_map, List.mem_range] at this
  obtain ⟨a, ha, rfl⟩ := this
  omega
 unfold gPerm
 split
 ·rw [ordOk, decide_eq_true ⟨h0, by omega, .inl rfl⟩, Bool.true_and]
  exact hk _ (iota_len _) (iota_nodup _) fun v hv => hv
 ·rename_i hc
  obtain ⟨a, b, c⟩ := permGo_ok (l := l) n.toNat 0 (iota n.toNat) (iota_len _) (iota_nodup _)
  rw [ordOk, decide_eq_true ⟨h0, by omega, .inr (by omega)⟩, Bool.true_and]
  by_cases hz : (permGo l n.toNat 0 (iota n.toNat)).length = 0
  ·rw [ordL, if_pos hz]
   exact hk _ (iota_len _) (iota_nodup _) fun v hv => hv
  ·rw [ordL, if_neg hz]
   exact hk _ a b c
theorem small_empty {c : Rect} (h : Small c) : emptyR c = false := by
 obtain ⟨h1, h2, h3, h4, h5, h6⟩ := h
 unfold emptyR validR
 simp
 omega
theorem gTile_ok (s : Scene) : tilesOk (gCanvas s) (gTileW s) (gTileH s) = true := by
 rw [tilesOk, small_empty (gCanvas_small s)]
 unfold gTileW gTileH gCanvas
 simp only [Bool.not_false, Bool.true_and, decide_eq_true_eq]
 have hw0 : 1 ≤ 1 + s.w % 5 ∧ 1 + s.w % 5 ≤ 5 := by omega
 have hh0 : 1 ≤ 1 + s.h % 4 ∧ 1 + s.h % 4 ≤ 4 := by omega
 have bw := Int.emod_nonneg s.tileW (show 1 + s.w % 5 ≠ 0 by omega)
 have bw2 := Int.emod_lt_of_pos s.tileW (show 0 < 1 + s.w % 5 by omega)
 have bh := Int.emod_nonneg s.tileH (show 1 + s.h % 4 ≠ 0 by omega)
 have bh2 := Int.emod_lt_of_pos s.tileH (show 0 < 1 + s.h % 4 by omega)
 omega
theorem tiles_le (s : Scene) : 0 ≤ tilesX (gCanvas s) (gTileW s) (gTileH s) * tilesY (gCanvas s) (gTileW s) (gTileH s) ∧ tilesX (gCanvas s) (gTileW s) (gTileH s) * tilesY (gCanvas s) (gTileW s) (gTileH s) ≤ 64 := by
 refine ⟨(tiles_wrap _ _ _).2, ?_⟩
 have ht := gTile_ok s
 rw [tilesX, tilesY, if_pos ht, if_pos ht]
 obtain ⟨h1, h2, h3, h4, h5, h6⟩ := gCanvas_small s
 simp only [tilesOk, Bool.and_eq_true, decide_eq_true_eq] at ht
 obtain ⟨_, t1, t2, t3, t4⟩ := ht
 have b1 : 0 ≤ ((gCanvas s).x1 - (gCanvas s).x0 - 1) / gTileW s := Int.ediv_nonneg (by omega) (by omega)
 have b2 : ((gCanvas s).x1 - (gCanvas s).x0 - 1) / gTileW s ≤ (gCanvas s).x1 - (gCanvas s).x0 - 1 := Int.ediv_le_self _ (by omega)
 have c1 : 0 ≤ ((gCanvas s).y1 - (gCanvas s).y0 - 1) / gTileH s := Int.ediv_nonneg (by omega) (by omega)
 have c2 : ((gCanvas s).y1 - (gCanvas s).y0 - 1) / gTileH s ≤ (gCanvas s).y1 - (gCanvas s).y0 - 1 := Int.ediv_le_self _ (by omega)
 have : (((gCanvas s).x1 - (gCanvas s).x0 - 1) / gTileW s + 1) * (((gCanvas s).y1 - (gCanvas s).y0 - 1) / gTileH s + 1) ≤ 5 * 4 := Int.mul_le_mul (by omega) (by omega) (by omega) (by omega)
 omega
theorem gImages_le (s : Scene) : 1 ≤ (gImages s).length ∧ (gImages s).length ≤ 4 := by
 unfold gImages
 split
 ·simp
 ·have : (gImages0 s).length ≤ 4 := by simp [gImages0]; omega
  omega
theorem gframe {s : Scene} {t : Script} (hb : t.bits = (gScript s).bits) (hc : t.canvas = gCanvas s) (hw : t.tileW = gTileW s) (hh : t.tileH = gTileH s) (ho : t.order = (gScript s).order) (hi : t.images.length ≤ 64) (hp : t.ops.length ≤ 4096) : frameM t = 0 := by
 have hm := gMax_u s.bits
 have hsm := gCanvas_small s
 have he := small_empty hsm
 have ht := gTile_ok s
 have hl := tiles_le s
 obtain ⟨h1, h2, h3, h4, h5, h6⟩ := hsm
 have ha : ((gCanvas s).x1 - (gCanvas s).x0) * ((gCanvas s).y1 - (gCanvas s).y0) ≤ 5 * 4 := Int.mul_le_mul (by omega) (by omega) (by omega) (by omega)
 have hw2 : withinM 1048576 [(gCanvas s).x0, (gCanvas s).y0] = true := by
  simp [withinM]; omega
 rw [frameM, hb, hc, hw, hh, ho, ht, hw2, he, areaR, he]
 rw [if_neg (by unfold gScript; dsimp only; split <;> omega), if_neg (by simp; omega), if_neg (by simp), if_neg ?_, if_neg (by omega)]
 rw [show (gScript s).order = gPerm s.order _ from rfl, gPerm_ok hl.1 hl.2]
 simp
theorem maxOf_g (s : Scene) : maxOf (gScript s).bits = gMax s.bits := by
 have hm := gMax_u s.bits
 unfold gScript maxOf
 dsimp only
 rcases hm with h | h <;> rw [h] <;> rfl
def okAll (b : Int) (n : Nat) : List Op → List Op → Prop
 | [], _ => True
 | o :: r, l => opErr b n o l = 0 ∧ okAll b n r (nextOpen l o)
def openAfter (ops l : List Op) : List Op := ops.foldl nextOpen l
theorem okAll_append {b : Int} {n : Nat} : ∀ {a c l : List Op}, okAll b n (a ++ c) l ↔ okAll b n a l ∧ okAll b n c (openAfter a l)
 | [], c, l => by simp [okAll, openAfter]
 | o :: r, c, l => by
  simp only [List.cons_append, okAll, okAll_append (a := r), and_assoc]
  rfl
theorem openAfter_append {a c l : List Op} : openAfter (a ++ c) l = openAfter c (openAfter a l) := List.foldl_append
theorem opsGo_ok {b : Int} {n : Nat} : ∀ {ops l : List Op} {i : Nat}, okAll b n ops l → openAfter ops l = [] → opsGo b n i ops l = (0, 0)
 | [], l, i, _, h2 => by
  have : l = [] := h2
  subst this
  rfl
 | o :: r, l, i, h1, h2 => by
  rw [opsGo, if_pos h1.1]
  exact opsGo_ok h1.2 h2
theorem pops_ok {b : Int} {n : Nat} : ∀ (k : Nat) (l : List Op), l.length = k → okAll b n (List.replicate k popOp) l ∧ openAfter (List.replicate k popOp) l = []
 | 0, l, hl => ⟨trivial, List.eq_nil_of_length_eq_zero hl⟩
 | k + 1, l, hl => by
  rw [List.replicate_succ]
  have hp := pops_ok (b := b) (n := n) k l.dropLast (by rw [List.length_dropLast]; omega)
  have hn : nextOpen l popOp = l.dropLast := rfl
  refine ⟨⟨?_, by rw [hn]; exact hp.1⟩, ?_⟩
  ·rw [opErr, if_neg (by decide), if_neg (by decide), if_neg (fun q => by omega)]; rfl
  ·show openAfter _ (nextOpen l popOp) = []
   rw [hn]; exact hp.2
structure OpTame (m : Int) (o : Op) : Prop where
 x : -30 ≤ o.x ∧ o.x ≤ 30
 y : -30 ≤ o.y ∧ o.y ≤ 30
 op : 0 ≤ o.opacity ∧ o.opacity ≤ m
 mx : -30 ≤ o.maskX ∧ o.maskX ≤ 30
 my : -30 ≤ o.maskY ∧ o.maskY ≤ 30
theorem gOp_ok {s : Scene} {r : Raw} {l : List Op} (hl : l.length ≤ 9) :
  opErr (gScript s).bits (gImages s).length (gOp r (decide (r.kind % 8 < 3)) (gImages s).length (gCanvas s).x0 (gCanvas s).y0 (ctxOk l) (gMax s.bits)) l = 0 ∧
  OpTame (gMax s.bits) (gOp r (decide (r.kind % 8 < 3)) (gImages s).length (gCanvas s).x0 (gCanvas s).y0 (ctxOk l) (gMax s.bits)) := by
 have hi := gImages_le s
 have hm := gMax_u s.bits
 obtain ⟨h1, h2, h3, h4, h5, h6⟩ := gCanvas_small s
 have q1 := gOffset_le r.x (gCanvas s).x0
 have q2 := gOffset_le r.y (gCanvas s).y0
 have q3 := gOffset_le r.maskX (gCanvas s).x0
 have q4 := gOffset_le r.maskY (gCanvas s).y0
 have q5 := gSample_le (r.opacity.tdiv 2) (gMax s.bits) (by omega)
 have q6 := Int.emod_nonneg (r.mask.tdiv 4) (show ((gImages s).length : Int) ≠ 0 by omega)
 have q7 := Int.emod_lt_of_pos (r.mask.tdiv 4) (show (0 : Int) < (gImages s).length by omega)
 have q8 := Int.emod_nonneg r.image (show ((gImages s).length : Int) ≠ 0 by omega)
 have q9 := Int.emod_lt_of_pos r.image (show (0 : Int) < (gImages s).length by omega)
 generalize hc : ctxOk l = free
 have hmx := maxOf_g s
 constructor
 ·rw [opErr, hmx]
  by_cases hp : r.kind % 8 < 3
  ·rw [decide_eq_true hp]
   rw [if_neg (by simp [gOp]), if_neg ?qa, if_neg (by simp [gOp]), if_neg (by simp [gOp]), if_neg ?qb, if_neg ?qc, if_neg ?qd, if_neg ?qe, if_neg ?qf, if_neg ?qg, if_neg (by omega)]
   case qa =>
    simp only [gOp, fieldsM]
    by_cases hk : r.mask % 4 = 0
    ·simp [hk]; omega
    ·simp [hk]
   case qb =>
    simp only [gOp]
    by_cases hk : r.mask % 4 = 0
    ·simp [hk]; omega
    ·simp [hk]
   case qc =>
    simp only [gOp, withinM]
    by_cases hk : r.mask % 4 = 0
    ·simp [hk]; omega
    ·simp [hk]
   case qd =>
    simp only [gOp]
    split <;> omega
   case qe =>
    simp only [gOp, isOp]
    split <;> simp <;> omega
   case qf =>
    simp only [gOp, isOp]
    split <;> simp <;> omega
   case qg =>
    simp only [gOp, hc]
    intro q
    rw [q.2] at q
    simp at q
  ·rw [decide_eq_false hp]
   rw [if_neg (by simp [gOp]), if_neg ?qa, if_neg (by simp [gOp]), if_neg (by simp [gOp]), if_neg ?qb, if_neg ?qc, if_neg ?qd, if_neg ?qe, if_neg ?qf, if_neg ?qg, if_neg (by simp [gOp])]
   case qa =>
    simp only [gOp, fieldsM]
    by_cases hk : r.mask % 4 = 0
    ·simp [hk]; omega
    ·simp [hk]
   case qb =>
    simp only [gOp]
    by_cases hk : r.mask % 4 = 0
    ·simp [hk]; omega
    ·simp [hk]; omega
   case qc =>
    simp only [gOp, withinM]
    by_cases hk : r.mask % 4 = 0
    ·simp [hk]; omega
    ·simp [hk]; omega
   case qd =>
    simp only [gOp]
    split <;> omega
   case qe =>
    simp only [gOp, isOp]
    split <;> simp <;> omega
   case qf =>
    simp only [gOp, isOp]
    split <;> simp <;> omega
   case qg =>
    simp only [gOp, hc]
    intro q
    rw [q.2] at q
    simp at q
 ·refine ⟨?_, ?_, ?_, ?_, ?_⟩ <;> simp only [gOp] <;> (repeat' split) <;> omega
structure GInv (s : Scene) (k : Nat) (st : List Op × List Op) : Prop where
 ok : okAll (gScript s).bits (gImages s).length st.1 []
 op : openAfter st.1 [] = st.2
 l1 : st.1.length ≤ k
 l2 : st.2.length ≤ k
 tame : ∀ o ∈ st.1, OpTame (gMax s.bits) o
theorem popTame {m : Int} (h : 0 ≤ m) : OpTame m popOp := ⟨by decide, by decide, ⟨by decide, h⟩, by decide, by decide⟩
theorem gInv_step {s : Scene} {k : Nat} {st : List Op × List Op} {r : Raw} (h : GInv s k st) (hk : k ≤ 9) : GInv s (k + 1) (gStep (gImages s).length (gCanvas s) (gMax s.bits) st r) := by
 obtain ⟨h1, h2, h3, h4, h5⟩ := h
 have hm := gMax_u s.bits
 unfold gStep
 split
 ·rename_i hc
  refine ⟨okAll_append.2 ⟨h1, ?_, trivial⟩, ?_, by simp; omega, by rw [List.length_dropLast]; omega, fun o ho => ?_⟩
  ·rw [h2, opErr, if_neg (by decide), if_neg (by decide), if_neg (fun q => by omega)]; rfl
  ·rw [openAfter_append, h2]; rfl
  ·rcases List.mem_append.1 ho with ho | ho
   ·exact h5 o ho
   ·rw [List.mem_singleton.1 ho]; exact popTame (by omega)
 ·have hg := gOp_ok (s := s) (r := r) (l := st.2) (by omega)
  refine ⟨okAll_append.2 ⟨h1, by rw [h2]; exact hg.1, trivial⟩, ?_, by simp; omega, ?_, fun o ho => ?_⟩
  ·rw [openAfter_append, h2]
   show nextOpen st.2 _ = _
   by_cases hp : r.kind % 8 < 3
   ·rw [if_pos hp, nextOpen, if_pos (by simp [gOp, hp])]
   ·rw [if_neg hp, nextOpen, if_neg (by simp [gOp, hp]), if_neg (by simp [gOp, hp])]
  ·dsimp only
   split
   ·simp; omega
   ·omega
  ·rcases List.mem_append.1 ho with ho | ho
   ·exact h5 o ho
   ·rw [List.mem_singleton.1 ho]; exact hg.2
theorem gInv_fold {s : Scene} : ∀ (l : List Raw) (k : Nat) (st : List Op × List Op), GInv s k st → k + l.length ≤ 9 → GInv s (k + l.length) (l.foldl (gStep (gImages s).length (gCanvas s) (gMax s.bits)) st)
 | [], k, st, h, _ => h
 | r :: l, k, st, h, hk => by
  rw [List.length_cons] at hk ⊢
  have := gInv_fold l (k + 1) _ (gInv_step (r := r) h (by omega)) (by omega)
  rw [show k + (l.length + 1) = k + 1 + l.length by omega]
  exact this
theorem gInv_ops (s : Scene) : GInv s 9 (gOps s) := by
 have h := gInv_fold (s := s) (s.ops.take 9) 0 ([], []) ⟨trivial, rfl, Nat.le_refl _, Nat.le_refl _, fun o ho => by simp at ho⟩ (by rw [List.length_take]; omega)
 have hl : 0 + (s.ops.take 9).length ≤ 9 := by rw [List.length_take]; omega
 exact ⟨h.1, h.2, Nat.le_trans h.3 hl, Nat.le_trans h.4 hl, h.5⟩
structure GGood (s : Scene) (ops : List Op) : Prop where
 ok : okAll (gScript s).bits (gImages s).length ops []
 op : openAfter ops [] = []
 len : ops.length ≤ 18
 tame : ∀ o ∈ ops, OpTame (gMax s.bits) o
theorem gScript_good (s : Scene) : GGood s (gScript s).ops := by
 obtain ⟨h1, h2, h3, h4, h5⟩ := gInv_ops s
 have hm := gMax_u s.bits
 have hp := pops_ok (b := (gScript s).bits) (n := (gImages s).length) (gOps s).2.length (gOps s).2 rfl
 refine ⟨okAll_append.2 ⟨h1, by rw [h2]; exact hp.1⟩, ?_, ?_, fun o ho => ?_⟩
 ·show openAfter ((gOps s).1 ++ _) [] = []
  rw [openAfter_append, h2]; exact hp.2
 ·show ((gOps s).1 ++ _).length ≤ 18
  rw [List.length_append, List.length_replicate]; omega
 ·rcases List.mem_append.1 ho with ho | ho
  ·exact h5 o ho
  ·rw [(List.mem_replicate.1 ho).2]; exact popTame (by omega)
end Go.Proofs.YtlblgkelhibdoaaGreatDoor
