/- Part of the proof: BrT, D3, TD, DA, TE, DC, JC, VG. -/
import Derived.Test.YtlblgkelhibdoaaGreatDoorM41
set_option linter.unusedSimpArgs false
set_option linter.unusedVariables false
namespace Go.SL
open Go Go.ChangeShapes Go.WideShapes Go.ChangeAt Go.RowKit
section
variable {P : Program} {H : Type} {enc : TypeId × Value → H}
theorem trodAll_seven {w : World} {base : Nat} {spare : Nat → Bool} {held : Bool} {t0 t1 t2 t3 t4 t5 t6 : TypeId} {args : Array Value} {ds : List (DataW H)} {ps : List MemPlace} (h : DataW.TrodAll enc P w base spare held [t0, t1, t2, t3, t4, t5, t6] args.toList ds ps) :
  ∃ v0 v1 v2 v3 v4 v5 v6 d0 d1 d2 d3 d4 d5 d6 p0 p1 p2 p3 p4 p5 p6, args = #[v0, v1, v2, v3, v4, v5, v6] ∧ ds = [d0, d1, d2, d3, d4, d5, d6] ∧ ps = p0 ++ p1 ++ p2 ++ p3 ++ p4 ++ p5 ++ p6 ∧ DataW.Trod enc P w base spare held t0 v0 d0 p0 ∧ DataW.Trod enc P w base spare held t1 v1 d1 p1 ∧ DataW.Trod enc P w base spare held t2 v2 d2 p2 ∧ DataW.Trod enc P w base spare held t3 v3 d3 p3 ∧ DataW.Trod enc P w base spare held t4 v4 d4 p4 ∧ DataW.Trod enc P w base spare held t5 v5 d5 p5 ∧ DataW.Trod enc P w base spare held t6 v6 d6 p6 := by
 obtain ⟨v0, vs, d0, ds', p0, q, hargs, rfl, rfl, h0, hrest⟩ := trodAll_cons h
 obtain ⟨v1, vs1, d1, ds1, p1, q1, rfl, rfl, rfl, h1, hrest1⟩ := trodAll_cons hrest
 obtain ⟨v2, vs2, d2, ds2, p2, q2, rfl, rfl, rfl, h2, hrest2⟩ := trodAll_cons hrest1
 obtain ⟨v3, vs3, d3, ds3, p3, q3, rfl, rfl, rfl, h3, hrest3⟩ := trodAll_cons hrest2
 obtain ⟨v4, vs4, d4, ds4, p4, q4, rfl, rfl, rfl, h4, hrest4⟩ := trodAll_cons hrest3
 obtain ⟨v5, vs5, d5, ds5, p5, q5, rfl, rfl, rfl, h5, hrest5⟩ := trodAll_cons hrest4
 obtain ⟨v6, vs6, d6, ds6, p6, q6, rfl, rfl, rfl, h6, hrest6⟩ := trodAll_cons hrest5
 obtain ⟨rfl, rfl, rfl⟩ := trodAll_nil hrest6
 exact ⟨v0, v1, v2, v3, v4, v5, v6, d0, d1, d2, d3, d4, d5, d6, p0, p1, p2, p3, p4, p5, p6, by cases args; simp_all, rfl, by simp, h0, h1, h2, h3, h4, h5, h6⟩
end
end Go.SL
set_option maxHeartbeats 1000000
set_option maxRecDepth 16000
namespace Go.Proofs.YtlblgkelhibdoaaGreatDoor
open Go Go.SL
open Go.RowKit (wrap64)
attribute [local go_sem] imax_ite imin_ite
theorem risect_spec (r q : Rect) : Pure Sg 43 [ag (rectE r), ag (rectE q)] (fun x => x = .b (ag (rectE (isect r q)))) := by
 refine fn_a Tryz.func43 [.cell 4 32] ?_
 repeat' (first | refine un_a ?_ | ((first | refine st_a (fun K hK => ?_) | refine call_c (r13empty_spec _) ?_ | refine gcall_c (fun hg => r13empty_spec _) ?_ | refine call_c (r13clean_spec ⟨max r.x0 q.x0, max r.y0 q.y0, min r.x1 q.x1, min r.y1 q.y1⟩) ?_); and_intros; (all_goals first | (refine hK _ ?_; clear hK K) | exact auto_cl | skip)) | (refine if_a (fun hb => ?_) (fun hb => ?_); all_goals try exact bad_a) | (refine ret_a ?_; (try clear hB KB); (try clear hK K)))
 ·rw [isect, if_pos hb]; rfl
 ·rw [isect, if_neg (by rw [hb.1, hb.2]; simp)]; rfl
def four (a b c d : Int) (k : Nat) : Int := [a, b, c, d].getD k 0
end Go.Proofs.YtlblgkelhibdoaaGreatDoor
set_option maxHeartbeats 1000000
namespace Go.Proofs.YtlblgkelhibdoaaGreatDoor
def inside (c r : Rect) : Prop := emptyR r = true ∨ (c.x0 ≤ r.x0 ∧ c.y0 ≤ r.y0 ∧ r.x1 ≤ c.x1 ∧ r.y1 ≤ c.y1)
theorem inside_zero {c : Rect} : inside c zeroR := .inl empty_zero
theorem inside_isect {c a b : Rect} (h : inside c b) : inside c (isect a b) := by
 unfold isect
 split
 ·exact inside_zero
 ·rename_i hn
  rcases h with h | h
  ·exact absurd (.inr h) hn
  ·unfold cleanR
   split
   ·exact inside_zero
   ·right; dsimp only; omega
theorem inside_self {c : Rect} : inside c c := .inr ⟨Int.le_refl _, Int.le_refl _, Int.le_refl _, Int.le_refl _⟩
theorem hull_inside {c : Rect} {l : List Rect} (h : ∀ r ∈ l, inside c r) : inside c (hullM l) := by
 have H := hullIs l
 by_cases hn : ∃ r, InL l r
 ·have key : ∀ r, InL l r → c.x0 ≤ r.x0 ∧ c.y0 ≤ r.y0 ∧ r.x1 ≤ c.x1 ∧ r.y1 ≤ c.y1 := fun r ⟨h1, h2⟩ => by
   rcases h r h1 with h3 | h3
   ·rw [h2] at h3; cases h3
   ·exact h3
  obtain ⟨r0, i0, e0⟩ := (H.x0 hn).2
  obtain ⟨r1, i1, e1⟩ := (H.y0 hn).2
  obtain ⟨r2, i2, e2⟩ := (H.x1 hn).2
  obtain ⟨r3, i3, e3⟩ := (H.y1 hn).2
  have := key _ i0
  have := key _ i1
  have := key _ i2
  have := key _ i3
  right
  omega
 ·rw [H.none fun r hr => hn ⟨r, hr⟩]; exact inside_zero
theorem inside_covers {c r : Rect} (hc : emptyR c = false) (h : inside c r) : (emptyR r || decide (isect c r = r)) = true := by
 cases he : emptyR r with
 | true => rfl
 | false =>
  rcases h with h | h
  ·rw [he] at h; cases h
  ·have h1 : isect c r = cleanR ⟨max c.x0 r.x0, max c.y0 r.y0, min c.x1 r.x1, min c.y1 r.y1⟩ := if_neg (by rw [hc, he]; simp)
   have h2 : (⟨max c.x0 r.x0, max c.y0 r.y0, min c.x1 r.x1, min c.y1 r.y1⟩ : Rect) = r := rect_ext (by dsimp only; omega) (by dsimp only; omega) (by dsimp only; omega) (by dsimp only; omega)
   rw [h1, h2, cleanR, he, if_neg (by decide)]
   simp
theorem box_inside {s : Script} {o : Op} {r : Rect} : inside s.canvas (boxM s o r) := by
 unfold boxM
 split
 ·exact inside_self
 split
 ·exact inside_zero
 ·refine inside_isect ?_
  unfold maskRectM placedM
  split
  ·exact inside_isect inside_self
  split
  ·exact inside_zero
  split
  ·exact inside_zero
  ·exact inside_isect inside_self
theorem bx_inside {s : Script} : ∀ i g, inside s.canvas ((bxAt s i).1 g)
 | 0, g => inside_zero
 | i + 1, g => by
  have ih := bx_inside (s := s) i
  have up : ∀ (f : Nat → Rect) k v, (∀ g, inside s.canvas (f g)) → inside s.canvas v → ∀ g, inside s.canvas (upd f k v g) := fun f k v h1 h2 g => by
   unfold upd; split
   ·exact h2
   ·exact h1 g
  rw [bxAt]
  split
  ·exact ih g
  split
  ·exact up _ _ _ ih box_inside g
  ·exact up _ _ _ (up _ _ _ ih box_inside) box_inside g
theorem between_inside {s t : Script} (hc : s.canvas = t.canvas) : inside s.canvas (betweenM s t).1 := by
 have T : ∀ (u : Script) p q, ∀ r ∈ touchedM u p q, inside u.canvas r := fun u p q r hr => by
  unfold touchedM at hr
  rcases List.mem_append.1 hr with h | h
  ·obtain ⟨g, _, rfl⟩ := List.mem_map.1 h
   exact bx_inside _ g
  ·obtain ⟨g, _, rfl⟩ := List.mem_map.1 h
   exact bx_inside _ g
 unfold betweenM
 split
 ·exact inside_zero
 split
 ·exact inside_zero
 split
 ·exact inside_zero
 split
 ·exact inside_zero
 ·refine hull_inside fun r hr => ?_
  rcases List.mem_append.1 hr with h | h
  ·exact T s _ _ r h
  ·rw [hc]; exact T t _ _ r h
section
variable {s : Script} {m x y : Int}
end
end Go.Proofs.YtlblgkelhibdoaaGreatDoor
set_option maxHeartbeats 4000000
set_option maxRecDepth 16000
namespace Go.Proofs.YtlblgkelhibdoaaGreatDoor
open Go Go.SL
open Go.RowKit (wrap64)
attribute [local go_sem] Int.toNat_natCast
def skipM (ops : List Op) : Nat → Nat → Int → Nat
 | 0, k, _ => k
 | f + 1, k, c => if k < ops.length ∧ 0 < c % 3 ∧ (opAt ops k).kind = 1 then skipM ops f (k + 1) (c.tdiv 3) else k
theorem skip_step {ops : List Op} {k : Nat} {c : Int} (hk : k < ops.length) : skipM ops (ops.length - k) k c = if k < ops.length ∧ 0 < c % 3 ∧ (opAt ops k).kind = 1 then skipM ops (ops.length - (k + 1)) (k + 1) (c.tdiv 3) else k := by
 rw [show ops.length - k = (ops.length - (k + 1)) + 1 by omega]; rfl
def cutAt (s : Script) (n : Int) : Nat := (n % (s.ops.length + 1)).toNat
def newOps (s : Script) (l : List Raw) : List Op := (l.take 3).map fun r => gOp r false s.images.length s.canvas.x0 s.canvas.y0 false (mostM s.bits)
def restAt (s : Script) (cut n : Int) : Nat := skipM s.ops (s.ops.length - cutAt s n) (cutAt s n) cut
def editedM (s : Script) (l : List Raw) (cut n : Int) : Script :=
 { s with ops := s.ops.take (cutAt s n) ++ newOps s l ++ s.ops.drop (restAt s cut n) }
attribute [local go_sem] zS tS
theorem app_drop {xs ys : List Op} {k : Nat} (hk : k ≤ ys.length) (a : Nat) (ha : a < xs.length + (ys.length - k)) (j : Nat) :
  appF xs.length (fnOf opE xs) (fun i j => (opE (ys.getD (k + i) default)).getD j .any) a j = fnOf opE (xs ++ ys.drop k) a j := by
 unfold appF fnOf
 by_cases h : a < xs.length
 ·rw [if_pos h, show (xs ++ ys.drop k).getD a default = xs.getD a default from by rw [List.getD_eq_getElem?_getD, List.getD_eq_getElem?_getD, List.getElem?_append_left h]]
 ·rw [if_neg h, show (xs ++ ys.drop k).getD a default = ys.getD (k + (a - xs.length)) default from by
   rw [List.getD_eq_getElem?_getD, List.getD_eq_getElem?_getD, List.getElem?_append_right (by omega), List.getElem?_drop]]
theorem edited_spec (s : Script) (l : List Raw) (cut n : Int) (hs : ScriptLen s) (hn : s.ops.length ≤ 4096) (h1 : 1 ≤ s.images.length) (h2 : s.images.length ≤ 64) (hc1 : -1000 ≤ s.canvas.x0 ∧ s.canvas.x0 ≤ 1000) (hc2 : -1000 ≤ s.canvas.y0 ∧ s.canvas.y0 ≤ 1000)
  (hl : l.length ≤ 4611686018427387904) (hr : ∀ x ∈ l, RawOk x) (hcut : i64 cut) (hat : i64 n) :
  Pure Sg 17 [ag (scriptE s), .c (.p (rawL l)), I cut, I n] (fun x => x = .b (ag (scriptE (editedM s l cut n)))) := by
 obtain ⟨c1, c2⟩ := hcut
 obtain ⟨n1, n2⟩ := hat
 have hk0 : (cutAt s n : Int) = n % (s.ops.length + 1) := by
  have := Int.emod_nonneg n (show ((s.ops.length : Int) + 1) ≠ 0 by omega)
  unfold cutAt; omega
 have hk1 : cutAt s n ≤ s.ops.length := by
  have := Int.emod_lt_of_pos n (show (0 : Int) < (s.ops.length : Int) + 1 by omega)
  omega
 refine pure_le ?_
 refine fn_a Tryz.func17 [.cell 8 36] ?_
 have hnl : (newOps s l).length = min 3 l.length := by simp [newOps]
 have hTl : (s.ops.take (cutAt s n)).length = cutAt s n := by rw [List.length_take]; omega
 have hmost : u16 (mostM s.bits) := by unfold mostM u16; split <;> omega
 have hbit : ∀ t : Bool, t = (s.bits == 16) → (if t = true then (65535 : Int) else 255) = mostM s.bits := fun t ht => by rw [ht, mostM]; simp
 repeat' (first | refine un_a ?_ | ((first | refine st_a (fun K hK => ?_) | refine call_c (modp_spec n (s.ops.length + 1) (by omega) (by omega)) ?_); and_intros; (all_goals first | (refine hK _ ?_; clear hK K) | exact auto_cl | skip)) | (apply cw_ite; (case hf => rfl); (case hc => exact ev_a); (all_goals first | (intro hb; (try simp only [hbs] at hb)) | skip)) | exact atN_intro)
 refine cw_loop (X := Nat) (fun i => mkSt [(1, .b (.c (.p (rawL l)))), (2, .b (I cut)), (4, .b (.c (.ptr 0 0))), (8, .b (.c (.ptr 1 0))), (9, .b (U (mostM s.bits))), (10, .b (.c (.ptr 2 0))), (11, .b (I (cutAt s n))), (12, .b (I i))]
  [(0, .fix ((scriptE s).map CV.p)), (1, .fix zS), (2, .fix (tS s ((s.ops.take (cutAt s n)).length + i))), (3, .arr 89 12 ((s.ops.take (cutAt s n)).length + i) (fnOf opE (s.ops.take (cutAt s n) ++ (newOps s l).take i)))] 4)
  (fun i => i ≤ 3 ∧ i ≤ l.length) (fun i => 3 - i) 0 ?_ ?_ ?_
 ·exact ⟨by omega, by omega⟩
 ·refine le_a [(1, some 1), (2, some 2), (3, some 3)] ?_ ?_
  and_intros
  all_goals first | exact le_cl | skip
  ·exact .inl (by rw [hk0])
  ·refine .inr fun a ha j hj => ?_
   rw [show (s.ops.take (cutAt s n)).getD a default = s.ops.getD (0 + a) default from by
    rw [Nat.zero_add, List.getD_eq_getElem?_getD, List.getD_eq_getElem?_getD, List.getElem?_take_of_lt (by omega)]]
   exact fun _ _ _ h => h
 ·rintro i ⟨hi3, hil⟩
  rcases Nat.lt_or_ge i (min 3 l.length) with hlt | hge
  ·have hraw : RawOk (l.getD i default) := by
    rw [List.getD_eq_getElem?_getD, List.getElem?_eq_getElem (by omega)]; exact hr _ (List.getElem_mem _)
   repeat' (first | (((with_reducible refine cw_lastDK (id := 10) [] (by decide +kernel) (by decide +kernel) ?_ (fun K hK => ?_)); (first | (refine And.intro (fun iw hiw => ?_) ?_; (focus ((try simp (maxSteps := 1000000) (disch := omega) only [go_sem] at hiw ⊢); (repeat (refine Eq.trans (if_neg ?_) ?_; (focus omega))); exact hw iw (by omega))); (focus (first | exact Nat.zero_le _ | (simp (maxSteps := 1000000) (disch := omega) only [go_sem]; done) | (simp (maxSteps := 1000000) (disch := omega) only [go_sem]; omega)))) | exact wf_a)); (try simp (maxSteps := 1000000) (disch := omega) only [go_sem]); and_intros; (all_goals first | (refine hK _ (by simp (maxSteps := 1000000) (disch := omega) only [go_sem]) ?_; clear hK K) | exact auto_cl | skip)) | refine un_a ?_ | ((first | refine st_a (fun K hK => ?_) | refine call_c (op_spec (l.getD i default) false s.images.length s.canvas false (mostM s.bits) hraw (by omega) (by omega) (by omega) (by omega) (by omega) (by omega) hmost) ?_); and_intros; (all_goals first | (refine hK _ ?_; clear hK K) | exact auto_cl | skip)) | (refine if_a (fun hb => ?_) (fun hb => ?_); all_goals try exact bad_a))
   refine hK _ trivial ?_
   clear hK
   repeat' (first | refine un_a ?_ | (refine st_a (fun K hK => ?_); and_intros; (all_goals first | (refine hK _ ?_; clear hK K) | exact auto_cl | skip)))
   rw [thenQ_normal]
   refine wk_loop (i + 1) ?_ ⟨by omega, by omega⟩ (by omega)
   have hl1 : (s.ops.take (cutAt s n) ++ (newOps s l).take i).length = (s.ops.take (cutAt s n)).length + i := by simp only [List.length_append, List.length_take, hnl]; omega
   have he : (s.ops.take (cutAt s n) ++ (newOps s l).take i) ++ [gOp (l.getD i default) false s.images.length s.canvas.x0 s.canvas.y0 false (mostM s.bits)] = s.ops.take (cutAt s n) ++ (newOps s l).take (i + 1) := by
    rw [List.append_assoc, List.take_add_one]
    congr 2
    unfold newOps
    rw [List.getElem?_map, List.getElem?_take_of_lt (by omega), List.getElem?_eq_getElem (by omega), List.getD_eq_getElem?_getD, List.getElem?_eq_getElem (by omega)]
    rfl
   refine le_a [(1, some 1), (2, some 2), (3, some 5)] ?_ ?_
   and_intros
   all_goals first | exact le_cl | skip
   have key := fun g hg => arr_push (enc := opE) (xs := s.ops.take (cutAt s n) ++ (newOps s l).take i) (x := gOp (l.getD i default) false s.images.length s.canvas.x0 s.canvas.y0 false (mostM s.bits)) (s := 12) (g := g) hg
   simp only [hl1, he] at key
   refine .inr (key _ fun j hj => ?_)
   have hivl : j = 0 ∨ j = 1 ∨ j = 2 ∨ j = 3 ∨ j = 4 ∨ j = 5 ∨ j = 6 ∨ j = 7 ∨ j = 8 ∨ j = 9 ∨ j = 10 ∨ j = 11 := by omega
   rcases hivl with rfl | rfl | rfl | rfl | rfl | rfl | rfl | rfl | rfl | rfl | rfl | rfl <;> rfl
  ·repeat' (first | refine un_a ?_ | (refine st_a (fun K hK => ?_); and_intros; (all_goals first | (refine hK _ ?_; clear hK K) | exact auto_cl | skip)) | (refine if_a (fun hb => ?_) (fun hb => ?_); all_goals try exact bad_a))
   refine cw_loop (X := Nat × Int) (fun x => mkSt [(2, .b (I x.2)), (4, .b (.c (.ptr 0 0))), (8, .b (.c (.ptr 1 0))), (10, .b (.c (.ptr 2 0))), (11, .b (I x.1))]
    [(0, .fix ((scriptE s).map CV.p)), (1, .fix zS), (2, .fix (tS s ((s.ops.take (cutAt s n)).length + i))), (3, .arr 89 12 ((s.ops.take (cutAt s n)).length + i) (fnOf opE (s.ops.take (cutAt s n) ++ (newOps s l).take i)))] 4)
    (fun x => restAt s cut n = skipM s.ops (s.ops.length - x.1) x.1 x.2 ∧ x.1 ≤ s.ops.length ∧ i64 x.2) (fun x => s.ops.length - x.1) (cutAt s n, cut) ?_ ?_ ?_
   ·exact ⟨rfl, hk1, c1, c2⟩
   ·refine le_a [(1, some 1), (2, some 2), (3, some 3)] ?_ ?_
    and_intros
    all_goals first | exact le_cl | skip
   ·rintro ⟨k, c⟩ ⟨hk, hkl, c1, c2⟩
    dsimp only at hk hkl c1 c2 ⊢
    repeat' (first | refine un_a ?_ | ((first | refine st_a (fun K hK => ?_) | refine gcall_c (fun hg => modp_spec c 3 (by omega) (by omega)) ?_); and_intros; (all_goals first | (refine hK _ ?_; clear hK K) | exact auto_cl | skip)) | (refine if_a (fun hb => ?_) (fun hb => ?_); all_goals try exact bad_a) | (refine ret_a ?_; (try clear hB KB); (try clear hK K)))
    ·rw [blockQ_normal, thenQ_normal]
     refine wk_loop (k + 1, c.tdiv 3) ?_ ⟨?_, by dsimp only; omega, ?_⟩ (by dsimp only; omega)
     ·refine le_a [(1, some 1), (2, some 2), (3, some 3)] ?_ ?_
      and_intros
      all_goals first | exact le_cl | skip
     ·dsimp only
      rw [hk, skip_step (by omega), if_pos ⟨by omega, hb.1.2, hb.2⟩]
     ·dsimp only [i64]
      rcases Int.lt_or_le c 0 with h | h
      ·rw [show c = -(-c) by omega, Int.neg_tdiv, Int.tdiv_eq_ediv_of_nonneg (by omega)]; omega
      ·rw [Int.tdiv_eq_ediv_of_nonneg h]; omega
    ·have hrest : restAt s cut n = k := by
      rw [hk]
      rcases Nat.lt_or_ge k s.ops.length with h | h
      ·rw [skip_step h, if_neg (fun q => hb ⟨by omega, q.2.1⟩ q.2.2)]
      ·rw [show s.ops.length - k = 0 by omega]; rfl
     have hti : (newOps s l).take i = newOps s l := List.take_of_length_le (by omega)
     rw [hti]
     have hed : editedM s l cut n = { s with ops := (s.ops.take (cutAt s n) ++ newOps s l) ++ s.ops.drop k } := by rw [editedM, hrest]
     rw [hed]
     have hlen : (s.ops.take (cutAt s n) ++ newOps s l).length = (s.ops.take (cutAt s n)).length + i := by rw [List.length_append, hnl]; omega
     rw [← hlen]
     refine sle_b (ble_agg ?_)
     simp only [List.map_cons, List.map_nil, cleL_cons, cleL_nil]
     and_intros
     all_goals first | exact .inl rfl | exact .inl trivial | exact .inr nil_le | trivial | skip
     rw [show (s.ops.take (cutAt s n) ++ newOps s l ++ s.ops.drop k).length = (s.ops.take (cutAt s n) ++ newOps s l).length + (s.ops.length - k) from by rw [List.length_append, List.length_drop]]
     refine .inr (lst_leQ fun a ha j hj => ?_)
     show PV.le (appF _ (fnOf opE (s.ops.take (cutAt s n) ++ newOps s l)) (fun i j => (opE (s.ops.getD (k + i) default)).getD j .any) a j) _
     rw [app_drop hkl a ha j]
     exact fun _ _ _ h => h
end Go.Proofs.YtlblgkelhibdoaaGreatDoor
set_option maxRecDepth 8000
set_option maxHeartbeats 2000000
namespace Go.Proofs.YtlblgkelhibdoaaGreatDoor
open Go Go.SL
open Go.RowKit (wrap64)
theorem skip_kind {ops : List Op} : ∀ (f k : Nat) (cut : Int), k + f = ops.length → k ≤ skipM ops f k cut ∧ skipM ops f k cut ≤ ops.length ∧ ∀ j, k ≤ j → j < skipM ops f k cut → (opAt ops j).kind = 1
 | 0, k, cut, h => ⟨Nat.le_refl _, by rw [skipM]; omega, fun j h1 h2 => by rw [skipM] at h2; omega⟩
 | f + 1, k, cut, h => by
  rw [skipM]
  split
  ·rename_i hc
   obtain ⟨a, b, d⟩ := skip_kind (ops := ops) f (k + 1) (cut.tdiv 3) (by omega)
   refine ⟨by omega, b, fun j h1 h2 => ?_⟩
   by_cases e : j = k
   ·rw [e]; exact hc.2.2
   ·exact d j (by omega) h2
  ·exact ⟨Nat.le_refl _, by omega, fun j h1 h2 => by omega⟩
theorem drop_draws {b : Int} {n : Nat} {ops L : List Op} {k : Nat} : ∀ d, k + d ≤ ops.length → (∀ j, k ≤ j → j < k + d → (opAt ops j).kind = 1) → okAll b n (ops.drop k) L → okAll b n (ops.drop (k + d)) L ∧ openAfter (ops.drop (k + d)) L = openAfter (ops.drop k) L
 | 0, _, _, h => ⟨h, rfl⟩
 | d + 1, hl, hk, h => by
  obtain ⟨h1, h2⟩ := drop_draws d (by omega) (fun j a b => hk j a (by omega)) h
  have e : ops.drop (k + d) = opAt ops (k + d) :: ops.drop (k + d + 1) := by
   rw [List.drop_eq_getElem_cons (by omega), opAt, List.getD_eq_getElem?_getD, List.getElem?_eq_getElem (by omega)]; rfl
  have hn : nextOpen L (opAt ops (k + d)) = L := by
   rw [nextOpen, if_neg (by rw [hk (k + d) (by omega) (by omega)]; decide), if_neg (by rw [hk (k + d) (by omega) (by omega)]; decide)]
  rw [e] at h1 h2
  refine ⟨?_, ?_⟩
  ·have := h1.2
   rw [hn] at this
   exact this
  ·rw [← h2]
   show _ = openAfter (ops.drop (k + d + 1)) (nextOpen L (opAt ops (k + d)))
   rw [hn]; rfl
theorem draw_any {b : Int} {n : Nat} {o : Op} {l l' : List Op} (hk : o.kind = 1) (h4 : o.operator = 4) (h : opErr b n o l = 0) : opErr b n o l' = 0 := by
 rw [opErr_zero] at h ⊢
 obtain ⟨h1, h2, h3, h5⟩ := h
 obtain ⟨q1, q2, q3, q4, q5, q6, q7⟩ := h5 (by omega)
 exact ⟨h1, h2, fun q => by omega, fun _ => ⟨q1, q2, q3, q4, q5, fun q => absurd h4 q, fun q => by omega⟩⟩
theorem newOp_ok (c : Scene) (r : Raw) (l : List Op) : opErr (gScript c).bits (gImages c).length (gOp r false (gImages c).length (gCanvas c).x0 (gCanvas c).y0 false (gMax c.bits)) l = 0 ∧
  OpTame (gMax c.bits) (gOp r false (gImages c).length (gCanvas c).x0 (gCanvas c).y0 false (gMax c.bits)) := by
 have := gOp_ok (s := c) (r := { r with kind := 3 }) (l := [popOp]) (by decide)
 have e : gOp { r with kind := 3 } (decide (({ r with kind := 3 } : Raw).kind % 8 < 3)) (gImages c).length (gCanvas c).x0 (gCanvas c).y0 (ctxOk [popOp]) (gMax c.bits) = gOp r false (gImages c).length (gCanvas c).x0 (gCanvas c).y0 false (gMax c.bits) := rfl
 rw [e] at this
 exact ⟨draw_any rfl rfl this.1, this.2⟩
theorem news_ok (c : Scene) (L : List Op) : ∀ l : List Raw, okAll (gScript c).bits (gImages c).length (l.map fun r => gOp r false (gImages c).length (gCanvas c).x0 (gCanvas c).y0 false (gMax c.bits)) L ∧
  openAfter (l.map fun r => gOp r false (gImages c).length (gCanvas c).x0 (gCanvas c).y0 false (gMax c.bits)) L = L
 | [] => ⟨trivial, rfl⟩
 | r :: l => by
  obtain ⟨h1, h2⟩ := news_ok c L l
  have hn : nextOpen L (gOp r false (gImages c).length (gCanvas c).x0 (gCanvas c).y0 false (gMax c.bits)) = L := by
   rw [nextOpen, if_neg (by show ¬ (1 : Int) = 2; decide), if_neg (by show ¬ (1 : Int) = 3; decide)]
  refine ⟨⟨(newOp_ok c r L).1, by rw [hn]; exact h1⟩, ?_⟩
  show openAfter _ (nextOpen L _) = L
  rw [hn]; exact h2
theorem edited_good (c : Scene) (l : List Raw) (cut n : Int) : okAll (gScript c).bits (gImages c).length (editedM (gScript c) l cut n).ops [] ∧ openAfter (editedM (gScript c) l cut n).ops [] = [] ∧
  (editedM (gScript c) l cut n).ops.length ≤ 21 ∧ ∀ o ∈ (editedM (gScript c) l cut n).ops, OpTame (gMax c.bits) o := by
 obtain ⟨g1, g2, g3, g4⟩ := gScript_good c
 have hk0 : cutAt (gScript c) n ≤ (gScript c).ops.length := by
  have := Int.emod_nonneg n (show (((gScript c).ops.length : Int) + 1) ≠ 0 by omega)
  have := Int.emod_lt_of_pos n (show (0 : Int) < ((gScript c).ops.length : Int) + 1 by omega)
  unfold cutAt; omega
 obtain ⟨s1, s2, s3⟩ := skip_kind (ops := (gScript c).ops) ((gScript c).ops.length - cutAt (gScript c) n) (cutAt (gScript c) n) cut (by omega)
 have hr : restAt (gScript c) cut n = skipM (gScript c).ops ((gScript c).ops.length - cutAt (gScript c) n) (cutAt (gScript c) n) cut := rfl
 rw [← hr] at s1 s2 s3
 have hnew : newOps (gScript c) l = (l.take 3).map fun r => gOp r false (gImages c).length (gCanvas c).x0 (gCanvas c).y0 false (gMax c.bits) := by
  unfold newOps; rw [most_g]; rfl
 have e : (editedM (gScript c) l cut n).ops = (gScript c).ops.take (cutAt (gScript c) n) ++ (newOps (gScript c) l ++ (gScript c).ops.drop (restAt (gScript c) cut n)) := List.append_assoc ..
 rw [e, hnew]
 have hs : (gScript c).ops = (gScript c).ops.take (cutAt (gScript c) n) ++ (gScript c).ops.drop (cutAt (gScript c) n) := (List.take_append_drop _ _).symm
 have g1' := g1
 rw [hs, okAll_append] at g1'
 have g2' := g2
 rw [hs, openAfter_append] at g2'
 obtain ⟨n1, n2⟩ := news_ok c (openAfter ((gScript c).ops.take (cutAt (gScript c) n)) []) (l.take 3)
 have hd := drop_draws (restAt (gScript c) cut n - cutAt (gScript c) n) (by omega) (fun j a b => s3 j a (by omega)) g1'.2
 rw [show cutAt (gScript c) n + (restAt (gScript c) cut n - cutAt (gScript c) n) = restAt (gScript c) cut n by omega] at hd
 refine ⟨okAll_append.2 ⟨g1'.1, okAll_append.2 ⟨n1, by rw [n2]; exact hd.1⟩⟩, ?_, ?_, fun o ho => ?_⟩
 ·rw [openAfter_append, openAfter_append, n2, hd.2]; exact g2'
 ·simp only [List.length_append, List.length_take, List.length_drop, List.length_map]
  omega
 ·rcases List.mem_append.1 ho with ho | ho
  ·exact g4 o (List.mem_of_mem_take ho)
  rcases List.mem_append.1 ho with ho | ho
  ·obtain ⟨r, _, rfl⟩ := List.mem_map.1 ho
   exact (newOp_ok c r []).2
  ·exact g4 o (List.mem_of_mem_drop ho)
theorem of_edited (c : Scene) (l : List Raw) (cut n : Int) : Of c (editedM (gScript c) l cut n) := by
 have hi := gImages_le c
 obtain ⟨h1, h2, h3, h4⟩ := edited_good c l cut n
 refine ⟨rfl, rfl, rfl, rfl, rfl, hi.1, Nat.le_trans hi.2 (by decide), imgs_g c, vops_of ?_, fun o ho => (h4 o ho).op.1⟩
 rw [opsM_ok (t := editedM (gScript c) l cut n) (gframe rfl rfl rfl rfl rfl (gimages_len c) (Nat.le_trans h3 (by decide))) h1 h2]
end Go.Proofs.YtlblgkelhibdoaaGreatDoor
set_option maxHeartbeats 4000000
set_option maxRecDepth 16000
namespace Go.Proofs.YtlblgkelhibdoaaGreatDoor
open Go Go.SL
open Go.RowKit (wrap64)
attribute [local go_sem] Int.toNat_natCast
attribute [local go_sem] uBase uI
theorem gimages_pos (c : Scene) : 1 ≤ (gScript c).images.length := by
 show 1 ≤ (gImages c).length
 unfold gImages
 split
 ·simp
 ·omega
end Go.Proofs.YtlblgkelhibdoaaGreatDoor
set_option maxHeartbeats 2000000
set_option maxRecDepth 16000
namespace Go.Proofs.YtlblgkelhibdoaaGreatDoor
open Go Go.SL
open Go.RowKit (wrap64)
theorem covers_isect {r q : Rect} (hq : emptyR q = false) : coversR r q = decide (isect r q = q) := by
 have hz : ¬ zeroR = q := fun e => by rw [← e] at hq; exact absurd hq (by decide)
 rw [coversR, hq]
 unfold isect
 cases hr : emptyR r with
 | true => rw [if_pos (.inl rfl), decide_eq_false hz]; rfl
 | false =>
  rw [if_neg (by rw [hq]; decide)]
  by_cases hc : r.x0 ≤ q.x0 ∧ r.y0 ≤ q.y0 ∧ q.x1 ≤ r.x1 ∧ q.y1 ≤ r.y1
  ·have e : (⟨max r.x0 q.x0, max r.y0 q.y0, min r.x1 q.x1, min r.y1 q.y1⟩ : Rect) = q := by
    cases q with
    | mk x0 y0 x1 y1 =>
     simp only [Rect.mk.injEq] at hc ⊢
     omega
   have e2 : cleanR q = q := if_neg (by rw [hq]; decide)
   rw [e, e2, decide_eq_true hc.1, decide_eq_true hc.2.1, decide_eq_true hc.2.2.1, decide_eq_true hc.2.2.2, decide_eq_true rfl]; rfl
  ·have hl : (false || !false && decide (r.x0 ≤ q.x0) && decide (r.y0 ≤ q.y0) && decide (q.x1 ≤ r.x1) && decide (q.y1 ≤ r.y1)) = false := by
    rw [Bool.eq_false_iff]
    intro h
    simp only [Bool.false_or, Bool.not_false, Bool.true_and, Bool.and_eq_true, decide_eq_true_eq] at h
    exact hc ⟨h.1.1.1, h.1.1.2, h.1.2, h.2⟩
   rw [hl, eq_comm, decide_eq_false_iff_not]
   unfold cleanR
   split
   ·exact hz
   ·intro h
    apply hc
    have h1 := congrArg Rect.x0 h
    have h2 := congrArg Rect.y0 h
    have h3 := congrArg Rect.x1 h
    have h4 := congrArg Rect.y1 h
    dsimp only at h1 h2 h3 h4
    omega
theorem rect_iff (a b : Rect) : a = b ↔ a.x0 = b.x0 ∧ a.y0 = b.y0 ∧ a.x1 = b.x1 ∧ a.y1 = b.y1 := by
 cases a; cases b; simp
theorem rcoversR_spec (r q : Rect) : Pure Sg 14 [ag (rectE r), ag (rectE q)] (fun x => x = .b (B (coversR r q))) := by
 have h1 := r13empty_spec q
 have h2 := risect_spec r q
 refine fn_a Tryz.func14 [.tmp 4] ?_
 repeat' (first | with_reducible exact tr_a | refine un_a ?_ | ((first | refine st_a (fun K hK => ?_) | refine rg_a ?_ | refine call_c (h1) ?_ | refine gcall_c (fun hg => h1) ?_ | refine call_c (h2) ?_ | refine gcall_c (fun hg => h2) ?_); and_intros; (all_goals first | (refine hK _ ?_; clear hK K) | exact auto_cl | skip)) | ((first | apply cw_ite | apply cw_iteN); (case hf => rfl); (case hc => exact ev_a); (all_goals first | (intro hb; (try simp only [hbs] at hb)) | skip)) | exact atN_intro | (refine if_a (fun hb => ?_) (fun hb => ?_); all_goals try exact bad_a) | refine cw_blocks (fun KB hB => ?_) | (refine hB _ ?_; clear hB KB) | refine exit_by (S := Sg) (by assumption) ?_ | (refine ret_a ?_; (try clear hB KB); (try clear hK K)))
 refine congrArg (fun b => SV.b (B b)) ?_
 cases hq : emptyR q with
 | true => rw [coversR, hq]; rfl
 | false =>
  rw [covers_isect hq, Bool.false_or, Bool.eq_iff_iff, decide_eq_true_eq, rect_iff]
  simp only [Bool.and_eq_true, beq_iff_eq, and_true]
end Go.Proofs.YtlblgkelhibdoaaGreatDoor
set_option maxHeartbeats 4000000
set_option maxRecDepth 16000
namespace Go.Proofs.YtlblgkelhibdoaaGreatDoor
open Go Go.SL
open Go.RowKit (wrap64)
attribute [local go_sem] Int.toNat_natCast
theorem of_slen {c : Scene} {s : Script} (h : Of c s) : ScriptLen s := by
 have h1 := (gScript_len c).order
 exact ⟨by rw [h.o]; exact h1, Nat.le_trans h.n2 (by decide), Nat.le_trans h.V.cnt (by decide)⟩
theorem enough_law (c : Scene) (hc : SceneOk c) (l : List Raw) (hl : l.length ≤ 4611686018427387904) (hr : ∀ x ∈ l, RawOk x) (cut n : Int) (hcut : i64 cut) (hn : i64 n) (b : List Int) (hb : b.length ≤ 4611686018427387904) (x y : Int) :
  Pure Sg 4 [ag (sceneE c), .c (.p (rawL l)), I cut, I n, .c (.p (ints b)), I x, I y] (fun r => r = .b (B true)) := by
 have ht : True := trivial
 have hg := gscript_spec c hc
 have hgl := gScript_len c
 have hip := gimages_pos c
 have hil := gimages_len c
 have hi4 := gImages_le c
 have hcx : -6 ≤ (gScript c).canvas.x0 ∧ (gScript c).canvas.x0 ≤ 6 ∧ -6 ≤ (gScript c).canvas.y0 ∧ (gScript c).canvas.y0 ≤ 6 := by
  show -6 ≤ (gCanvas c).x0 ∧ (gCanvas c).x0 ≤ 6 ∧ -6 ≤ (gCanvas c).y0 ∧ (gCanvas c).y0 ≤ 6
  unfold gCanvas
  dsimp only
  omega
 have hed := edited_spec (gScript c) l cut n hgl (Nat.le_trans (gops_len c) (by decide)) hip hil (by omega) (by omega) hl hr hcut hn
 have hO := of_g c
 have hT := of_edited c l cut n
 have hb1 := bias_sp (gScript c) b hgl hb hO.V.cnt (by omega)
 have hb2 := bias_sp (editedM (gScript c) l cut n) b (of_slen hT) hb hT.V.cnt (Nat.le_trans hT.n2 (by decide))
 have hOb := of_bias hO hi4.2 b
 have hTb := of_bias hT hi4.2 b
 have hsame : (gScript c).images = (editedM (gScript c) l cut n).images := rfl
 have hsameb : (biasM (gScript c) b).images = (biasM (editedM (gScript c) l cut n) b).images := rfl
 generalize editedM (gScript c) l cut n = t at *
 generalize gScript c = s at *
 obtain ⟨S, hS⟩ : ∃ S, S = if 0 < b.length then biasM s b else s := ⟨_, rfl⟩
 obtain ⟨T, hTT⟩ : ∃ T, T = if 0 < b.length then biasM t b else t := ⟨_, rfl⟩
 have hOS : Of c S := by rw [hS]; split <;> assumption
 have hOT : Of c T := by rw [hTT]; split <;> assumption
 have hST : S.images = T.images := by rw [hS, hTT]; split <;> assumption
 obtain ⟨b2, hv⟩ := two_value hOS hOT hST x y
 have hbw := between_spec S T (of_slen hOS) (of_slen hOT)
 rw [b2] at hbw
 have hsm : Small S.canvas := by rw [hOS.cv]; exact gCanvas_small c
 have hin := pt_in hsm x y
 have hp := point_sp S.canvas x y hsm
 have hbx : -20 ≤ S.canvas.x0 ∧ S.canvas.x1 ≤ 100 ∧ -20 ≤ S.canvas.y0 ∧ S.canvas.y1 ≤ 100 := by
  obtain ⟨q1, q2, q3, q4, _, _⟩ := hsm
  omega
 have hin2 := hin
 rw [hOS.cv] at hin2
 obtain ⟨i1, i2, i3, i4⟩ := hin
 have hv1 := value_pt S _ _ _ (hOS.pt (x := ptX S.canvas x) (y := ptY S.canvas y) (by rw [hOS.cv]; exact hin2)) (of_slen hOS) ⟨by omega, by omega⟩ ⟨by omega, by omega⟩
 have hv2 := value_pt T _ _ _ (hOT.pt (x := ptX S.canvas x) (y := ptY S.canvas y) (by rw [hOS.cv]; exact hin2)) (of_slen hOT) ⟨by omega, by omega⟩ ⟨by omega, by omega⟩
 have hco := contains_sp (betweenM S T).1 (ptX S.canvas x) (ptY S.canvas y)
 have hcv := rcoversR_spec S.canvas (betweenM S T).1
 have hcov : coversR S.canvas (betweenM S T).1 = true := by
  have h1 := inside_covers (small_empty hsm) (between_inside (s := S) (t := T) (hOS.cv.trans hOT.cv.symm))
  cases he : emptyR (betweenM S T).1 with
  | true => rw [coversR, he]; rfl
  | false =>
   rw [covers_isect he]
   rw [he, Bool.false_or] at h1
   exact h1
 rw [hcov] at hcv
 have haw := awake31_spec
 refine fn_a Tryz.func4 [.tmp 14] ?_
 repeat' (first | with_reducible exact tr_a | refine un_a ?_ | ((with_reducible refine cw_stepV (id := 3) (fun K hW => ?_)); (try simp (maxSteps := 1000000) (disch := omega) only [go_sem]); and_intros; (all_goals first | (refine hK _ ?_; clear hK K) | exact auto_cl | skip)) | ((first | refine st_a (fun K hK => ?_) | refine rg_a ?_ | refine call_c (hg) ?_ | refine gcall_c (fun hg => hg) ?_ | refine call_c (hed) ?_ | refine gcall_c (fun hg => hed) ?_); and_intros; (all_goals first | (refine hK _ ?_; clear hK K) | exact auto_cl | skip)) | ((first | apply cw_ite | apply cw_iteN); (case hf => rfl); (case hc => exact ev_a); (all_goals first | (intro hb; (try simp only [hbs] at hb)) | skip)) | exact atN_intro | (refine if_a (fun hb => ?_) (fun hb => ?_); all_goals try exact bad_a) | refine cw_blocks (fun KB hB => ?_) | (refine hB _ ?_; clear hB KB) | refine exit_by (S := Sg) (by assumption) ?_ | (refine ret_a ?_; (try clear hB KB); (try clear hK K)))
 refine hW _ (mkSt [(4, .b (.c (.p (ints b)))), (5, .b (I x)), (6, .b (I y)), (15, .b (.c (.ptr 1 0))), (16, .b (.c (.ptr 2 0))), (30, .b (B (decide ((b.length : Int) > 0))))]
  [(1, .fix ((scriptE s).map CV.p)), (2, .fix ((scriptE t).map CV.p))] 3) ?_ ?_
 ·refine le_a [(1, some 1), (2, some 2)] ?_ ?_
  and_intros
  all_goals first | exact le_cl | skip
 clear hW
 refine cw_ifM (t := decide ((b.length : Int) > 0)) (mkSt [(5, .b (I x)), (6, .b (I y)), (15, .b (.c (.ptr 1 0))), (16, .b (.c (.ptr 2 0)))] [(1, .fix ((scriptE S).map CV.p)), (2, .fix ((scriptE T).map CV.p))] 3) ?_ ?_ ?_ ?_
 ·simp (maxSteps := 1000000) (disch := omega) only [go_sem]
 ·intro h0
  rw [decide_eq_true_eq] at h0
  rw [hS, hTT, if_pos (by omega), if_pos (by omega)]
  refine cw_lastX (id := 4) (.br 0 (.br 1 (.br 4 (.br 2 (.br 3 (.br 5 (.br 6 (.br 7 .leaf .nil) .nil) .nil) .nil) (.br 3 (.br 2 (.br 5 (.br 6 (.br 7 .leaf .nil) .nil) .nil) .nil) .nil)) .nil) .nil) .nil) (by decide +kernel) ?_ (fun K0 hW => ?_)
  ·(first | (refine And.intro (fun iw hiw => ?_) ?_; (focus ((try simp (maxSteps := 1000000) (disch := omega) only [go_sem] at hiw ⊢); (repeat (refine Eq.trans (if_neg ?_) ?_; (focus omega))); exact hw iw (by omega))); (focus (first | exact Nat.zero_le _ | (simp (maxSteps := 1000000) (disch := omega) only [go_sem]; done) | (simp (maxSteps := 1000000) (disch := omega) only [go_sem]; omega)))) | exact wf_a)
  replace hW := hold_K hW
  repeat' (first | exact tree_nil | (refine tree_br (fun K' hK' => ?_) ?_) | (refine tree_leaf (hW _ ?_); clear hW) | ((first | refine call_c (hb1) ?_ | refine gcall_c (fun hg => hb1) ?_ | refine call_c (hb2) ?_ | refine gcall_c (fun hg => hb2) ?_); (try simp (maxSteps := 1000000) (disch := omega) only [go_sem]); and_intros; (all_goals first | (refine hK' _ ?_; clear hK' K') | trivial | omega | exact Nat.le_of_ble_eq_true rfl | exact auto_cl | skip)) | (simp (maxSteps := 1000000) (disch := omega) only [go_sem]; and_intros; (all_goals first | (refine hK' _ ?_; clear hK' K') | trivial | omega | exact Nat.le_of_ble_eq_true rfl | exact auto_cl | skip)))
  all_goals
   refine hold_of ?_
   try rw [thenQ_normal]
   refine ⟨_, ?_, rfl⟩
   refine le_a [(1, some 1), (2, some 2)] ?_ ?_
   and_intros
   all_goals first | exact le_cl | skip
 ·intro h0
  rw [decide_eq_false_iff_not] at h0
  rw [hS, hTT, if_neg (by omega), if_neg (by omega)]
  repeat' (first | with_reducible exact tr_a | refine un_a ?_ | ((first | refine st_a (fun K hK => ?_) | refine rg_a ?_); and_intros; (all_goals first | (refine hK _ ?_; clear hK K) | exact auto_cl | skip)) | ((first | apply cw_ite | apply cw_iteN); (case hf => rfl); (case hc => exact ev_a); (all_goals first | (intro hb; (try simp only [hbs] at hb)) | skip)) | exact atN_intro | (refine if_a (fun hb => ?_) (fun hb => ?_); all_goals try exact bad_a) | refine cw_blocks (fun KB hB => ?_) | (refine hB _ ?_; clear hB KB) | refine exit_by (S := Sg) (by assumption) ?_ | (refine ret_a ?_; (try clear hB KB); (try clear hK K)))
  try rw [thenQ_normal]
  refine ⟨_, ?_, rfl⟩
  refine le_a [(1, some 1), (2, some 2)] ?_ ?_
  and_intros
  all_goals first | exact le_cl | skip
 repeat' (first | with_reducible exact tr_a | refine dec_a ht ?_ | refine un_a ?_ | ((first | refine st_a (fun K hK => ?_) | refine rg_a ?_ | refine call_c (hbw) ?_ | refine gcall_c (fun hg => hbw) ?_ | refine call_c (hp) ?_ | refine gcall_c (fun hg => hp) ?_ | refine call_c (haw) ?_ | refine gcall_c (fun hg => haw) ?_ | refine call_c (hcv) ?_ | refine gcall_c (fun hg => hcv) ?_ | refine call_c (hco) ?_ | refine gcall_c (fun hg => hco) ?_ | refine call_c (hv1) ?_ | refine gcall_c (fun hg => hv1) ?_ | refine call_c (hv2) ?_ | refine gcall_c (fun hg => hv2) ?_); and_intros; (all_goals first | (refine hK _ ?_; clear hK K) | exact auto_cl | skip)) | ((first | apply cw_ite | apply cw_iteN); (case hf => rfl); (case hc => exact ev_a); (all_goals first | (intro hb; (try simp only [hbs] at hb)) | skip)) | exact atN_intro | (refine if_a (fun hb => ?_) (fun hb => ?_); all_goals try exact bad_a) | refine cw_blocks (fun KB hB => ?_) | (refine hB _ ?_; clear hB KB) | refine exit_by (S := Sg) (by assumption) ?_ | (refine ret_a ?_; (try clear hB KB); (try clear hK K)))
 refine congrArg (fun b => SV.b (B b)) (?_ : _ = true)
 cases hcb : conB (betweenM S T).1 (ptX S.canvas x) (ptY S.canvas y) with
 | true => rfl
 | false =>
  rw [hv hcb]
  simp only [beq_self_eq_true, Bool.and_self, Bool.true_and, Bool.false_or]
end Go.Proofs.YtlblgkelhibdoaaGreatDoor
