/- Part of the proof: TF. -/
import Derived.Test.YtlblgkelhibdoaaGreatDoorM39
import Derived.Test.YtlblgkelhibdoaaGreatDoorM53
set_option linter.unusedSimpArgs false
set_option linter.unusedVariables false
set_option maxRecDepth 8000
set_option maxHeartbeats 200000
namespace Go.Proofs.YtlblgkelhibdoaaGreatDoor
open Go Go.SL
theorem elm_open {e : List Op} (h : Elm e) : ∀ l, openAfter e l = l := by
 induction h with
 | nil => exact fun _ => rfl
 | @draw o r h _ ih =>
  intro l
  show openAfter r (nextOpen l o) = l
  rw [nextOpen, if_neg (by omega), if_neg (by omega)]; exact ih l
 | @grp o p a r h1 _ h3 _ ih1 ih2 =>
  intro l
  show openAfter (a ++ p :: r) (nextOpen l o) = l
  rw [openAfter_append, nextOpen, if_pos h1, ih1]
  show openAfter r (nextOpen (l ++ [o]) p) = l
  rw [nextOpen, if_neg (by omega), if_pos h3, List.dropLast_concat]; exact ih2 l
theorem err_weak {b : Int} {n : Nat} {o : Op} {l l' : List Op} (h : opErr b n o l = 0) (hk : o.kind ≠ 3) (hc : ctxOk l = true → ctxOk l' = true) (hl : l'.length ≤ l.length) : opErr b n o l' = 0 := by
 rw [opErr_zero] at h ⊢
 obtain ⟨a1, a2, a3, a4⟩ := h
 obtain ⟨q1, q2, q3, q4, q5, q6, q7⟩ := a4 hk
 exact ⟨a1, a2, fun q => absurd q hk, fun _ => ⟨q1, q2, q3, q4, q5, fun q => hc (q6 q), fun q => Nat.lt_of_le_of_lt hl (q7 q)⟩⟩
theorem err_pop {b : Int} {n : Nat} {o : Op} {l l' : List Op} (h : opErr b n o l = 0) (hk : o.kind = 3) (hl : 0 < l'.length) : opErr b n o l' = 0 := by
 rw [opErr_zero] at h ⊢
 exact ⟨h.1, h.2.1, fun _ => hl, fun q => absurd hk q⟩
theorem ctx_end (l : List Op) (o : Op) : ctxOk (l ++ [o]) = (o.isolated && !o.knockout) := by
 have e : (l ++ [o]).getD ((l ++ [o]).length - 1) default = o := by
  rw [List.length_append, List.length_singleton, Nat.add_sub_cancel, List.getD_eq_getElem?_getD, List.getElem?_append_right (Nat.le_refl _), Nat.sub_self]; rfl
 have e2 : (l ++ [o]).isEmpty = false := by cases l <;> rfl
 rw [ctxOk, e, e2]; rfl
theorem elm_ok {b : Int} {n : Nat} {e : List Op} (h : Elm e) : ∀ {l l' : List Op}, okAll b n e l → (ctxOk l = true → ctxOk l' = true) → l'.length ≤ l.length → okAll b n e l' := by
 induction h with
 | nil => exact fun _ _ _ => trivial
 | @draw o r h _ ih =>
  intro l l' hk hc hl
  have e1 : nextOpen l o = l := by rw [nextOpen, if_neg (by omega), if_neg (by omega)]
  have e2 : nextOpen l' o = l' := by rw [nextOpen, if_neg (by omega), if_neg (by omega)]
  have h2 := hk.2
  rw [e1] at h2
  refine ⟨err_weak hk.1 (by omega) hc hl, ?_⟩
  rw [e2]; exact ih h2 hc hl
 | @grp o p a r h1 ha h3 _ ih1 ih2 =>
  intro l l' hk hc hl
  have e1 : ∀ l, nextOpen l o = l ++ [o] := fun l => by rw [nextOpen, if_pos h1]
  have e2 : ∀ l, nextOpen (l ++ [o]) p = l := fun l => by rw [nextOpen, if_neg (by omega), if_pos h3, List.dropLast_concat]
  have h2 := hk.2
  rw [e1, okAll_append, elm_open ha] at h2
  refine ⟨err_weak hk.1 (by omega) hc hl, ?_⟩
  rw [e1, okAll_append, elm_open ha]
  refine ⟨ih1 h2.1 (fun q => by rw [ctx_end] at q ⊢; exact q) (by simpa using hl), err_pop h2.2.1 h3 (by simp), ?_⟩
  rw [e2]
  have := h2.2.2
  rw [e2] at this
  exact ih2 this hc hl
theorem ok_at {s : Script} (V : VOps s) {k : Nat} (hk : k ≤ s.ops.length) : okAll s.bits s.images.length (s.ops.drop k) (openAfter (s.ops.take k) []) ∧ openAfter (s.ops.drop k) (openAfter (s.ops.take k) []) = [] ∧ okAll s.bits s.images.length (s.ops.take k) [] := by
 have h1 := okAll_of V (s.ops.length - k) (by omega)
 rw [show s.ops.length - (s.ops.length - k) = k by omega] at h1
 have h2 := okAll_of V s.ops.length (Nat.le_refl _)
 rw [Nat.sub_self] at h2
 have h2 : okAll s.bits s.images.length s.ops [] := h2
 have h3 := open_take (ops := s.ops) s.ops.length (Nat.le_refl _)
 rw [List.take_length, V.wf.fin] at h3
 have h3 : openAfter s.ops [] = [] := h3
 have e : s.ops = s.ops.take k ++ s.ops.drop k := (List.take_append_drop k s.ops).symm
 rw [e, okAll_append] at h2
 refine ⟨h1, ?_, h2.1⟩
 rw [← openAfter_append, ← e, h3]
theorem cut_ok {s : Script} (V : VOps s) {i : Nat} (hi : i < s.ops.length) (hk : (opAt s.ops i).kind ≠ 3) : okAll s.bits s.images.length (cutOps s i) [] ∧ openAfter (cutOps s i) [] = [] := by
 have hel := ends_lt V.wf hi
 have e : openAfter (s.ops.take (endsM s.ops i + 1)) [] = openAfter (s.ops.take i) [] := by
  rw [open_take _ (by omega), open_take _ (by omega), stk_ends V.wf hi hk]
 obtain ⟨h1, h2, _⟩ := ok_at V (show endsM s.ops i + 1 ≤ s.ops.length by omega)
 obtain ⟨_, _, h3⟩ := ok_at V (show i ≤ s.ops.length by omega)
 rw [e] at h1 h2
 unfold cutOps
 rw [okAll_append, openAfter_append]
 exact ⟨⟨h3, h1⟩, h2⟩
theorem fields_iff {o : Op} (hk : o.kind ≠ 3) : fieldsM o = true ↔ ¬ (o.kind = 1 ∧ (o.isolated = true ∨ o.knockout = true)) ∧ ¬ (o.kind = 2 ∧ (o.image ≠ 0 ∨ o.x ≠ 0 ∨ o.y ≠ 0)) ∧ (o.mask ≠ 0 ∨ o.maskX = 0 ∧ o.maskY = 0) := by
 rw [fieldsM, if_neg hk]
 by_cases h1 : o.kind = 1 ∧ (o.isolated = true ∨ o.knockout = true)
 ·rw [if_pos h1]; exact ⟨fun q => (by cases q), fun q => absurd h1 q.1⟩
 rw [if_neg h1]
 by_cases h2 : o.kind = 2 ∧ (o.image ≠ 0 ∨ o.x ≠ 0 ∨ o.y ≠ 0)
 ·rw [if_pos h2]; exact ⟨fun q => (by cases q), fun q => absurd h2 q.2.1⟩
 rw [if_neg h2, decide_eq_true_eq]
 exact ⟨fun q => ⟨h1, h2, q⟩, fun q => q.2.2⟩
theorem unw_err {b : Int} {n : Nat} {o k p : Op} {L : List Op} (ho : opErr b n o L = 0) (hk : opErr b n k (L ++ [o]) = 0) (h2 : o.kind = 2) (k3 : k.kind ≠ 3) (e1 : p.kind = k.kind) (e2 : p.image = k.image) (e3 : p.x = k.x) (e4 : p.y = k.y) (e5 : p.operator = o.operator) (e6 : p.mode = o.mode)
  (e7 : (p.mask = o.mask ∧ p.maskX = o.maskX ∧ p.maskY = o.maskY ∧ p.opacity = o.opacity) ∨ (p.mask = k.mask ∧ p.maskX = k.maskX ∧ p.maskY = k.maskY ∧ p.opacity = k.opacity)) (e8 : k.kind = 1 → p.isolated = k.isolated) (e9 : p.knockout = k.knockout) : opErr b n p L = 0 := by
 rw [opErr_zero] at ho hk ⊢
 obtain ⟨a1, a2, a3, a4⟩ := ho
 obtain ⟨b1, b2, b3, b4⟩ := hk
 obtain ⟨q1, q2, q3, q4, q5, q6, q7⟩ := a4 (by omega)
 obtain ⟨r1, r2, r3, r4, r5, r6, r7⟩ := b4 k3
 obtain ⟨f1, f2, f3⟩ := (fields_iff (by omega)).1 a2
 obtain ⟨g1, g2, g3⟩ := (fields_iff k3).1 b2
 simp only [withinM, List.all_cons, List.all_nil, Bool.and_true, Bool.and_eq_true, decide_eq_true_eq] at q2 r2
 have p3 : p.kind ≠ 3 := by rw [e1]; exact k3
 have hf : fieldsM p = true := by
  rw [fields_iff p3]
  refine And.intro ?_ (And.intro ?_ ?_)
  ·rintro ⟨u, v⟩
   rw [e1] at u
   rw [e8 u, e9] at v
   exact g1 ⟨u, v⟩
  ·rw [e1, e2, e3, e4]; exact g2
  ·rcases e7 with ⟨u1, u2, u3, _⟩ | ⟨u1, u2, u3, _⟩
   ·rw [u1, u2, u3]; exact f3
   ·rw [u1, u2, u3]; exact g3
 have p1 : 1 ≤ p.kind ∧ p.kind ≤ 3 := by rw [e1]; exact b1
 have p4 : isOp p.operator = true := by rw [e5]; exact q4
 have p5 : isOp p.mode = true := by rw [e6]; exact q5
 have p6 : p.operator ≠ 4 → ctxOk L = true := by rw [e5]; exact q6
 have p7 : p.kind = 2 → L.length < 64 := fun _ => q7 h2
 refine And.intro p1 (And.intro hf (And.intro (fun q => absurd q p3) fun _ => And.intro ?_ (And.intro ?_ (And.intro ?_ (And.intro p4 (And.intro p5 (And.intro p6 p7)))))))
 ·rw [e1, e2]
  rcases e7 with ⟨u1, _⟩ | ⟨u1, _⟩
  ·rw [u1]; omega
  ·rw [u1]; omega
 ·simp only [withinM, List.all_cons, List.all_nil, Bool.and_true, Bool.and_eq_true, decide_eq_true_eq]
  rw [e3, e4]
  rcases e7 with ⟨_, u2, u3, _⟩ | ⟨_, u2, u3, _⟩
  ·rw [u2, u3]; omega
  ·rw [u2, u3]; omega
 ·rcases e7 with ⟨_, _, _, u⟩ | ⟨_, _, _, u⟩
  ·rw [u]; exact q3
  ·rw [u]; exact r3
theorem unw_at (s : Script) (i : Nat) : (unwOp s i).kind = (opAt s.ops (i + 1)).kind ∧ (unwOp s i).image = (opAt s.ops (i + 1)).image ∧ (unwOp s i).x = (opAt s.ops (i + 1)).x ∧ (unwOp s i).y = (opAt s.ops (i + 1)).y ∧
  (unwOp s i).operator = (opAt s.ops i).operator ∧ (unwOp s i).mode = (opAt s.ops i).mode ∧ (((unwOp s i).mask = (opAt s.ops i).mask ∧ (unwOp s i).maskX = (opAt s.ops i).maskX ∧ (unwOp s i).maskY = (opAt s.ops i).maskY ∧ (unwOp s i).opacity = (opAt s.ops i).opacity) ∨
   ((unwOp s i).mask = (opAt s.ops (i + 1)).mask ∧ (unwOp s i).maskX = (opAt s.ops (i + 1)).maskX ∧ (unwOp s i).maskY = (opAt s.ops (i + 1)).maskY ∧ (unwOp s i).opacity = (opAt s.ops (i + 1)).opacity)) ∧
  ((opAt s.ops (i + 1)).kind = 1 → (unwOp s i).isolated = (opAt s.ops (i + 1)).isolated) ∧ ((opAt s.ops (i + 1)).kind = 2 → (unwOp s i).isolated = true) ∧ (unwOp s i).knockout = (opAt s.ops (i + 1)).knockout := by
 unfold unwOp
 generalize opAt s.ops i = o
 generalize opAt s.ops (i + 1) = k
 have h1 : ∀ u : Op, (unw1 s o k = u) → (unw2 o u).kind = u.kind := fun _ _ => rfl
 unfold unw3 unw2 unw1
 by_cases hu : unscM s k = true
 ·rw [if_pos hu]
  by_cases hk : k.kind = 2
  ·rw [if_pos hk]; exact ⟨rfl, rfl, rfl, rfl, rfl, rfl, .inl ⟨rfl, rfl, rfl, rfl⟩, fun q => by omega, fun _ => rfl, rfl⟩
  ·rw [if_neg hk]; exact ⟨rfl, rfl, rfl, rfl, rfl, rfl, .inl ⟨rfl, rfl, rfl, rfl⟩, fun _ => rfl, fun q => absurd q hk, rfl⟩
 ·rw [if_neg hu]
  by_cases hk : k.kind = 2
  ·rw [if_pos hk]; exact ⟨rfl, rfl, rfl, rfl, rfl, rfl, .inr ⟨rfl, rfl, rfl, rfl⟩, fun q => by omega, fun _ => rfl, rfl⟩
  ·rw [if_neg hk]; exact ⟨rfl, rfl, rfl, rfl, rfl, rfl, .inr ⟨rfl, rfl, rfl, rfl⟩, fun _ => rfl, fun q => absurd q hk, rfl⟩
theorem unw_ok {s : Script} {m x y : Int} (C : Pt s m x y) {i : Nat} (hi : i < s.ops.length) (h1 : (opAt s.ops i).kind = 2) (h3 : kidsM s.ops i = 1) : okAll s.bits s.images.length (unwOps s i) [] ∧ openAfter (unwOps s i) [] = [] := by
 have V := C.V
 have W := V.wf
 obtain ⟨k1, k2, k3⟩ := single_end C hi h1 h3
 have hel := ends_lt W hi
 have hi1 : i + 1 < s.ops.length := by omega
 have e3 : unwOps s i = s.ops.take i ++ ((unwOp s i :: seg s.ops (i + 1 + 1) (endsM s.ops (i + 1) + 1)) ++ s.ops.drop (endsM s.ops i + 1)) := by
  rw [k2]
  unfold unwOps seg
  rw [List.append_assoc, List.append_assoc]; rfl
 have e1 : s.ops.drop i = seg s.ops i (endsM s.ops i + 1) ++ s.ops.drop (endsM s.ops i + 1) := by
  conv => lhs; rw [← List.take_append_drop (endsM s.ops i + 1) s.ops]
  rw [List.drop_append_of_le_length (by rw [List.length_take]; omega)]; rfl
 have e : openAfter (s.ops.take (endsM s.ops i + 1)) [] = openAfter (s.ops.take i) [] := by
  rw [open_take _ (by omega), open_take _ (by omega), stk_ends W hi (by omega)]
 obtain ⟨c1, c2, _⟩ := ok_at V (show endsM s.ops i + 1 ≤ s.ops.length by omega)
 obtain ⟨d1, _, d3⟩ := ok_at V (show i ≤ s.ops.length by omega)
 rw [e] at c1 c2
 obtain ⟨L, hL⟩ : ∃ L, openAfter (s.ops.take i) [] = L := ⟨_, rfl⟩
 rw [hL] at c1 c2 d1
 rw [e1, okAll_append, seg_grp W hi h1] at d1
 have d0 := d1.1
 have n1 : nextOpen L (opAt s.ops i) = L ++ [opAt s.ops i] := by rw [nextOpen, if_pos h1]
 have d4 := d0.2
 rw [n1, okAll_append] at d4
 have d5 := d4.1
 obtain ⟨u1, u2, u3, u4, u5, u6, u7, u8, u9, u10⟩ := unw_at s i
 suffices hh : okAll s.bits s.images.length (unwOp s i :: seg s.ops (i + 1 + 1) (endsM s.ops (i + 1) + 1)) L ∧ openAfter (unwOp s i :: seg s.ops (i + 1 + 1) (endsM s.ops (i + 1) + 1)) L = L by
  rw [e3, okAll_append, okAll_append, openAfter_append, openAfter_append]
  rw [hL, hh.2]
  exact ⟨⟨d3, hh.1, c1⟩, c2⟩
 rw [← k2] at d5
 rcases W.kinds (i + 1) hi1 with q | q | q
 ·have hE : endsM s.ops (i + 1) = i + 1 := ends_draw W hi1 q
  rw [hE, seg_one hi1] at d5
  rw [hE, seg_nil]
  have hp := unw_err d0.1 d5.1 h1 k1 u1 u2 u3 u4 u5 u6 u7 u8 u10
  have n2 : nextOpen L (unwOp s i) = L := by rw [nextOpen, if_neg (by omega), if_neg (by omega)]
  exact ⟨⟨hp, trivial⟩, n2⟩
 ·have hp1 := ends_push W hi1 q
  have hel1 := ends_lt W hi1
  rw [seg_grp W hi1 q] at d5
  have hp := unw_err d0.1 d5.1 h1 k1 u1 u2 u3 u4 u5 u6 u7 u8 u10
  have n2 : nextOpen L (unwOp s i) = L ++ [unwOp s i] := by rw [nextOpen, if_pos (by omega)]
  have n3 : nextOpen (L ++ [opAt s.ops i]) (opAt s.ops (i + 1)) = L ++ [opAt s.ops i] ++ [opAt s.ops (i + 1)] := by rw [nextOpen, if_pos q]
  have d6 := d5.2
  rw [n3, okAll_append] at d6
  have hin := elm_in W hi1 q
  rw [elm_open hin] at d6
  have hpk := (grp_end W hi1 q).1
  have n4 : nextOpen (L ++ [unwOp s i]) (opAt s.ops (endsM s.ops (i + 1))) = L := by rw [nextOpen, if_neg (by omega), if_pos hpk, List.dropLast_concat]
  rw [seg_snoc (show i + 1 + 1 ≤ endsM s.ops (i + 1) by omega) (by omega)]
  refine ⟨⟨hp, ?_⟩, ?_⟩
  ·rw [n2, okAll_append, elm_open hin]
   refine ⟨elm_ok hin d6.1 (fun c => ?_) (by simp), err_pop d6.2.1 hpk (by simp), trivial⟩
   rw [ctx_end] at c ⊢
   rw [u9 q, u10]
   rw [Bool.and_eq_true] at c ⊢
   exact ⟨rfl, c.2⟩
  ·show openAfter _ (nextOpen L (unwOp s i)) = L
   rw [n2, openAfter_append, elm_open hin]
   exact n4
 ·exact absurd q k1
theorem Of.some {c : Scene} {s : Script} (h : Of c s) : ∃ x y, Pt s (gMax c.bits) x y := by
 obtain ⟨x0, x1, y0, y1, hw, hh⟩ := gCanvas_small c
 exact ⟨(gCanvas c).x0, (gCanvas c).y0, h.pt (by unfold inR; omega)⟩
theorem Of.len {c : Scene} {s : Script} (h : Of c s) : s.ops.length ≤ 4096 := h.V.cnt
theorem mem_opAt {l : List Op} {i : Nat} (h : i < l.length) : opAt l i ∈ l := by
 rw [opAt, List.getD_eq_getElem?_getD, List.getElem?_eq_getElem h]; exact List.getElem_mem _
theorem Of.next {c : Scene} {s : Script} (h : Of c s) {r : Rx} (ha : apM s r.1 r.2 = true) : Of c (nextS s r) := by
 obtain ⟨g1, g2, g3, g4, g5⟩ := apM_lt ha
 have hlen := rw_len h.V.wf ha
 have hc := h.len
 have hfr : frameM (nextS s r) = 0 := frame_of h.b h.cv h.w h.h h.o (Nat.le_trans h.n2 (by decide)) (by show (rwM s r.1.toNat r.2.toNat).length ≤ 4096; omega)
 have mk : VOps (nextS s r) → (∀ o ∈ rwM s r.1.toNat r.2.toNat, 0 ≤ o.opacity) → Of c (nextS s r) := fun V o => ⟨h.b, h.cv, h.w, h.h, h.o, h.n1, h.n2, fun i a b => h.im i a b, V, o⟩
 have hop := h.op
 have hnn : ∀ i, i < s.ops.length → 0 ≤ (opAt s.ops i).opacity := fun i hi => hop _ (mem_opAt hi)
 by_cases h4 : r.1 ≤ 4
 ·have e : rwM s r.1.toNat r.2.toNat = cutOps s r.2.toNat := by rw [rwM, if_pos (by omega)]
  refine mk (vops_of ?_) ?_
  ·have := cut_ok h.V g3 g4
   rw [← e] at this
   rw [opsM_ok (t := nextS s r) hfr this.1 this.2]
  ·rw [e]
   intro o ho
   rcases List.mem_append.1 ho with ho | ho
   ·exact hop o (List.mem_of_mem_take ho)
   ·exact hop o (List.mem_of_mem_drop ho)
 by_cases h9 : r.1 = 9
 ·have e : rwM s r.1.toNat r.2.toNat = unwOps s r.2.toNat := by rw [rwM, if_neg (by omega), if_pos (by omega)]
  have h6 : unwM s r.2.toNat = true := by rw [h9] at g5; exact g5
  simp only [unwM, Bool.and_eq_true, Bool.or_eq_true, decide_eq_true_eq] at h6
  obtain ⟨⟨⟨b1, _⟩, b3⟩, _⟩ := h6
  obtain ⟨x, y, C⟩ := h.some
  obtain ⟨k1, k2, k3⟩ := single_end C g3 b1 b3
  have hel := ends_lt h.V.wf g3
  refine mk (vops_of ?_) ?_
  ·have := unw_ok C g3 b1 b3
   rw [← e] at this
   rw [opsM_ok (t := nextS s r) hfr this.1 this.2]
  ·rw [e]
   intro o ho
   unfold unwOps at ho
   rcases List.mem_append.1 ho with ho | ho
   ·rcases List.mem_append.1 ho with ho | ho
    ·rcases List.mem_append.1 ho with ho | ho
     ·exact hop o (List.mem_of_mem_take ho)
     ·rw [List.mem_singleton.1 ho]
      obtain ⟨_, _, _, _, _, _, u7, _⟩ := unw_at s r.2.toNat
      rcases u7 with ⟨_, _, _, u⟩ | ⟨_, _, _, u⟩
      ·rw [u]; exact hnn _ g3
      ·rw [u]; exact hnn _ (by omega)
    ·exact hop o (List.mem_of_mem_take (List.mem_of_mem_drop ho))
   ·exact hop o (List.mem_of_mem_drop ho)
 ·have e : rwM s r.1.toNat r.2.toNat = s.ops.set r.2.toNat (chgOp r.1.toNat (opAt s.ops r.2.toNat)) := by rw [rwM, if_neg (by omega), if_neg (by omega)]
  refine mk (chg_vops (chg_next ha (by omega) (by omega)) h.V g4) ?_
  rw [e]
  intro o ho
  rcases List.mem_or_eq_of_mem_set ho with ho | ho
  ·exact hop o ho
  ·rw [ho]
   have : (chgOp r.1.toNat (opAt s.ops r.2.toNat)).opacity = (opAt s.ops r.2.toNat).opacity := by
    unfold chgOp
    repeat' split
    all_goals rfl
   rw [this]; exact hnn _ g3
theorem Of.run {c : Scene} : ∀ (f : Nat) {s : Script}, Of c s → Of c (withOps s (runGo f s).1) ∧ ∀ x y, inR (gCanvas c) x y → valueM (withOps s (runGo f s).1) x y = valueM s x y
 | 0, s, h => ⟨h, fun _ _ _ => rfl⟩
 | f + 1, s, h => by
  cases hr : (redM s).head? with
  | none => rw [run_none hr]; exact ⟨h, fun _ _ _ => rfl⟩
  | some r =>
   rw [run_some hr]
   have hm := (mem_red.1 (red_head hr).1)
   have h2 := h.next hm.2
   obtain ⟨k1, k2⟩ := Of.run f h2
   refine ⟨k1, fun x y hx => ?_⟩
   have h3 := rule_val (h.pt hx) hm.2
   exact (k2 x y hx).trans h3
end Go.Proofs.YtlblgkelhibdoaaGreatDoor
