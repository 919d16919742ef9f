/- Part of the proof: DB. -/
import Derived.Test.YtlblgkelhibdoaaGreatDoorM25
import Derived.Test.YtlblgkelhibdoaaGreatDoorM29
set_option linter.unusedSimpArgs false
set_option linter.unusedVariables false
set_option maxHeartbeats 2000000
set_option maxRecDepth 16000
namespace Go.Proofs.YtlblgkelhibdoaaGreatDoor
open Go Go.SL
open Go.RowKit (wrap64)
attribute [local go_sem] Int.toNat_natCast
def putR (s : Script) (q : Rect) (x y : Int) : Rect := isect (moveR q x y) s.canvas
theorem put_inl (bx : Nat → Option Bx) (nx k m : Nat) (g : Nat → Nat → PV) (s : Script) (q : Rect) (x y : Int) (h3 : bx 3 = some (.fix [.own k m])) (hk : bx k = some (.arr 32 4 m g)) (h1 : bx 1 = some (.fix ((rectE q).map CV.p)))
  (h0 : bx 0 = some (.fix ((scriptE s).map CV.p))) (hkn : k < nx) (hk4 : 4 ≤ k) (hm : m ≤ 100000) (hw : ∀ i, nx ≤ i → bx i = none) :
  ∃ F : Nat → Nat → PV, (∀ j, j < 4 → F 0 j = (rectE (putR s q x y)).getD j .any) ∧ InlP Sg bx nx 39 [I x, I y, .c (.ptr 3 0), .c (.ptr 1 0), .c (.ptr 0 0)] (.tup [])
   (bxIns 3 (.fix [.own (nx + 1) (m + 1)]) (bxIns (nx + 1) (.arr 32 4 (m + 1) (appF m g F)) (bxDel k (bxIns nx (.arr 32 4 1 F) bx)))) (nx + 2) := by
 have n3 : (3 = nx) = False := by simp; omega
 have n1 : (1 = nx) = False := by simp; omega
 have n0 : (0 = nx) = False := by simp; omega
 have nk : (k = nx) = False := by simp; omega
 have m3 : (3 = nx + 1) = False := by simp; omega
 have m3' : (3 = k) = False := by simp; omega
 refine ⟨?F, ?hF, ?hI⟩
 case hI =>
  refine inl_of Tryz.func39 rfl (rs := []) rfl rfl mixed (by decide +kernel) (Nat.le_of_ble_eq_true rfl) ?_ (fun kf => ?_)
  ·intro v hv
   simp only [List.mem_cons, List.not_mem_nil, or_false] at hv
   rcases hv with rfl | rfl | rfl | rfl | rfl
   ·trivial
   ·trivial
   ·show 3 < nx; omega
   ·show 1 < nx; omega
   ·show 0 < nx; omega
  refine cw_lastDK (id := 0) [] (by decide +kernel) (by decide +kernel) ⟨fun i hi => hw i hi, Nat.zero_le _⟩ (fun K hK => ?_)
  simp (maxSteps := 1000000) (disch := omega) only [go_sem, h0, h1, h3, hk]
  refine call_a (move_spec q x y) ?_
  simp (maxSteps := 1000000) (disch := omega) only [go_sem, h0, h1, h3, hk]
  refine call_a (isect_spec (moveR q x y) s.canvas) ?_
  simp (maxSteps := 1000000) (disch := omega) only [go_sem, h0, h1, h3, hk, n3, n1, n0, nk, m3, m3']
  refine ⟨by decide, ⟨by omega, by omega⟩, hK _ trivial ?_⟩
  clear hK
  simp (maxSteps := 1000000) (disch := omega) only [go_sem]
  simp only [bxf_set, bxf_setBox, bxf_newBox, bxf_delBox, nx_set, nx_newBox, nx_setBox, nx_delBox, bx_stI, nx_stI]
  rfl
 intro j hj
 have hivl : j = 0 ∨ j = 1 ∨ j = 2 ∨ j = 3 := by omega
 rcases hivl with rfl | rfl | rfl | rfl <;> rfl
theorem call_put {st : St} {K : SV → St → Prop} (k m : Nat) (g : Nat → Nat → PV) (s : Script) (q : Rect) (x y : Int) (h3 : st.bx 3 = some (.fix [.own k m])) (hk : st.bx k = some (.arr 32 4 m g)) (h1 : st.bx 1 = some (.fix ((rectE q).map CV.p)))
  (h0 : st.bx 0 = some (.fix ((scriptE s).map CV.p))) (hkn : k < st.nx) (hk4 : 4 ≤ k) (hm : m ≤ 100000) (hw : WfN 0 st)
  (hK : ∀ F : Nat → Nat → PV, (∀ j, j < 4 → F 0 j = (rectE (putR s q x y)).getD j .any) →
   K (.tup []) (st.turn (bxIns 3 (.fix [.own (st.nx + 1) (m + 1)]) (bxIns (st.nx + 1) (.arr 32 4 (m + 1) (appF m g F)) (bxDel k (bxIns st.nx (.arr 32 4 1 F) st.bx)))) (st.nx + 2))) :
  CallS Sg st 39 [I x, I y, .c (.ptr 3 0), .c (.ptr 1 0), .c (.ptr 0 0)] (Sl.of K) := by
 obtain ⟨F, hF, hI⟩ := put_inl st.bx st.nx k m g s q x y h3 hk h1 h0 hkn hk4 hm hw.1
 refine call_inl hI rfl (fun i hi => ?_) (by omega) (hK F hF)
 simp only [bxIns, bxDel]
 rw [if_neg (by omega), if_neg (by omega), if_neg (by omega), if_neg (by omega)]
 exact hw.1 i (by omega)
attribute [local go_sem] leC_clo
def putsM (s : Script) (i : Int) (q : Rect) (o : Op) : List Rect := (if o.kind = 1 ∧ o.image = i then [putR s q o.x o.y] else []) ++ (if o.mask = i + 1 then [putR s q o.maskX o.maskY] else [])
def dimageL (s : Script) (i : Int) (q : Rect) : Nat → List Rect
 | 0 => []
 | k + 1 => dimageL s i q k ++ putsM s i q (opAt s.ops k)
theorem dimageL_len (s : Script) (i : Int) (q : Rect) : ∀ k, (dimageL s i q k).length ≤ 2 * k
 | 0 => Nat.le_refl _
 | k + 1 => by
  have := dimageL_len s i q k
  simp only [dimageL, putsM, List.length_append]
  split <;> split <;> simp <;> omega
def dimageM (s : Script) (i : Int) (r : Rect) : Rect × Int :=
 if (opsM s).1 ≠ 0 then (zeroR, (opsM s).1) else if i < 0 ∨ s.images.length ≤ i then (zeroR, 11)
 else (hullM (dimageL s i (isect r ⟨0, 0, (s.images.getD i.toNat default).w, (s.images.getD i.toNat default).h⟩) s.ops.length), 0)
theorem app_fn {l : List Rect} {R : Rect} {f F : Nat → Nat → PV} (hf : ∀ a, a < l.length → ∀ j, j < 4 → f a j = fnOf rectE l a j) (hF : ∀ j, j < 4 → F 0 j = (rectE R).getD j .any) :
  ∀ a, a < (l ++ [R]).length → ∀ j, j < 4 → appF l.length f F a j = fnOf rectE (l ++ [R]) a j := fun a ha j hj => by
 unfold appF
 rw [List.length_append] at ha
 by_cases h : a < l.length
 ·rw [if_pos h, hf a h j hj]; unfold fnOf; rw [show (l ++ [R]).getD a default = l.getD a default from by rw [List.getD_eq_getElem?_getD, List.getD_eq_getElem?_getD, List.getElem?_append_left h]]
 ·have ea : a = l.length := by simp at ha; omega
  rw [if_neg h, ea, Nat.sub_self, hF j hj]; unfold fnOf; rw [show (l ++ [R]).getD l.length default = R from by simp [List.getD_eq_getElem?_getD]]
theorem dimage_spec (s : Script) (hs : ScriptLen s) (i : Int) (r : Rect) (hi : i64 i) : Pure Sg 11 [ag (scriptE s), I i, ag (rectE r)] (fun x => x = .tup [ag (rectE (dimageM s i r).1), I (dimageM s i r).2]) := by
 have h1 := vops_spec s hs
 obtain ⟨i1, i2⟩ := hi
 obtain ⟨s1, s2, s3⟩ := id hs
 by_cases e1 : (opsM s).1 = 0
 ·have V := vops_of e1
  have hn := V.cnt
  obtain ⟨q, hq⟩ : ∃ q, q = isect r ⟨0, 0, (s.images.getD i.toNat default).w, (s.images.getD i.toNat default).h⟩ := ⟨_, rfl⟩
  have hsq := isect_spec r ⟨0, 0, (s.images.getD i.toNat default).w, (s.images.getD i.toNat default).h⟩
  rw [← hq] at hsq
  refine fn_a Tryz.func11 [.cell 6 32, .tmp 7] ?_
  repeat' (first | refine un_a ?_ | ((first | refine st_a (fun K hK => ?_) | refine call_c (h1) ?_ | refine call_c (hsq) ?_); and_intros; (all_goals first | (refine hK _ ?_; clear hK K) | exact auto_cl | skip)) | (refine if_a (fun hb => ?_) (fun hb => ?_); all_goals try exact bad_a) | (refine ret_a ?_; (try clear hB KB); (try clear hK K)))
  ·rw [dimageM, if_neg (by simp [e1]), if_pos (by omega)]; rfl
  refine cw_loop (X := Nat) (fun k => mkSt [(1, .b (I i)), (3, .b (.c (.ptr 0 0))), (5, .b (.c (.ptr 1 0))), (6, .b (.c (.ptr 2 0))), (10, .b (.c (.ptr 3 0))), (11, .b (.c (.clo 39 [(3, 0), (1, 0), (0, 0)]))), (50, .b (.c (.p (opL s.ops)))), (51, .b (I s.ops.length)), (52, .b (I k))]
   [(0, .fix ((scriptE s).map CV.p)), (1, .fix ((rectE q).map CV.p)), (2, .fix ((rectE zeroR).map CV.p)), (3, .fix [.own 4 (dimageL s i q k).length]), (4, .arr 32 4 (dimageL s i q k).length (fnOf rectE (dimageL s i q k)))] 5)
   (fun k => k ≤ s.ops.length) (fun k => s.ops.length - k) 0 ?_ ?_ ?_
  ·exact Nat.zero_le _
  ·refine le_a [(1, some 1), (2, some 2), (3, some 3), (4, none)] ?_ ?_
   and_intros
   all_goals first | exact le_cl | skip
  ·intro k hk
   have hlk := dimageL_len s i q k
   rcases Nat.lt_or_ge k s.ops.length with hkl | hge
   ·have hil : i < s.images.length := by omega
    by_cases c1 : (opAt s.ops k).kind = 1 ∧ (opAt s.ops k).image = i
    ·have t1 : ((s.ops.getD k default).kind == 1 && (s.ops.getD k default).image == i) = true := by simp only [Bool.and_eq_true, beq_iff_eq]; exact c1
     by_cases c2 : (opAt s.ops k).mask = i + 1
     ·have t2 : ((s.ops.getD k default).mask == i + 1) = true := by rw [beq_iff_eq]; exact c2
      repeat' (first | refine dec_a (And.intro t1 t2) ?_ | refine un_a ?_ | (refine st_a (fun K hK => ?_); and_intros; (all_goals first | (refine hK _ ?_; clear hK K) | exact auto_cl | skip)) | (refine if_a (fun hb => ?_) (fun hb => ?_); all_goals try exact bad_a))
      refine call_put 4 (dimageL s i q k).length (fnOf rectE (dimageL s i q k)) s q (opAt s.ops k).x (opAt s.ops k).y ?_ ?_ ?_ ?_ ?_ (by omega) (by omega) ?_ (fun Fx hFx => ?_)
      ·simp (maxSteps := 1000000) (disch := omega) only [go_sem]
      ·simp (maxSteps := 1000000) (disch := omega) only [go_sem]
      ·simp (maxSteps := 1000000) (disch := omega) only [go_sem]
      ·simp (maxSteps := 1000000) (disch := omega) only [go_sem]
      ·simp (maxSteps := 1000000) (disch := omega) only [go_sem]
      ·(first | (refine And.intro (fun iw hiw => ?_) ?_; (focus ((try simp (maxSteps := 1000000) (disch := omega) only [go_sem] at hiw ⊢); (repeat (refine Eq.trans (if_neg ?_) ?_; (focus omega))); exact hw iw (by omega))); (focus (first | exact Nat.zero_le _ | (simp (maxSteps := 1000000) (disch := omega) only [go_sem]; done) | (simp (maxSteps := 1000000) (disch := omega) only [go_sem]; omega)))) | exact wf_a)
      simp (maxSteps := 1000000) (disch := omega) only [go_sem]
      refine hK _ ?_
      clear hK
      repeat' (first | refine dec_a t2 ?_ | (refine st_a (fun K hK => ?_); and_intros; (all_goals first | (refine hK _ ?_; clear hK K) | exact auto_cl | skip)))
      refine call_put 7 ((dimageL s i q k).length + 1) (appF (dimageL s i q k).length (fnOf rectE (dimageL s i q k)) Fx) s q (opAt s.ops k).maskX (opAt s.ops k).maskY ?_ ?_ ?_ ?_ ?_ (by omega) (by omega) ?_ (fun FmaskX hFmaskX => ?_)
      ·simp (maxSteps := 1000000) (disch := omega) only [go_sem]
      ·simp (maxSteps := 1000000) (disch := omega) only [go_sem]
      ·simp (maxSteps := 1000000) (disch := omega) only [go_sem]
      ·simp (maxSteps := 1000000) (disch := omega) only [go_sem]
      ·simp (maxSteps := 1000000) (disch := omega) only [go_sem]
      ·(first | (refine And.intro (fun iw hiw => ?_) ?_; (focus ((try simp (maxSteps := 1000000) (disch := omega) only [go_sem] at hiw ⊢); (repeat (refine Eq.trans (if_neg ?_) ?_; (focus omega))); exact hw iw (by omega))); (focus (first | exact Nat.zero_le _ | (simp (maxSteps := 1000000) (disch := omega) only [go_sem]; done) | (simp (maxSteps := 1000000) (disch := omega) only [go_sem]; omega)))) | exact wf_a)
      simp (maxSteps := 1000000) (disch := omega) only [go_sem]
      refine hK _ ?_
      clear hK
      repeat' (first | refine un_a ?_ | (refine st_a (fun K hK => ?_); and_intros; (all_goals first | (refine hK _ ?_; clear hK K) | exact auto_cl | skip)))
      rw [thenQ_normal]
      refine wk_loop (k + 1) ?_ (by omega) (by omega)
      rw [show dimageL s i q (k + 1) = dimageL s i q k ++ putsM s i q (opAt s.ops k) from rfl, show putsM s i q (opAt s.ops k) = [putR s q (opAt s.ops k).x (opAt s.ops k).y] ++ [putR s q (opAt s.ops k).maskX (opAt s.ops k).maskY] from by rw [putsM, if_pos c1, if_pos c2]]
      refine le_a [(1, some 1), (2, some 2), (3, some 3), (4, some 9)] ?_ ?_
      and_intros
      all_goals first | exact le_cl | skip
      ·simp
      ·simp
      refine .inr fun a ha j hj => ?_
      have hA := app_fn (l := dimageL s i q k) (fun _ _ _ _ => rfl) hFx
      have hB := app_fn (l := dimageL s i q k ++ [putR s q (opAt s.ops k).x (opAt s.ops k).y]) (f := appF (dimageL s i q k).length (fnOf rectE (dimageL s i q k)) Fx) hA hFmaskX a (by simpa using ha) j hj
      rw [List.length_append, List.length_singleton, List.append_assoc] at hB
      rw [show [putR s q (opAt s.ops k).x (opAt s.ops k).y] ++ [putR s q (opAt s.ops k).maskX (opAt s.ops k).maskY] = [putR s q (opAt s.ops k).x (opAt s.ops k).y, putR s q (opAt s.ops k).maskX (opAt s.ops k).maskY] from rfl] at hB
      rw [hB]
      exact fun _ _ _ h => h
     ·have t2 : ((s.ops.getD k default).mask == i + 1) = false := by rw [Bool.eq_false_iff]; intro h; rw [beq_iff_eq] at h; exact c2 h
      repeat' (first | refine dec_a (And.intro t1 t2) ?_ | refine un_a ?_ | (refine st_a (fun K hK => ?_); and_intros; (all_goals first | (refine hK _ ?_; clear hK K) | exact auto_cl | skip)) | (refine if_a (fun hb => ?_) (fun hb => ?_); all_goals try exact bad_a))
      refine call_put 4 (dimageL s i q k).length (fnOf rectE (dimageL s i q k)) s q (opAt s.ops k).x (opAt s.ops k).y ?_ ?_ ?_ ?_ ?_ (by omega) (by omega) ?_ (fun Fx hFx => ?_)
      ·simp (maxSteps := 1000000) (disch := omega) only [go_sem]
      ·simp (maxSteps := 1000000) (disch := omega) only [go_sem]
      ·simp (maxSteps := 1000000) (disch := omega) only [go_sem]
      ·simp (maxSteps := 1000000) (disch := omega) only [go_sem]
      ·simp (maxSteps := 1000000) (disch := omega) only [go_sem]
      ·(first | (refine And.intro (fun iw hiw => ?_) ?_; (focus ((try simp (maxSteps := 1000000) (disch := omega) only [go_sem] at hiw ⊢); (repeat (refine Eq.trans (if_neg ?_) ?_; (focus omega))); exact hw iw (by omega))); (focus (first | exact Nat.zero_le _ | (simp (maxSteps := 1000000) (disch := omega) only [go_sem]; done) | (simp (maxSteps := 1000000) (disch := omega) only [go_sem]; omega)))) | exact wf_a)
      simp (maxSteps := 1000000) (disch := omega) only [go_sem]
      refine hK _ ?_
      clear hK
      repeat' (first | refine dec_a t2 ?_ | refine un_a ?_ | (refine st_a (fun K hK => ?_); and_intros; (all_goals first | (refine hK _ ?_; clear hK K) | exact auto_cl | skip)))
      rw [thenQ_normal]
      refine wk_loop (k + 1) ?_ (by omega) (by omega)
      rw [show dimageL s i q (k + 1) = dimageL s i q k ++ putsM s i q (opAt s.ops k) from rfl, show putsM s i q (opAt s.ops k) = [putR s q (opAt s.ops k).x (opAt s.ops k).y] from by rw [putsM, if_pos c1, if_neg c2]; rfl]
      refine le_a [(1, some 1), (2, some 2), (3, some 3), (4, some 7)] ?_ ?_
      and_intros
      all_goals first | exact le_cl | skip
      ·simp
      ·simp
      refine .inr fun a ha j hj => ?_
      rw [app_fn (l := dimageL s i q k) (fun _ _ _ _ => rfl) hFx a (by simpa using ha) j hj]
      exact fun _ _ _ h => h
    ·have t1 : ((s.ops.getD k default).kind == 1 && (s.ops.getD k default).image == i) = false := by rw [Bool.eq_false_iff]; intro h; simp only [Bool.and_eq_true, beq_iff_eq] at h; exact c1 h
     by_cases c2 : (opAt s.ops k).mask = i + 1
     ·have t2 : ((s.ops.getD k default).mask == i + 1) = true := by rw [beq_iff_eq]; exact c2
      repeat' (first | refine dec_a (And.intro t1 t2) ?_ | refine un_a ?_ | (refine st_a (fun K hK => ?_); and_intros; (all_goals first | (refine hK _ ?_; clear hK K) | exact auto_cl | skip)) | (refine if_a (fun hb => ?_) (fun hb => ?_); all_goals try exact bad_a))
      refine call_put 4 (dimageL s i q k).length (fnOf rectE (dimageL s i q k)) s q (opAt s.ops k).maskX (opAt s.ops k).maskY ?_ ?_ ?_ ?_ ?_ (by omega) (by omega) ?_ (fun FmaskX hFmaskX => ?_)
      ·simp (maxSteps := 1000000) (disch := omega) only [go_sem]
      ·simp (maxSteps := 1000000) (disch := omega) only [go_sem]
      ·simp (maxSteps := 1000000) (disch := omega) only [go_sem]
      ·simp (maxSteps := 1000000) (disch := omega) only [go_sem]
      ·simp (maxSteps := 1000000) (disch := omega) only [go_sem]
      ·(first | (refine And.intro (fun iw hiw => ?_) ?_; (focus ((try simp (maxSteps := 1000000) (disch := omega) only [go_sem] at hiw ⊢); (repeat (refine Eq.trans (if_neg ?_) ?_; (focus omega))); exact hw iw (by omega))); (focus (first | exact Nat.zero_le _ | (simp (maxSteps := 1000000) (disch := omega) only [go_sem]; done) | (simp (maxSteps := 1000000) (disch := omega) only [go_sem]; omega)))) | exact wf_a)
      simp (maxSteps := 1000000) (disch := omega) only [go_sem]
      refine hK _ ?_
      clear hK
      repeat' (first | refine un_a ?_ | (refine st_a (fun K hK => ?_); and_intros; (all_goals first | (refine hK _ ?_; clear hK K) | exact auto_cl | skip)))
      rw [thenQ_normal]
      refine wk_loop (k + 1) ?_ (by omega) (by omega)
      rw [show dimageL s i q (k + 1) = dimageL s i q k ++ putsM s i q (opAt s.ops k) from rfl, show putsM s i q (opAt s.ops k) = [putR s q (opAt s.ops k).maskX (opAt s.ops k).maskY] from by rw [putsM, if_neg c1, if_pos c2]; rfl]
      refine le_a [(1, some 1), (2, some 2), (3, some 3), (4, some 7)] ?_ ?_
      and_intros
      all_goals first | exact le_cl | skip
      ·simp
      ·simp
      refine .inr fun a ha j hj => ?_
      rw [app_fn (l := dimageL s i q k) (fun _ _ _ _ => rfl) hFmaskX a (by simpa using ha) j hj]
      exact fun _ _ _ h => h
     ·have t2 : ((s.ops.getD k default).mask == i + 1) = false := by rw [Bool.eq_false_iff]; intro h; rw [beq_iff_eq] at h; exact c2 h
      repeat' (first | refine dec_a (And.intro t1 t2) ?_ | refine un_a ?_ | (refine st_a (fun K hK => ?_); and_intros; (all_goals first | (refine hK _ ?_; clear hK K) | exact auto_cl | skip)) | (refine if_a (fun hb => ?_) (fun hb => ?_); all_goals try exact bad_a))
      rw [thenQ_normal]
      refine wk_loop (k + 1) ?_ (by omega) (by omega)
      rw [show dimageL s i q (k + 1) = dimageL s i q k ++ putsM s i q (opAt s.ops k) from rfl, show putsM s i q (opAt s.ops k) = [] from by rw [putsM, if_neg c1, if_neg c2]; rfl, List.append_nil]
      refine le_a [(1, some 1), (2, some 2), (3, some 3), (4, some 4)] ?_ ?_
      and_intros
      all_goals first | exact le_cl | skip
   ·have hk2 : k = s.ops.length := by omega
    subst hk2
    repeat' (first | refine un_a ?_ | (refine st_a (fun K hK => ?_); and_intros; (all_goals first | (refine hK _ ?_; clear hK K) | exact auto_cl | skip)) | (refine if_a (fun hb => ?_) (fun hb => ?_); all_goals try exact bad_a))
    refine call_lends ?_ ?_ (by simp (maxSteps := 1000000) (disch := omega) only [go_sem]) ?_ (hull_spec (dimageL s i q s.ops.length) (by omega))
    try simp (maxSteps := 1000000) (disch := omega) only [go_sem]
    try (refine hK _ ?_; clear hK K)
    ·repeat' (refine ret_a ?_; (try clear hB KB); (try clear hK K))
     rw [dimageM, if_neg (by simp [e1]), if_neg (by omega), ← hq]; rfl
    ·simp (maxSteps := 1000000) (disch := omega) only [go_sem, argsLe_cons, argsLe_nil]
     exact bvle_refl
    ·exact rect_flat _
 ·refine fn_a Tryz.func11 [.cell 6 32, .tmp 7] ?_
  repeat' (first | refine un_a ?_ | ((first | refine st_a (fun K hK => ?_) | refine call_c (h1) ?_); and_intros; (all_goals first | (refine hK _ ?_; clear hK K) | exact auto_cl | skip)) | (refine if_a (fun hb => ?_) (fun hb => ?_); all_goals try exact bad_a) | (refine ret_a ?_; (try clear hB KB); (try clear hK K)))
  rw [dimageM, if_pos e1]; rfl
end Go.Proofs.YtlblgkelhibdoaaGreatDoor
