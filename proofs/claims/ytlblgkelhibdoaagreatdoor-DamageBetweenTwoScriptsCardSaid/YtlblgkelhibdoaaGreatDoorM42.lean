/- Part of the proof: BrT, BrU, VD. -/
import Derived.Test.YtlblgkelhibdoaaGreatDoorM41
set_option linter.unusedSimpArgs false
set_option linter.unusedVariables false
namespace Go.SL
open Go Go.ChangeShapes Go.WideShapes Go.ChangeAt Go.RowKit
section
variable {P : Program} {H : Type} {enc : TypeId × Value → H}
theorem trodAll_five {w : World} {base : Nat} {spare : Nat → Bool} {held : Bool} {t0 t1 t2 t3 t4 : TypeId} {args : Array Value} {ds : List (DataW H)} {ps : List MemPlace} (h : DataW.TrodAll enc P w base spare held [t0, t1, t2, t3, t4] args.toList ds ps) :
  ∃ v0 v1 v2 v3 v4 d0 d1 d2 d3 d4 p0 p1 p2 p3 p4, args = #[v0, v1, v2, v3, v4] ∧ ds = [d0, d1, d2, d3, d4] ∧ ps = p0 ++ p1 ++ p2 ++ p3 ++ p4 ∧ DataW.Trod enc P w base spare held t0 v0 d0 p0 ∧ DataW.Trod enc P w base spare held t1 v1 d1 p1 ∧
   DataW.Trod enc P w base spare held t2 v2 d2 p2 ∧ DataW.Trod enc P w base spare held t3 v3 d3 p3 ∧ DataW.Trod enc P w base spare held t4 v4 d4 p4 := by
 obtain ⟨v0, vs, d0, ds', p0, q, hargs, rfl, rfl, h0, hrest⟩ := trodAll_cons h
 obtain ⟨v1, vs1, d1, ds1, p1, q1, rfl, rfl, rfl, h1, hrest1⟩ := trodAll_cons hrest
 obtain ⟨v2, vs2, d2, ds2, p2, q2, rfl, rfl, rfl, h2, hrest2⟩ := trodAll_cons hrest1
 obtain ⟨v3, vs3, d3, ds3, p3, q3, rfl, rfl, rfl, h3, hrest3⟩ := trodAll_cons hrest2
 obtain ⟨v4, vs4, d4, ds4, p4, q4, rfl, rfl, rfl, h4, hrest4⟩ := trodAll_cons hrest3
 obtain ⟨rfl, rfl, rfl⟩ := trodAll_nil hrest4
 exact ⟨v0, v1, v2, v3, v4, d0, d1, d2, d3, d4, p0, p1, p2, p3, p4, by cases args; simp_all, rfl, by simp, h0, h1, h2, h3, h4⟩
end
end Go.SL
set_option maxRecDepth 8000
namespace Go.Proofs.YtlblgkelhibdoaaGreatDoor
open Go Go.SL Go.ChangeShapes Go.WideShapes Go.ChangeAt Go.RowKit
theorem c_raws2 : Cdc Sg.P 24 (fun l => [rawL l]) (fun l => (l.length ≤ 4611686018427387904 ∧ ∀ x ∈ l, RawOk x) ∧ l.length * 88 ≤ 140737488351232) :=
 (cdc_slice (sz := 11) (by8 := 88) (by kernel_rfl) (by kernel_rfl) (by decide) (by kernel_rfl) c_raw).to id (fun _ => rfl) (fun _ h => ⟨⟨len_le (by decide) h.1, h.2⟩, h.1⟩)
theorem c_scene2 : Cdc Sg.P 26 sceneE (fun s => SceneOk s ∧ s.ops.length * 88 ≤ 140737488351232) := by
 refine Cdc.to (cdc_struct ?_ ?_ (cdcL_cons c_int rfl (cdcL_cons c_int rfl (cdcL_cons c_int rfl (cdcL_cons c_int rfl (cdcL_cons c_int rfl (cdcL_cons c_int rfl (cdcL_cons c_int rfl (cdcL_cons c_ints rfl (cdcL_cons c_pics rfl (cdcL_cons c_raws2 rfl cdcL_nil)))))))))))
  (fun (a, b, c, d, e, f, g, h, i, j, _) => (⟨a, b, c, d, e, f, g, h, i, j⟩ : Scene)) (fun _ => rfl) ?_
 ·kernel_rfl
 ·kernel_rfl
 ·rintro _ ⟨h1, h2, h3, h4, h5, h6, h7, h8, h9, h10, _⟩
  exact ⟨⟨h1, h2, h3, h4, h5, h6, h7, h8.1, h9.1, h10.1.1, all_getD h9.2, all_getD h10.1.2⟩, h10.2⟩
end Go.Proofs.YtlblgkelhibdoaaGreatDoor
set_option maxHeartbeats 4000000
set_option maxRecDepth 16000
namespace Go.Proofs.YtlblgkelhibdoaaGreatDoor
open Go Go.SL
open Go.RowKit (wrap64)
attribute [local go_sem] Int.toNat_natCast
theorem cw_stepXV {S : Env} {l : List Oper} {id : Nat} {y : Code} {Q : AExit → St → Prop} {st : St} (t : Tr)
  (hok : (fwdOk l.toArray && marksOk l.toArray (fun i => (Region.before l.toArray).getD i 0) && okN3 S.rcv l.toArray (fun i => (Region.before l.toArray).getD i 0) (Array.replicate l.toArray.size false) t && okT3 S.rcv l.toArray (fun i => (Region.before l.toArray).getD i 0) (Array.replicate l.toArray.size false) t && Nat.ble (depthT t) l.toArray.size) = true)
  (hw : WfN 0 st) (h : ∀ K : St → Prop, (∀ s s', Le s s' → cw S y Q s' → K s) → treeP S l.toArray l t st K) : cw S (.seq (.region id l.toArray true) y) Q st := by
 refine cw_mono (S := S) (.region id l.toArray true) (Q := thenQ (fun st => Wk (cw S y Q) st ∨ cw S y Q st) Q) (fun _ _ h => h) ?_
 simp only [cw, if_pos]
 exact anyP_tree3 hok hw (h _ fun s s' hl hs => .inl ⟨s', hl, hs⟩)
def twoS (c d : Scene) (k : Int) : Scene := { c with ops := c.ops.take (min k c.ops.length).toNat ++ d.ops }
theorem twoS_ok {c d : Scene} (hc : SceneOk c) (hd : SceneOk d) (k : Int) (hk : k < 5) (hl : d.ops.length * 88 ≤ 140737488351232) : SceneOk (twoS c d k) := by
 refine ⟨hc.bits, hc.x, hc.y, hc.w, hc.h, hc.tileW, hc.tileH, hc.order, hc.pics, ?_, hc.pic, fun i hi => ?_⟩
 ·show (c.ops.take _ ++ d.ops).length ≤ _
  rw [List.length_append, List.length_take]; omega
 ·show RawOk ((c.ops.take _ ++ d.ops).getD i default)
  have hi : i < (c.ops.take (min k c.ops.length).toNat ++ d.ops).length := hi
  rw [List.length_append, List.length_take] at hi
  rcases Nat.lt_or_ge i (c.ops.take (min k c.ops.length).toNat).length with h | h
  ·have h2 := h
   rw [List.length_take] at h2
   rw [List.getD_eq_getElem?_getD, List.getElem?_append_left h, List.getElem?_take_of_lt (by omega), ← List.getD_eq_getElem?_getD]
   exact hc.op i (by omega)
  ·rw [List.getD_eq_getElem?_getD, List.getElem?_append_right h, ← List.getD_eq_getElem?_getD]
   rw [List.length_take] at h ⊢
   exact hd.op _ (by omega)
theorem of_two (c d : Scene) (k : Int) : Of c (gScript (twoS c d k)) := by
 have h := of_g (twoS c d k)
 exact ⟨h.b, h.cv, h.w, h.h, h.o, h.n1, h.n2, h.im, h.V, h.op⟩
theorem two_law (c d : Scene) (hc : SceneOk c) (hd : SceneOk d) (hl : d.ops.length * 88 ≤ 140737488351232) (keep x y : Int) :
  Pure Sg 5 [ag (sceneE c), ag (sceneE d), I keep, I x, I y] (fun r => r = .b (B true)) := by
 have ht : True := trivial
 have hk := modp_spec keep 5 (by omega) (by omega)
 have k1 := Int.emod_nonneg keep (show (5 : Int) ≠ 0 by omega)
 have k2 := Int.emod_lt_of_pos keep (show (0 : Int) < 5 by omega)
 generalize keep % 5 = k at *
 have hg := gscript_spec c hc
 have hg2 := gscript_spec (twoS c d k) (twoS_ok hc hd k k2 hl)
 have hO := of_g c
 have hT := of_two c d k
 obtain ⟨b2, hv⟩ := two_value hO hT rfl x y
 have hbw := between_spec (gScript c) (gScript (twoS c d k)) (gScript_len c) (gScript_len _)
 have hsm : Small (gScript c).canvas := gCanvas_small c
 have hin := pt_in hsm x y
 have hp := point_sp (gScript c).canvas x y hsm
 have hbx : -6 ≤ (gScript c).canvas.x0 ∧ (gScript c).canvas.x1 ≤ 100 ∧ -6 ≤ (gScript c).canvas.y0 ∧ (gScript c).canvas.y1 ≤ 100 := by
  obtain ⟨q1, q2, q3, q4, _, _⟩ := hsm
  show -6 ≤ (gCanvas c).x0 ∧ (gCanvas c).x1 ≤ 100 ∧ -6 ≤ (gCanvas c).y0 ∧ (gCanvas c).y1 ≤ 100
  unfold gCanvas; dsimp only; omega
 obtain ⟨i1, i2, i3, i4⟩ := hin
 have hv1 := value_pt (gScript c) _ _ _ (hO.pt (x := ptX (gScript c).canvas x) (y := ptY (gScript c).canvas y) ⟨i1, i2, i3, i4⟩) (gScript_len c) ⟨by omega, by omega⟩ ⟨by omega, by omega⟩
 have hv2 := value_pt (gScript (twoS c d k)) _ _ _ (hT.pt (x := ptX (gScript c).canvas x) (y := ptY (gScript c).canvas y) ⟨i1, i2, i3, i4⟩) (gScript_len _) ⟨by omega, by omega⟩ ⟨by omega, by omega⟩
 have hco := contains_sp (betweenM (gScript c) (gScript (twoS c d k))).1 (ptX (gScript c).canvas x) (ptY (gScript c).canvas y)
 rw [b2] at hbw
 have haw := awake31_spec
 have hops : (twoS c d k).ops = c.ops.take (min k c.ops.length).toNat ++ d.ops := rfl
 refine fn_a Tryz.func5 [.tmp 10] ?_
 repeat' (first | with_reducible exact tr_a | ((first | ((with_reducible refine cw_stepDK (id := 2) [(20, 4), (22, 4), (24, 4), (26, 4), (28, 4), (30, 4), (32, 4), (34, 4), (36, 4), (38, 5), (39, 5), (40, 5), (41, 5), (42, 5), (43, 5), (44, 5), (45, 5), (46, 5)] (by decide +kernel) (by decide +kernel) ?_ (fun K hK => ?_)); (first | (refine And.intro (fun iw hiw => ?_) ?_; (focus ((try simp (maxSteps := 1000000) (disch := omega) only [go_sem] at hiw ⊢); (repeat (refine Eq.trans (if_neg ?_) ?_; (focus omega))); exact hw iw (by omega))); (focus (first | exact Nat.zero_le _ | (simp (maxSteps := 1000000) (disch := omega) only [go_sem]; done) | (simp (maxSteps := 1000000) (disch := omega) only [go_sem]; omega)))) | exact wf_a)) | ((with_reducible refine cw_lastDK (id := 2) [(20, 4), (22, 4), (24, 4), (26, 4), (28, 4), (30, 4), (32, 4), (34, 4), (36, 4), (38, 5), (39, 5), (40, 5), (41, 5), (42, 5), (43, 5), (44, 5), (45, 5), (46, 5)] (by decide +kernel) (by decide +kernel) ?_ (fun K hK => ?_)); (first | (refine And.intro (fun iw hiw => ?_) ?_; (focus ((try simp (maxSteps := 1000000) (disch := omega) only [go_sem] at hiw ⊢); (repeat (refine Eq.trans (if_neg ?_) ?_; (focus omega))); exact hw iw (by omega))); (focus (first | exact Nat.zero_le _ | (simp (maxSteps := 1000000) (disch := omega) only [go_sem]; done) | (simp (maxSteps := 1000000) (disch := omega) only [go_sem]; omega)))) | exact wf_a))); (try simp (maxSteps := 1000000) (disch := omega) only [go_sem]); and_intros; (all_goals first | (refine hK _ (by simp (maxSteps := 1000000) (disch := omega) only [go_sem]) ?_; clear hK K) | exact auto_cl | skip)) | refine un_a ?_ | ((with_reducible refine cw_stepV (id := 3) (fun K hW => ?_)); (try simp (maxSteps := 1000000) (disch := omega) only [go_sem]); and_intros; (all_goals first | (refine hK _ ?_; clear hK K) | exact auto_cl | skip)) | ((first | refine st_a (fun K hK => ?_) | refine rg_a ?_ | refine call_c (hg) ?_ | refine gcall_c (fun hg => hg) ?_); and_intros; (all_goals first | (refine hK _ ?_; clear hK K) | exact auto_cl | skip)) | ((first | apply cw_ite | apply cw_iteN); (case hf => rfl); (case hc => exact ev_a); (all_goals first | (intro hb; (try simp only [hbs] at hb)) | skip)) | exact atN_intro | (refine if_a (fun hb => ?_) (fun hb => ?_); all_goals try exact bad_a) | refine cw_blocks (fun KB hB => ?_) | (refine hB _ ?_; clear hB KB) | refine exit_by (S := Sg) (by assumption) ?_ | (refine ret_a ?_; (try clear hB KB); (try clear hK K)))
 refine call_a hk ?_
 (try simp (maxSteps := 1000000) (disch := omega) only [go_sem])
 refine hW _ (mkSt [(3, .b (I x)), (4, .b (I y)), (5, .b (.c (.ptr 0 0))), (6, .b (.c (.ptr 1 0))), (11, .b (.c (.ptr 2 0))), (12, .b (I k))]
  [(0, .fix ((sceneE c).map CV.p)), (1, .fix ((sceneE { c with ops := d.ops }).map CV.p)), (2, .fix ((scriptE (gScript c)).map CV.p))] 3) ?_ ?_
 ·refine le_a [(1, some 1), (2, some 2)] ?_ ?_
  and_intros
  all_goals first | exact le_cl | skip
 clear hW
 refine cw_stepXV (id := 4) (.br 0 (.br 1 (.br 2 (.br 3 (.br 4 (.br 5 (.br 6 (.br 7 (.br 9 (.br 10 (.br 8 (.br 11 (.br 12 (.br 13 .leaf .nil) .nil) .nil) .nil) .nil) .nil) .nil) .nil) .nil) .nil) .nil) .nil) .nil) .nil) (by decide +kernel) ?_ (fun K0 hW => ?_)
 ·(first | (refine And.intro (fun iw hiw => ?_) ?_; (focus ((try simp (maxSteps := 1000000) (disch := omega) only [go_sem] at hiw ⊢); (repeat (refine Eq.trans (if_neg ?_) ?_; (focus omega))); exact hw iw (by omega))); (focus (first | exact Nat.zero_le _ | (simp (maxSteps := 1000000) (disch := omega) only [go_sem]; done) | (simp (maxSteps := 1000000) (disch := omega) only [go_sem]; omega)))) | exact wf_a)
 refine (fun (tl : ∀ st, Le st (mkSt [(3, .b (I x)), (4, .b (I y)), (5, .b (.c (.ptr 0 0))), (6, .b (.c (.ptr 1 0))), (11, .b (.c (.ptr 2 0)))]
  [(1, .fix ((sceneE (twoS c d k)).map CV.p)), (2, .fix ((scriptE (gScript c)).map CV.p))] 3) → K0 st) => ?_) (fun st hl => hW st _ hl ?_)
 ·clear hW
  obtain ⟨q, hq⟩ : ∃ q : Nat, (q : Int) = min k c.ops.length := ⟨(min k c.ops.length).toNat, by omega⟩
  have e : (if (c.ops.length : Int) < k then (c.ops.length : Int) else k) = q := by split <;> omega
  repeat' (first | exact tree_nil | (refine tree_br (fun K' hK' => ?_) ?_) | (refine tree_leaf (tl _ ?_); clear tl) | (simp (maxSteps := 1000000) (disch := omega) only [go_sem]; and_intros; (all_goals first | (refine hK' _ ?_; clear hK' K') | trivial | omega | exact Nat.le_of_ble_eq_true rfl | exact auto_cl | skip)))
  all_goals first | (rw [e, Int.toNat_natCast, Nat.sub_zero]; omega) | skip
  all_goals simp only [e, Int.toNat_natCast, Nat.sub_zero]
  have hq2 : (min k (c.ops.length : Int)).toNat = q := by omega
  all_goals
   refine le_a [(1, some 1), (2, some 2)] ?_ ?_
   and_intros
   all_goals first | exact le_cl | skip
   ·rw [hops, List.length_append, List.length_take, hq2]; omega
   ·intro i hi j hj
    show PV.le (appF q (fun a j => fnOf rawE c.ops (0 + a) j) (fnOf rawE d.ops) i j) (fnOf rawE (twoS c d k).ops i j)
    rw [hops, hq2]
    have e3 : appF q (fun a j => fnOf rawE c.ops (0 + a) j) (fnOf rawE d.ops) i j = fnOf rawE (c.ops.take q ++ d.ops) i j := by
     unfold appF fnOf
     split
     ·rename_i h
      refine congrArg (fun o : Raw => (rawE o).getD j .any) ?_
      rw [Nat.zero_add, List.getD_eq_getElem?_getD, List.getD_eq_getElem?_getD, List.getElem?_append_left (by rw [List.length_take]; omega), List.getElem?_take_of_lt h]
     ·rename_i h
      refine congrArg (fun o : Raw => (rawE o).getD j .any) ?_
      rw [List.getD_eq_getElem?_getD, List.getD_eq_getElem?_getD, List.getElem?_append_right (by rw [List.length_take]; omega), List.length_take, show min q c.ops.length = q by omega]
    rw [e3]
    exact PV.le_refl _
 clear hW
 repeat' (first | with_reducible exact tr_a | refine dec_a ht ?_ | refine un_a ?_ | ((first | refine st_a (fun K hK => ?_) | refine rg_a ?_ | refine call_c (hg2) ?_ | refine gcall_c (fun hg => hg2) ?_ | refine call_c (hbw) ?_ | refine gcall_c (fun hg => hbw) ?_ | refine call_c (hp) ?_ | refine gcall_c (fun hg => hp) ?_ | refine call_c (haw) ?_ | refine gcall_c (fun hg => haw) ?_ | refine call_c (hco) ?_ | refine gcall_c (fun hg => hco) ?_ | refine call_c (hv1) ?_ | refine gcall_c (fun hg => hv1) ?_ | refine call_c (hv2) ?_ | refine gcall_c (fun hg => hv2) ?_); and_intros; (all_goals first | (refine hK _ ?_; clear hK K) | exact auto_cl | skip)) | ((first | apply cw_ite | apply cw_iteN); (case hf => rfl); (case hc => exact ev_a); (all_goals first | (intro hb; (try simp only [hbs] at hb)) | skip)) | exact atN_intro | (refine if_a (fun hb => ?_) (fun hb => ?_); all_goals try exact bad_a) | refine cw_blocks (fun KB hB => ?_) | (refine hB _ ?_; clear hB KB) | refine exit_by (S := Sg) (by assumption) ?_ | (refine ret_a ?_; (try clear hB KB); (try clear hK K)))
 refine congrArg (fun b => SV.b (B b)) (?_ : _ = true)
 cases hcb : conB (betweenM (gScript c) (gScript (twoS c d k))).1 (ptX (gScript c).canvas x) (ptY (gScript c).canvas y) with
 | true => rfl
 | false =>
  rw [hv hcb]
  simp only [beq_self_eq_true, Bool.and_self, Bool.true_and, Bool.false_or]
end Go.Proofs.YtlblgkelhibdoaaGreatDoor
