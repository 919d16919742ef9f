/- Part of the proof: U8. -/
import Derived.Test.YtlblgkelhibdoaaGreatDoorM32
set_option linter.unusedSimpArgs false
set_option linter.unusedVariables false
set_option maxHeartbeats 2000000
set_option maxRecDepth 16000
namespace Go.Proofs.YtlblgkelhibdoaaGreatDoor
open Go Go.SL
open Go.RowKit (wrap64)
attribute [local go_sem] qE exE
theorem value_sp (op mode m cs sl cb ab : Int) (hm : Full m) (ho : 1 ≤ op ∧ op ≤ 12) (hmo : 1 ≤ mode ∧ mode ≤ 12) (hs : Pre cs sl m) (hd : Pre cb ab m) :
  Pure Sg 179 [I op, I mode, U m, U cs, U sl, U cb, U ab] (fun r => r = .tup [ag (exE (valueX op mode m cs sl cb ab)), B true]) := by
 have hok := value_ok (op := op) (mode := mode) hm hs hd
 have ht := term_ok (mode := mode) hm hs hd
 obtain ⟨s0, sa, am⟩ := hs
 obtain ⟨d0, db, bm⟩ := hd
 have hle := hm.le
 have hp := hm.pos
 have hb := blend_sp mode cs sl cb ab hmo ⟨s0, sa, by omega, d0, db, by omega⟩
 have hf := factors_sp op sl ab m hm ho (by omega) am (by omega) bm
 have hu := full_sp m
 rw [show decide (m = 255 ∨ m = 65535) = true from decide_eq_true hm.h] at hu
 have ⟨a1, a2⟩ := facA_bd (op := op) (a := sl) (b := ab) (m := m) (by omega) am (by omega) bm
 have ⟨b1, b2⟩ := facB_bd (op := op) (a := sl) (b := ab) (m := m) (by omega) am (by omega) bm
 obtain ⟨k1, k2, k3, k4, k5, k6, k7, k8, _⟩ := hok
 obtain ⟨t0, t1, t2, t3, t4, t5, t6, t7, _⟩ := ht
 unfold valueX at *
 dsimp only at k1 k2 k3 k4 k5 k6 k7 k8
 generalize blendX mode cs sl cb ab = T at *
 generalize facA op sl ab m = fa at *
 generalize facB op sl ab m = fb at *
 have e1 : 0 ≤ (m - ab) * cs ∧ (m - ab) * cs ≤ 65535 * 65535 := ⟨mul_nn (by omega) (by omega), mul_lr (by omega) (by omega) (by omega) (by omega)⟩
 have e2 : 0 ≤ fb * cb ∧ fb * cb ≤ 65535 * 65535 := ⟨mul_nn (by omega) (by omega), mul_lr (by omega) (by omega) (by omega) (by omega)⟩
 have e3 : 0 ≤ m * m ∧ m * m ≤ 65535 * 65535 := ⟨mul_nn (by omega) (by omega), mul_lr (by omega) (by omega) (by omega) (by omega)⟩
 have e4 : 0 ≤ (m - ab) * cs * fa ∧ (m - ab) * cs * fa ≤ 65535 * 65535 * 65535 := ⟨mul_nn e1.1 (by omega), mul_lr e1.2 (by omega) (by omega) (by omega)⟩
 have e5 : 0 ≤ (m - ab) * cs * fa * T.d ∧ (m - ab) * cs * fa * T.d ≤ 65535 * 65535 * 65535 * 4294836225 := ⟨mul_nn e4.1 (by omega), mul_lr e4.2 (by omega) (by omega) (by omega)⟩
 have e6 : 0 ≤ fb * cb * m ∧ fb * cb * m ≤ 65535 * 65535 * 65535 := ⟨mul_nn e2.1 (by omega), mul_lr e2.2 (by omega) (by omega) (by omega)⟩
 have e7 : 0 ≤ fb * cb * m * T.d ∧ fb * cb * m * T.d ≤ 65535 * 65535 * 65535 * 4294836225 := ⟨mul_nn e6.1 (by omega), mul_lr e6.2 (by omega) (by omega) (by omega)⟩
 have e8 : 0 ≤ T.p * fa := mul_nn t0 a1
 have e9 : 0 ≤ fa * T.q ∧ fa * T.q ≤ 65535 * 65535 := ⟨mul_nn (by omega) (by omega), mul_lr (by omega) (by omega) (by omega) (by omega)⟩
 have w1 := mulSmall_sp T.p fa t0 ⟨by omega, by omega⟩ (by omega)
 have w2 := wide_sp ((m - ab) * cs) fa T.d ⟨by omega, by omega⟩ ⟨by omega, by omega⟩ ⟨by omega, by omega⟩ (by omega)
 have w3 := wide_sp (fb * cb) m T.d ⟨by omega, by omega⟩ ⟨by omega, by omega⟩ ⟨by omega, by omega⟩ (by omega)
 have w4 := add_sp (T.p * fa) ((m - ab) * cs * fa * T.d) e8 e5.1 (by omega)
 have w5 := add_sp (T.p * fa + (m - ab) * cs * fa * T.d) (fb * cb * m * T.d) (by omega) e7.1 (by omega)
 have htt : True := trivial
 refine fn_a Tryz.func179 [.cell 14 238, .tmp 15] ?_
 repeat' (first | refine dec_a htt ?_ | refine un_a ?_ | ((first | refine st_a (fun K hK => ?_) | refine call_c (hb) ?_ | refine call_c (hf) ?_ | refine gcall_c (fun hg => hu) ?_ | refine call_c (w1) ?_ | refine call_c (w2) ?_ | refine call_c (w3) ?_ | refine call_c (w4) ?_ | refine call_c (w5) ?_); and_intros; (all_goals first | (refine hK _ ?_; clear hK K) | exact auto_cl | skip)) | (refine ret_a ?_; (try clear hB KB); (try clear hK K)))
 rfl
theorem color_sp (op mode m cs sl cb ab : Int) (hm : Full m) (ho : 1 ≤ op ∧ op ≤ 12) (hmo : 1 ≤ mode ∧ mode ≤ 12) (hs : Pre cs sl m) (hd : Pre cb ab m) :
  Pure Sg 168 [I op, I mode, U m, U cs, U sl, U cb, U ab] (fun r => r = .tup [U (colorM op mode m cs sl cb ab), B true]) := by
 have hok := value_ok (op := op) (mode := mode) hm hs hd
 have hv := value_sp op mode m cs sl cb ab hm ho hmo hs hd
 have hh := half_exact_sp _ hok
 have hl := color_le (op := op) (mode := mode) hm hs hd
 have hl2 := alpha_le (op := op) (a := sl) (b := ab) hm (by have := hs.s0; have := hs.sa; omega) hs.am (by have := hd.s0; have := hd.sa; omega) hd.am
 have hn := (hx_spec hok).2.2
 have hle := hm.le
 have htt : True := trivial
 have hw : IntKind.u16.wrap (hx (valueX op mode m cs sl cb ab)) = colorM op mode m cs sl cb ab := cast_u16 hn (by unfold colorM at hl; omega)
 refine fn_a Tryz.func168 [.tmp 14, .tmp 15] ?_
 repeat' (first | refine dec_a htt ?_ | refine un_a ?_ | ((first | refine st_a (fun K hK => ?_) | refine call_c (hv) ?_ | refine call_c (hh) ?_); and_intros; (all_goals first | (refine hK _ ?_; clear hK K) | exact auto_cl | skip)) | (refine ret_a ?_; (try clear hB KB); (try clear hK K)))
 rw [hw]
theorem knockC_sp (mode m cs sl fs c cb ab : Int) (hm : Full m) (hmo : 1 ≤ mode ∧ mode ≤ 12) (hs : Pre cs sl m) (hd : Pre cb ab m) (hf : sl ≤ fs) (hfm : fs ≤ m) (hc : 0 ≤ c) (hcm : c ≤ m) :
  Pure Sg 167 [I mode, U m, U cs, U sl, U fs, U c, U cb, U ab] (fun r => r = .tup [U (knockC mode m cs sl fs c cb ab), B true]) := by
 have hok := knock_ok (mode := mode) hm hs hd hf hfm hc hcm
 have hkl := knock_le (mode := mode) (acc := m) hm hs hd hf hfm hc hcm (Int.le_refl _)
 have ht := term_ok (mode := mode) hm hs hd
 have hh := half_exact_sp _ hok
 have hn := (hx_spec hok).2.2
 obtain ⟨s0, sa, am⟩ := hs
 obtain ⟨d0, db, bm⟩ := hd
 have hle := hm.le
 have hp := hm.pos
 have hb := blend_sp mode cs sl cb ab hmo ⟨s0, sa, by omega, d0, db, by omega⟩
 have hi := isMode_spec mode
 rw [isMode_true hmo] at hi
 have hu := full_sp m
 rw [show decide (m = 255 ∨ m = 65535) = true from decide_eq_true hm.h] at hu
 have g1 : decide (cs > sl) = false := decide_eq_false (by omega)
 have g2 : decide (sl > fs) = false := decide_eq_false (by omega)
 have g3 : decide (fs > m) = false := decide_eq_false (by omega)
 have g4 : decide (cb > ab) = false := decide_eq_false (by omega)
 have g5 : decide (ab > m) = false := decide_eq_false (by omega)
 have g6 : decide (c > m) = false := decide_eq_false (by omega)
 have hka : knockA m sl fs m ab ≤ m := (knockA_bd hm (by omega) hf hfm (by omega) (Int.le_refl _) (by omega) bm).2
 have hw : IntKind.u16.wrap (knockC mode m cs sl fs c cb ab) = knockC mode m cs sl fs c cb ab := cast_u16 hn (by omega)
 obtain ⟨k1, k2, k3, k4, k5, k6, k7, k8, _⟩ := hok
 obtain ⟨t0, t1, t2, t3, t4, t5, t6, t7, _⟩ := ht
 unfold knockC at *
 unfold knockX at *
 dsimp only at k1 k2 k3 k4 k5 k6 k7 k8
 generalize blendX mode cs sl cb ab = T at *
 have e1 : 0 ≤ (m - fs) * c ∧ (m - fs) * c ≤ 65535 * 65535 := ⟨mul_nn (by omega) (by omega), mul_lr (by omega) (by omega) (by omega) (by omega)⟩
 have e2 : 0 ≤ (fs - sl) * cb ∧ (fs - sl) * cb ≤ 65535 * 65535 := ⟨mul_nn (by omega) (by omega), mul_lr (by omega) (by omega) (by omega) (by omega)⟩
 have e3 : 0 ≤ (m - ab) * cs ∧ (m - ab) * cs ≤ 65535 * 65535 := ⟨mul_nn (by omega) (by omega), mul_lr (by omega) (by omega) (by omega) (by omega)⟩
 have w1 := mul_sp ((m - fs) * c + (fs - sl) * cb + (m - ab) * cs) T.d ⟨by omega, by omega⟩ ⟨by omega, by omega⟩
 have w2 := add_sp T.p (((m - fs) * c + (fs - sl) * cb + (m - ab) * cs) * T.d) t0 (mul_nn (by omega) (by omega)) (by omega)
 refine fn_a Tryz.func167 [.tmp 16, .tmp 17] ?_
 repeat' (first | refine dec_a (And.intro g1 (And.intro g2 (And.intro g3 (And.intro g4 (And.intro g5 g6))))) ?_ | refine un_a ?_ | ((first | refine st_a (fun K hK => ?_) | refine call_c (hi) ?_ | refine gcall_c (fun hg => hu) ?_ | refine call_c (hb) ?_); and_intros; (all_goals first | (refine hK _ ?_; clear hK K) | exact auto_cl | skip)))
 refine cw_stepR (id := 6) (.br 0 (.br 1 (.br 2 (.br 3 (.br 4 (.br 5 (.br 6 (.br 7 (.br 8 (.br 9 (.br 10 (.br 11 (.br 12 .leaf .nil) .nil) .nil) .nil) .nil) .nil) .nil) .nil) .nil) .nil) .nil) .nil) .nil) (by decide +kernel) (by (first | (refine And.intro (fun iw hiw => ?_) ?_; (focus ((try simp (maxSteps := 1000000) (disch := omega) only [go_sem] at hiw ⊢); (repeat (refine Eq.trans (if_neg ?_) ?_; (focus omega))); exact hw iw (by omega))); (focus (first | exact Nat.zero_le _ | (simp (maxSteps := 1000000) (disch := omega) only [go_sem]; done) | (simp (maxSteps := 1000000) (disch := omega) only [go_sem]; omega)))) | exact wf_a)) (fun K0 hW => ?_)
 refine (fun (tl : ∀ st, Le st (mkSt [(18, .b (.c (.ptr 0 0))), (20, .b (U64 m)), (23, .b (.c (.ptr 1 0)))] [(0, .fix ((exE T).map CV.p)), (1, .fix ((qE (T.p + ((m - fs) * c + (fs - sl) * cb + (m - ab) * cs) * T.d)).map CV.p))] 2) → K0 st) => ?_) (fun st hl => hW st _ hl ?_)
 ·clear hW
  repeat' (first | exact tree_nil | (refine tree_br (fun K' hK' => ?_) ?_) | (refine tree_leaf (tl _ ?_); clear tl) | ((first | refine call_c (w1) ?_ | refine call_c (w2) ?_); (try simp (maxSteps := 1000000) (disch := omega) only [go_sem]); and_intros; (all_goals first | (refine hK' _ ?_; clear hK' K') | trivial | omega | exact Nat.le_of_ble_eq_true rfl | exact auto_cl | skip)) | (simp (maxSteps := 1000000) (disch := omega) only [go_sem]; and_intros; (all_goals first | (refine hK' _ ?_; clear hK' K') | trivial | omega | exact Nat.le_of_ble_eq_true rfl | exact auto_cl | skip)))
  all_goals
   refine le_a [(1, some 1)] ?_ ?_
   and_intros
   all_goals first | exact le_cl | skip
 clear hW
 repeat' (first | with_reducible exact tr_a | ((first | refine st_a (fun K hK => ?_) | refine call_c (hh) ?_); and_intros; (all_goals first | (refine hK _ ?_; clear hK K) | exact auto_cl | skip)) | (refine ret_a ?_; (try clear hB KB); (try clear hK K)))
theorem knockA_sp (m a f acc b : Int) (hm : Full m) (ha : 0 ≤ a) (haf : a ≤ f) (hfm : f ≤ m) (h1 : 0 ≤ acc) (h2 : acc ≤ m) (h3 : 0 ≤ b) (h4 : b ≤ m) :
  Pure Sg 169 [U m, U a, U f, U acc, U b] (fun r => r = .tup [U (knockA m a f acc b), B true]) := by
 have hle := hm.le
 have hp := hm.pos
 have hbd := knockA_bd hm ha haf hfm h1 h2 h3 h4
 have hu := full_sp m
 rw [show decide (m = 255 ∨ m = 65535) = true from decide_eq_true hm.h] at hu
 have g1 : decide (a > f) = false := decide_eq_false (by omega)
 have g2 : decide (f > m) = false := decide_eq_false (by omega)
 have g3 : decide (acc > m) = false := decide_eq_false (by omega)
 have g4 : decide (b > m) = false := decide_eq_false (by omega)
 have e1 : 0 ≤ (m - f) * acc ∧ (m - f) * acc ≤ 65535 * 65535 := ⟨mul_nn (by omega) (by omega), mul_lr (by omega) (by omega) (by omega) (by omega)⟩
 have e2 : 0 ≤ (f - a) * b ∧ (f - a) * b ≤ 65535 * 65535 := ⟨mul_nn (by omega) (by omega), mul_lr (by omega) (by omega) (by omega) (by omega)⟩
 have e3 : 0 ≤ m * a ∧ m * a ≤ 65535 * 65535 := ⟨mul_nn (by omega) (by omega), mul_lr (by omega) (by omega) (by omega) (by omega)⟩
 have hh := half_sp ((m - f) * acc + (f - a) * b + m * a) m ⟨by omega, by omega⟩ ⟨by omega, by omega⟩
 have hw : IntKind.u16.wrap (half ((m - f) * acc + (f - a) * b + m * a) m) = knockA m a f acc b := cast_u16 hbd.1 (Int.le_trans hbd.2 hle)
 refine fn_a Tryz.func169 [.tmp 10, .tmp 11] ?_
 repeat' (first | refine dec_a (And.intro g1 (And.intro g2 (And.intro g3 g4))) ?_ | refine un_a ?_ | ((first | refine st_a (fun K hK => ?_) | refine call_c (hu) ?_ | refine call_c (hh) ?_); and_intros; (all_goals first | (refine hK _ ?_; clear hK K) | exact auto_cl | skip)) | (refine ret_a ?_; (try clear hB KB); (try clear hK K)))
 rw [hw]
theorem knockO_sp (m a f acc : Int) (hm : Full m) (ha : 0 ≤ a) (haf : a ≤ f) (hfm : f ≤ m) (h1 : 0 ≤ acc) (h2 : acc ≤ m) :
  Pure Sg 170 [U m, U a, U f, U acc] (fun r => r = .tup [U (knockA m a f acc 0), B true]) := by
 have h := knockA_sp m a f acc 0 hm ha haf hfm h1 h2 (Int.le_refl _) (Int.le_of_lt hm.pos)
 refine fn_a Tryz.func170 [.tmp 8, .tmp 9] ?_
 repeat' (first | with_reducible exact tr_a | ((first | refine st_a (fun K hK => ?_) | refine call_c (h) ?_); and_intros; (all_goals first | (refine hK _ ?_; clear hK K) | exact auto_cl | skip)) | (refine ret_a ?_; (try clear hB KB); (try clear hK K)))
end Go.Proofs.YtlblgkelhibdoaaGreatDoor
