/- Part of the proof: SlO, SlW, F6, F14, F9. -/
import Derived.Test.YtlblgkelhibdoaaGreatDoorM7
set_option linter.unusedSimpArgs false
namespace Go.SL
open Go
open Go.RowKit (wrap64)
theorem lst_le0 {sz sz' : Nat} {f g : Nat → Nat → PV} : PV.le (.lst sz 0 f) (.lst sz' 0 g) := fun _ _ u hu => by
 obtain ⟨a, c, e, hn, _⟩ := hu
 exact ⟨a, c, e, hn, fun h => absurd h (Nat.lt_irrefl 0)⟩
end Go.SL
set_option linter.unusedVariables false
namespace Go.SL
open Go
theorem den_lst0 {ok : Nat → Prop} {w : World} {sz : Nat} {g : Nat → Nat → PV} {vs : Array Value} (h : ∀ j, DenB noRho ok w ([BV.c (.p (.lst sz 0 g))].getD j .any) (vs.getD j undef)) :
  ∃ a c, ∀ j, DenB noRho ok w ([BV.c (.p (.val (.slice a 0 c)))].getD j .any) (vs.getD j undef) := by
 obtain ⟨a, c, e, _⟩ := h 0
 refine ⟨a, c, fun j => ?_⟩
 cases j with
 | zero => exact e
 | succ j => exact h (j + 1)
theorem pure_lst0 {S : Env} {f : FuncId} {sz : Nat} {g : Nat → Nat → PV} {R : SV → Prop} (h : ∀ a c, Pure S f [.c (.p (.val (.slice a 0 c)))] R) : Pure S f [.c (.p (.lst sz 0 g))] R :=
 ⟨(h none 0).1, fun ok w vs h1 h2 h3 h4 => by
  obtain ⟨a, c, hd⟩ := den_lst0 h4
  exact (h a c).2 ok w vs h1 h2 h3 hd⟩
theorem own_lst0 {S : Env} {f : FuncId} {sz : Nat} {g : Nat → Nat → PV} {e sz2 n : Nat} {g2 : Nat → Nat → PV} (h : ∀ a c, PureOwn S f [.c (.p (.val (.slice a 0 c)))] e sz2 n g2) : PureOwn S f [.c (.p (.lst sz 0 g))] e sz2 n g2 :=
 ⟨(h none 0).1, fun ok w vs h1 h2 h3 h4 => by
  obtain ⟨a, c, hd⟩ := den_lst0 h4
  exact (h a c).2 ok w vs h1 h2 h3 hd⟩
theorem own_nil {S : Env} {f : FuncId} {args : List BV} {e sz : Nat} {g : Nat → Nat → PV} (h0 : 0 < sz) (h : Pure S f args fun r => r = .b (.c (.p (.val (.slice none 0 0))))) : PureOwn S f args e sz 0 g :=
 ⟨h.1, fun ok w vs h1 h2 h3 h4 => (h.2 ok w vs h1 h2 h3 h4).mono fun ex w' ⟨v, r, he, hR, _, hb, hd⟩ => by
  subst hR
  refine ⟨v, [], he, hb, h0, ⟨by simp, .inl ⟨hd, rfl⟩⟩, by simp, fun i hi => absurd hi (Nat.not_lt_zero i)⟩⟩
theorem le_lst0 {a : Option Addr} {c sz : Nat} {g : Nat → Nat → PV} : PV.le (.val (.slice a 0 c)) (.lst sz 0 g) := fun _ _ u h => by
 have : u = .slice a 0 c := h
 subst this
 exact ⟨a, c, rfl, Nat.zero_le _, fun h => absurd h (Nat.lt_irrefl 0)⟩
end Go.SL
set_option maxHeartbeats 1000000
set_option maxRecDepth 16000
namespace Go.Proofs.YtlblgkelhibdoaaGreatDoor
open Go Go.SL
open Go.RowKit (wrap64)
theorem r13area_spec (r : Rect) : Pure Sg 36 [ag (rectE r)] (fun x => x = .b (I (areaR r))) := by
 refine fn_a Tryz.func36 [.tmp 2] ?_
 repeat' (first | ((first | refine st_a (fun K hK => ?_) | refine call_c (r13clean_spec _) ?_); and_intros; (all_goals first | (refine hK _ ?_; clear hK K) | exact auto_cl | skip)) | (refine ret_a ?_; (try clear hB KB); (try clear hK K)))
 rw [area_wrap]
theorem far_spec (n : Int) : Pure Sg 150 [I n] (fun x => x = .b (B (decide (n < -1048576 ∨ 1048576 < n)))) := by
 refine fn_a Tryz.func150 [.tmp 2] ?_
 repeat' (first | (refine st_a (fun K hK => ?_); and_intros; (all_goals first | (refine hK _ ?_; clear hK K) | exact auto_cl | skip)) | (refine ret_a ?_; (try clear hB KB); (try clear hK K)))
 refine bool_eq ?_
 (try simp only [Bool.and_eq_true, Bool.or_eq_true, Bool.not_eq_true', Bool.not_eq_false', decide_eq_true_eq, decide_eq_false_iff_not, ge_iff_le, gt_iff_lt, beq_iff_eq, bne_iff_ne, ne_eq, Bool.or_eq_false_iff, Bool.and_eq_false_imp, Bool.not_true, Bool.not_false])
 try omega
end Go.Proofs.YtlblgkelhibdoaaGreatDoor
set_option maxHeartbeats 2000000
set_option maxRecDepth 16000
namespace Go.Proofs.YtlblgkelhibdoaaGreatDoor
open Go Go.SL
open Go.RowKit (wrap64)
theorem r13order_spec (l : List Int) (n : Int) (hl : l.length ≤ 4611686018427387904) :
  Pure Sg 151 [.c (.p (ints l)), I n] (fun r => r = .tup [.c (.p (ints (orderM l n))), B (ordOk l n)]) := by
 refine pure_le ?_
 refine fn_a Tryz.func151 [.tmp 4, .tmp 5] ?_
 repeat' (first | refine un_a ?_ | (refine st_a (fun K hK => ?_); and_intros; (all_goals first | (refine hK _ ?_; clear hK K) | exact auto_cl | skip)) | (refine if_a (fun hb => ?_) (fun hb => ?_); all_goals try exact bad_a) | (refine ret_a ?_; (try clear hB KB); (try clear hK K)))
 ·have : ordOk l n = false := by
   rw [ordOk, decide_eq_false (by omega)]; rfl
  rw [orderM, this]
  exact sle_tup ⟨ble_c nil_le, ble_rfl trivial, trivial⟩
 refine cw_loop (X := Nat) (fun i => mkSt [(0, .b (.c (.p (ints l)))), (1, .b (I n)), (6, .b (.c (.own 2 n.toNat))), (7, .b (.c (.own 1 i))), (8, .b (I i))]
  [(1, .arr 3 1 i (fnOf intE ((ordL l n).take i))), (2, .arr 4 1 n.toNat (seenF (ordL l n) i))] 3) (fun i => (i : Int) ≤ n ∧ ∀ k, k < i → ordAt (ordL l n) n k = true) (fun i => n.toNat - i) 0 ?_ ?_ ?_
 ·exact ⟨by omega, fun k hk => by omega⟩
 ·refine le_a [(1, none), (2, some 0)] ?_ ?_
  and_intros
  all_goals first | exact le_cl | skip
  refine .inr fun a ha j hj => ?_
  have : j = 0 := by omega
  subst this
  exact PV.le_refl _
 ·rintro i ⟨hi, hok⟩
  have hx : i < n.toNat → (0 ≤ n ∧ (l.length = 0 ∨ l.length = n)) → (if 0 < (l.length : Int) then l.getD (i : Int).toNat default else (i : Int)) = (ordL l n).getD i 0 := fun h1 h2 => by
   rw [ordL, Int.toNat_natCast]
   by_cases h0 : l.length = 0
   ·rw [if_neg (by omega), if_pos h0, iota_getD h1]
   ·rw [if_pos (by omega), if_neg h0]; rfl
  repeat' (first | refine un_a ?_ | (refine st_a (fun K hK => ?_); and_intros; (all_goals first | (refine hK _ ?_; clear hK K) | exact auto_cl | skip)) | (apply cw_ite; (case hf => rfl); (case hc => exact ev_a); (all_goals first | (intro hb; (try simp only [hbs] at hb)) | skip)) | exact atN_intro | (refine if_a (fun hb => ?_) (fun hb => ?_); all_goals try exact bad_a) | (refine ret_a ?_; (try clear hB KB); (try clear hK K)))
  ·rw [hx (by omega) (by omega)] at hb
   have : ordOk l n = false := by
    refine ordOk_no (i := i) (by omega) (by omega) ?_
    rw [ordAt]
    by_cases h1 : 0 ≤ (ordL l n).getD i 0 ∧ (ordL l n).getD i 0 < n
    ·rcases hb with h | h
     ·omega
     ·rw [Int.toNat_of_nonneg h1.1] at h
      rw [h]; simp
    ·rw [decide_eq_false h1]; rfl
   rw [orderM, this]
   exact sle_tup ⟨ble_c nil_le, ble_rfl trivial, trivial⟩
  ·rw [hx (by omega) (by omega)] at hb
   have hlen := ordL_len (l := l) (n := n) (by omega) (by omega)
   rw [thenQ_normal]
   refine wk_loop (i + 1) ?_ ⟨by omega, fun k hk => ?_⟩ (by omega)
   ·have e : (ordL l n).take (i + 1) = (ordL l n).take i ++ [(ordL l n).getD i 0] := by
     rw [List.take_add_one, List.getElem?_eq_getElem (by omega), List.getD_eq_getElem?_getD, List.getElem?_eq_getElem (by omega)]; rfl
    have hlt : ((ordL l n).take i).length = i := by rw [List.length_take]; omega
    refine le_a [(1, some 4), (2, some 2)] ?_ ?_
    and_intros
    all_goals first | exact le_cl | skip
    ·have key := fun g hg => arr_push (enc := intE) (xs := (ordL l n).take i) (x := (ordL l n).getD i 0) (s := 1) (g := g) hg
     simp only [hlt, ← e] at key
     refine .inr (key _ fun j hj => ?_)
     have : j = 0 := by omega
     subst this
     simp only [gt_iff_lt, hx (by omega) (by omega)]
     rfl
    ·refine .inr fun a ha j hj => ?_
     have : j = 0 := by omega
     subst this
     simp only [gt_iff_lt, hx (by omega) (by omega)]
     rw [← seen_step (by omega) hb.1.1]
     by_cases h : a = ((ordL l n).getD i 0).toNat
     ·rw [if_pos h, if_pos h]; exact PV.le_refl _
     ·rw [if_neg h, if_neg h]; exact PV.le_refl _
   ·by_cases h : k = i
    ·subst h
     rw [Int.toNat_of_nonneg hb.1.1] at hb
     rw [ordAt, decide_eq_true hb.1, hb.2]; rfl
    ·exact hok k (by omega)
  ·have e : ordOk l n = true := by
    rw [ordOk, decide_eq_true (by omega), Bool.true_and, List.all_eq_true]
    exact fun k hk => hok k (by have := List.mem_range.1 hk; omega)
   have hlen := ordL_len (l := l) (n := n) (by omega) (by omega)
   have hi2 : i = n.toNat := by omega
   rw [orderM, if_pos e, e, List.take_of_length_le (by omega), hlen, hi2]
   exact sle_tup ⟨ble_rfl trivial, ble_rfl trivial, trivial⟩
end Go.Proofs.YtlblgkelhibdoaaGreatDoor
set_option maxHeartbeats 2000000
set_option maxRecDepth 16000
namespace Go.Proofs.YtlblgkelhibdoaaGreatDoor
open Go Go.SL
open Go.RowKit (wrap64)
theorem spare_spec (o : Op) (h1 : 1 ≤ o.kind) (h3 : o.kind ≤ 3) : Pure Sg 163 [ag (opE o)] (fun x => x = .b (B (!fieldsM o))) := by
 refine fn_a Tryz.func163 [.tmp 2] ?_
 repeat' (first | refine un_a ?_ | (refine st_a (fun K hK => ?_); and_intros; (all_goals first | (refine hK _ ?_; clear hK K) | exact auto_cl | skip)) | (apply cw_ite; (case hf => rfl); (case hc => exact ev_a); (all_goals first | (intro hb; (try simp only [hbs] at hb)) | skip)) | exact atN_intro | (refine if_a (fun hb => ?_) (fun hb => ?_); all_goals try exact bad_a) | (refine ret_a ?_; (try clear hB KB); (try clear hK K)))
 ·refine congrArg (fun b => SV.b (B (!b))) ?_
  rw [Bool.eq_iff_iff, fieldsM, if_pos hb]
  simp
 ·refine congrArg (fun b => SV.b (B (!b))) ?_
  rw [Bool.eq_iff_iff]
  by_cases k1 : o.kind = 1
  ·cases hi : o.isolated <;> cases hk : o.knockout <;> by_cases hm : o.mask = 0 <;> simp [fieldsM, k1, hi, hk, hm]
  ·have k2 : o.kind = 2 := by omega
   by_cases hm : o.mask = 0 <;> by_cases q1 : o.image = 0 <;> by_cases q2 : o.x = 0 <;> by_cases q3 : o.y = 0 <;> simp [fieldsM, k2, hm, q1, q2, q3]
end Go.Proofs.YtlblgkelhibdoaaGreatDoor
