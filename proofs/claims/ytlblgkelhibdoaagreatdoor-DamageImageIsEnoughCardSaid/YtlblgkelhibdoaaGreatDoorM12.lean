/- Part of the proof: U3, U4. -/
import Derived.Laws.Externs
import Derived.Test.YtlblgkelhibdoaaGreatDoorM7
import Derived.Test.YtlblgkelhibdoaaGreatDoorM9
set_option linter.unusedSimpArgs false
set_option linter.unusedVariables false
set_option maxHeartbeats 2000000
set_option maxRecDepth 16000
namespace Go.Proofs.YtlblgkelhibdoaaGreatDoor
open Go Go.SL
open Go.RowKit (wrap64)
def qE (n : Int) : List PV := [.val (.int .u64 (n / 18446744073709551616)), .val (.int .u64 (n % 18446744073709551616))]
structure Q128 (n : Int) : Prop where
 l : 0 ≤ n
 u : n < 340282366920938463463374607431768211456
theorem arr3 {vs : Array Value} (h : vs.size = 3) : vs = #[vs.getD 0 undef, vs.getD 1 undef, vs.getD 2 undef] := by
 apply Array.ext
 ·simpa using h
 ·intro i h1 h2
  simp at h2
  have : i = 0 ∨ i = 1 ∨ i = 2 := by omega
  rcases this with rfl | rfl | rfl <;> simp [h1]
theorem add64_x (a b c : Int) (ha : Q64 a) (hb : Q64 b) (hc : 0 ≤ c ∧ c ≤ 1) : PureX Sg 186 [U64 a, U64 b, U64 c] (.tup [U64 ((a + b + c) % 18446744073709551616), U64 ((a + b + c) / 18446744073709551616)]) := by
 refine ⟨fun v hv => ?_, fun ok w vs hs hd => ?_⟩
 ·simp only [List.mem_cons, List.not_mem_nil, or_false] at hv
  rcases hv with rfl | rfl <;> trivial
 ·have h0 : vs.getD 0 undef = .int .u64 a := hd 0
  have h1 : vs.getD 1 undef = .int .u64 b := hd 1
  have h2 : vs.getD 2 undef = .int .u64 c := hd 2
  refine ⟨.tuple #[.int .u64 ((a + b + c) % 18446744073709551616), .int .u64 ((a + b + c) / 18446744073709551616)], ?_, ?_⟩
  ·rw [SgP, arr3 hs, h0, h1, h2, run_callFunc_extern Tryz.func186 (by kernel_rfl) (by kernel_rfl) (by kernel_rfl) (e := add64Entry) (by kernel_rfl), run_add64 a b c ha.l hb.l hc.1 hc.2]
   rfl
  ·refine ⟨_, rfl, rfl, fun j => ?_⟩
   match j with
   | 0 => rfl
   | 1 => rfl
   | j + 2 => trivial
theorem sub64_run {P : Program} (x y z : Nat) (hz : z ≤ 1) (w : World) : ((Extern.MathBitsCarry.rows.getD 1 ("", fun _ => pure undef)).2 #[.int .u64 x, .int .u64 y, .int .u64 z]).run P w =
  .ok (.tuple #[.int .u64 (((x + 18446744073709551616 - y - z) % 18446744073709551616 : Nat) : Int), .int .u64 ((if x < y + z then 1 else 0 : Nat) : Int)]) w := by
 have : z = 0 ∨ z = 1 := by omega
 rcases this with rfl | rfl <;> rfl
theorem sub64_x (a b c : Int) (ha : Q64 a) (hb : Q64 b) (hc : 0 ≤ c ∧ c ≤ 1) : PureX Sg 192 [U64 a, U64 b, U64 c] (.tup [U64 ((a + 18446744073709551616 - b - c) % 18446744073709551616), U64 (if a < b + c then 1 else 0)]) := by
 obtain ⟨x, rfl⟩ := Int.eq_ofNat_of_zero_le ha.l
 obtain ⟨y, rfl⟩ := Int.eq_ofNat_of_zero_le hb.l
 obtain ⟨z, rfl⟩ := Int.eq_ofNat_of_zero_le hc.1
 have hz : z ≤ 1 := by omega
 have hy := hb.u
 refine ⟨fun v hv => ?_, fun ok w vs hs hd => ?_⟩
 ·simp only [List.mem_cons, List.not_mem_nil, or_false] at hv
  rcases hv with rfl | rfl <;> trivial
 ·have h0 : vs.getD 0 undef = .int .u64 x := hd 0
  have h1 : vs.getD 1 undef = .int .u64 y := hd 1
  have h2 : vs.getD 2 undef = .int .u64 z := hd 2
  refine ⟨.tuple #[.int .u64 (((x + 18446744073709551616 - y - z) % 18446744073709551616 : Nat) : Int), .int .u64 ((if x < y + z then 1 else 0 : Nat) : Int)], ?_, ?_⟩
  ·rw [SgP, arr3 hs, h0, h1, h2, run_callFunc_extern Tryz.func192 (by kernel_rfl) (by kernel_rfl) (by kernel_rfl) (e := (Extern.MathBitsCarry.rows.getD 1 ("", fun _ => pure undef)).2) (by kernel_rfl), sub64_run x y z hz]
   rfl
  ·refine ⟨_, rfl, rfl, fun j => ?_⟩
   have e1 : (((x + 18446744073709551616 - y - z) % 18446744073709551616 : Nat) : Int) = ((x : Int) + 18446744073709551616 - y - z) % 18446744073709551616 := by omega
   have e2 : ((if x < y + z then 1 else 0 : Nat) : Int) = if (x : Int) < y + z then 1 else 0 := by split <;> split <;> omega
   match j with
   | 0 => exact congrArg (Value.int .u64) e1
   | 1 => exact congrArg (Value.int .u64) e2
   | j + 2 => trivial
theorem q_bd {n : Int} (h : Q128 n) : Q64 (n / 18446744073709551616) ∧ Q64 (n % 18446744073709551616) := by
 obtain ⟨h1, h2⟩ := h
 exact ⟨⟨by omega, by omega⟩, ⟨by omega, by omega⟩⟩
attribute [local go_sem] qE
theorem mul_sp (a b : Int) (ha : Q64 a) (hb : Q64 b) : Pure Sg 177 [U64 a, U64 b] (fun r => r = .b (ag (qE (a * b)))) := by
 have h := mul64_spec a b ha.l ha.u hb.l hb.u
 refine fn_a Tryz.func177 [.cell 4 236] ?_
 repeat' (first | ((first | refine st_a (fun K hK => ?_) | refine call_c (h) ?_); and_intros; (all_goals first | (refine hK _ ?_; clear hK K) | exact auto_cl | skip)) | (refine ret_a ?_; (try clear hB KB); (try clear hK K)))
 rfl
def cmpM (x y : Int) : Int := if x = y then 0 else if x < y then -1 else 1
theorem compare_sp (x y : Int) (hx : Q128 x) (hy : Q128 y) : Pure Sg 191 [ag (qE x), ag (qE y)] (fun r => r = .b (I (cmpM x y))) := by
 obtain ⟨x0, x1⟩ := hx
 obtain ⟨y0, y1⟩ := hy
 refine fn_a Tryz.func191 [.tmp 4] ?_
 repeat' (first | refine un_a ?_ | (refine st_a (fun K hK => ?_); and_intros; (all_goals first | (refine hK _ ?_; clear hK K) | exact auto_cl | skip)) | (refine if_a (fun hb => ?_) (fun hb => ?_); all_goals try exact bad_a) | (refine ret_a ?_; (try clear hB KB); (try clear hK K)))
 ·rw [cmpM, if_pos (by omega)]
 ·rw [cmpM, if_neg (by omega), if_pos (by omega)]
 ·rename_i hb0
  have hne : x ≠ y := fun q => by subst q; exact absurd (hb0 rfl rfl) (by decide)
  rw [cmpM, if_neg hne, if_neg (by omega)]
theorem wrap_u64 (n : Int) : IntKind.u64.wrap n = n % 18446744073709551616 := by
 simp only [IntKind.wrap, IntKind.bits, IntKind.signed]; simp
theorem add_sp (x y : Int) (hx : 0 ≤ x) (hy : 0 ≤ y) (h : x + y < 340282366920938463463374607431768211456) : Pure Sg 176 [ag (qE x), ag (qE y)] (fun r => r = .tup [ag (qE (x + y)), B true]) := by
 have qx := q_bd (n := x) ⟨hx, by omega⟩
 have qy := q_bd (n := y) ⟨hy, by omega⟩
 have h1 := add64_x (x % 18446744073709551616) (y % 18446744073709551616) 0 qx.2 qy.2 ⟨by decide, by decide⟩
 have h2 := add64_x (x / 18446744073709551616) (y / 18446744073709551616) ((x % 18446744073709551616 + y % 18446744073709551616 + 0) / 18446744073709551616) qx.1 qy.1 ⟨by omega, by omega⟩
 refine fn_a Tryz.func176 [.cell 4 236, .tmp 5] ?_
 repeat' (first | refine un_a ?_ | ((first | refine st_a (fun K hK => ?_) | refine call_x (h1) ?_ | refine call_x (h2) ?_); and_intros; (all_goals first | (refine hK _ ?_; clear hK K) | exact auto_cl | skip)) | (refine if_a (fun hb => ?_) (fun hb => ?_); all_goals try exact bad_a) | (refine ret_a ?_; (try clear hB KB); (try clear hK K)))
 rw [show (x / 18446744073709551616 + y / 18446744073709551616 + (x % 18446744073709551616 + y % 18446744073709551616 + 0) / 18446744073709551616) % 18446744073709551616 = (x + y) / 18446744073709551616 by clear h1 h2; omega,
   show (x % 18446744073709551616 + y % 18446744073709551616 + 0) % 18446744073709551616 = (x + y) % 18446744073709551616 by clear h1 h2; omega]
 rfl
theorem sub_lt (x y : Int) (hx : Q128 x) (hy : Q128 y) (h : x < y) : Pure Sg 184 [ag (qE x), ag (qE y)] (fun r => r = .tup [ag (qE 0), B false]) := by
 have h0 := compare_sp x y hx hy
 rw [show cmpM x y = -1 by rw [cmpM, if_neg (by omega), if_pos h]] at h0
 have ht : True := trivial
 refine fn_a Tryz.func184 [.cell 4 236, .tmp 5] ?_
 repeat' (first | refine dec_a ht ?_ | refine un_a ?_ | ((first | refine st_a (fun K hK => ?_) | refine call_c (h0) ?_); and_intros; (all_goals first | (refine hK _ ?_; clear hK K) | exact auto_cl | skip)) | (refine ret_a ?_; (try clear hB KB); (try clear hK K)))
 rfl
theorem sub_ge (x y : Int) (hx : Q128 x) (hy : Q128 y) (h : y ≤ x) : Pure Sg 184 [ag (qE x), ag (qE y)] (fun r => r = .tup [ag (qE (x - y)), B true]) := by
 have qx := q_bd hx
 have qy := q_bd hy
 have h0 := compare_sp x y hx hy
 have hc : 0 ≤ cmpM x y := by
  unfold cmpM
  split
  ·decide
  ·rw [if_neg (by omega)]; decide
 have h1 := sub64_x (x % 18446744073709551616) (y % 18446744073709551616) 0 qx.2 qy.2 ⟨by decide, by decide⟩
 refine fn_a Tryz.func184 [.cell 4 236, .tmp 5] ?_
 repeat' (first | refine un_a ?_ | ((first | refine st_a (fun K hK => ?_) | refine call_c (h0) ?_ | refine call_x (h1) ?_); and_intros; (all_goals first | (refine hK _ ?_; clear hK K) | exact auto_cl | skip)) | (refine if_a (fun hb => ?_) (fun hb => ?_); all_goals try exact bad_a) | (refine ret_a ?_; (try clear hB KB); (try clear hK K)))
 rw [wrap_u64, wrap_u64, show (((x / 18446744073709551616 - y / 18446744073709551616) % 18446744073709551616 - if x % 18446744073709551616 < y % 18446744073709551616 + 0 then 1 else 0) % 18446744073709551616) = (x - y) / 18446744073709551616 by
   have := hx.u
   have := hy.l
   clear h0 h1
   split <;> omega,
  show (x % 18446744073709551616 + 18446744073709551616 - y % 18446744073709551616 - 0) % 18446744073709551616 = (x - y) % 18446744073709551616 by clear h0 h1; omega]
 rfl
end Go.Proofs.YtlblgkelhibdoaaGreatDoor
set_option maxHeartbeats 2000000
set_option maxRecDepth 16000
namespace Go.Proofs.YtlblgkelhibdoaaGreatDoor
open Go Go.SL
open Go.RowKit (wrap64)
attribute [local go_sem] qE
theorem band_one {a : Int} (h0 : 0 ≤ a) (h1 : a < 18446744073709551616) : bAnd .u64 a 1 = a % 2 := by
 obtain ⟨n, rfl⟩ := Int.eq_ofNat_of_zero_le h0
 have e : (BitVec.ofInt 64 (n : Int)).toNat = n := by
  rw [BitVec.toNat_ofInt]; omega
 show IntKind.u64.wrap (BitVec.ofInt 64 (n : Int) &&& BitVec.ofInt 64 1).toNat = _
 rw [BitVec.toNat_and, e, show (BitVec.ofInt 64 1).toNat = 2 ^ 1 - 1 by decide, Nat.and_two_pow_sub_one_eq_mod, wu64 (by omega) (by omega)]
 omega
theorem fshr1 {a : Int} : a.fdiv (2 ^ min 1 64) = a / 2 := by
 rw [Int.fdiv_eq_ediv_of_nonneg _ (by decide)]; rfl
theorem mulSmall_sp (x y : Int) (hx : 0 ≤ x) (hy : Q64 y) (h : x * y < 340282366920938463463374607431768211456) : Pure Sg 190 [ag (qE x), U64 y] (fun r => r = .tup [ag (qE (x * y)), B true]) := by
 obtain ⟨y0, y1⟩ := hy
 have ht : True := trivial
 refine fn_a Tryz.func190 [.cell 4 236, .tmp 5] ?_
 repeat' (first | refine un_a ?_ | (refine st_a (fun K hK => ?_); and_intros; (all_goals first | (refine hK _ ?_; clear hK K) | exact auto_cl | skip)))
 refine cw_loop (X := Int × Int × Int) (fun s => mkSt [(1, .b (U64 s.1)), (2, .b (.c (.ptr 0 0))), (4, .b (.c (.ptr 1 0))), (6, .b (.c (.ptr 2 0))), (7, .b (B true))]
  [(0, .fix ((qE s.2.1).map CV.p)), (1, .fix ((qE 0).map CV.p)), (2, .fix ((qE s.2.2).map CV.p))] 3) (fun s => 0 ≤ s.1 ∧ s.1 < 18446744073709551616 ∧ 0 ≤ s.2.1 ∧ 0 ≤ s.2.2 ∧ s.2.2 + s.2.1 * s.1 = x * y) (fun s => s.1.toNat) (y, x, 0) ?_ ?_ ?_
 ·exact ⟨y0, y1, hx, Int.le_refl _, Int.zero_add _⟩
 ·refine le_a [(1, some 1), (2, some 2)] ?_ ?_
  and_intros
  all_goals first | exact le_cl | skip
 ·rintro ⟨k, a, o⟩ ⟨k0, k1, a0, o0, hs⟩
  dsimp only at k0 k1 a0 o0 hs ⊢
  by_cases hk : k = 0
  ·subst hk
   rw [Int.mul_zero, Int.add_zero] at hs
   subst hs
   repeat' (first | refine un_a ?_ | (refine st_a (fun K hK => ?_); and_intros; (all_goals first | (refine hK _ ?_; clear hK K) | exact auto_cl | skip)) | (refine if_a (fun hb => ?_) (fun hb => ?_); all_goals try exact bad_a) | (refine ret_a ?_; (try clear hB KB); (try clear hK K)))
   rfl
  ·have hak : a * 1 ≤ a * k := Int.mul_le_mul_of_nonneg_left (by omega) a0
   have g1 : decide (k > 0) = true := decide_eq_true (by omega)
   have hb1 := band_one k0 k1
   have hsh : k.fdiv (2 ^ min 1 64) = k / 2 := fshr1
   have ha2 : 2 ≤ k → a + a < 340282366920938463463374607431768211456 := fun q => by
    have := Int.mul_le_mul_of_nonneg_left q a0
    omega
   by_cases hp : k % 2 = 1
   ·have e1 : (bAnd .u64 k 1 == 1) = true := by rw [hb1, hp]; rfl
    by_cases h2 : k / 2 = 0
    ·have g2 : decide (k.fdiv (2 ^ min 1 64) > 0) = false := decide_eq_false (by rw [hsh]; omega)
     repeat' (first | refine dec_a (And.intro g1 (And.intro e1 g2)) ?_ | refine un_a ?_ | ((first | refine st_a (fun K hK => ?_) | refine call_c (add_sp o a o0 a0 (by omega)) ?_); and_intros; (all_goals first | (refine hK _ ?_; clear hK K) | exact auto_cl | skip)))
     refine wk_loop (0, a, o + a) ?_ ⟨by dsimp only; omega, by dsimp only; omega, a0, by dsimp only; omega, ?_⟩ (by show (0 : Int).toNat < k.toNat; omega)
     ·refine le_a [(1, some 1), (2, some 2)] ?_ ?_
      and_intros
      all_goals first | exact le_cl | skip
      exact .inl (by rw [hsh, h2])
     ·have : k = 1 := by omega
      subst this
      show o + a + a * 0 = x * y
      rw [← hs, Int.mul_zero, Int.mul_one, Int.add_zero]
    ·have g2 : decide (k.fdiv (2 ^ min 1 64) > 0) = true := decide_eq_true (by rw [hsh]; omega)
     have hq := ha2 (by omega)
     repeat' (first | refine dec_a (And.intro g1 (And.intro e1 g2)) ?_ | refine un_a ?_ | ((first | refine st_a (fun K hK => ?_) | refine call_c (add_sp o a o0 a0 (by omega)) ?_ | refine call_c (add_sp a a a0 a0 hq) ?_); and_intros; (all_goals first | (refine hK _ ?_; clear hK K) | exact auto_cl | skip)))
     refine wk_loop (k / 2, a + a, o + a) ?_ ⟨by dsimp only; omega, by dsimp only; omega, by dsimp only; omega, by dsimp only; omega, ?_⟩ (by show (k / 2).toNat < k.toNat; omega)
     ·refine le_a [(1, some 1), (2, some 2)] ?_ ?_
      and_intros
      all_goals first | exact le_cl | skip
      exact .inl (by rw [hsh])
     ·show o + a + (a + a) * (k / 2) = x * y
      rw [← hs]
      have e : k = 2 * (k / 2) + 1 := by omega
      generalize k / 2 = z at *
      subst e
      grind
   ·have e1 : (bAnd .u64 k 1 == 1) = false := by rw [hb1]; exact beq_eq_false_iff_ne.2 hp
    have g2 : decide (k.fdiv (2 ^ min 1 64) > 0) = true := decide_eq_true (by rw [hsh]; omega)
    have hq := ha2 (by omega)
    repeat' (first | refine dec_a (And.intro g1 (And.intro e1 g2)) ?_ | refine un_a ?_ | ((first | refine st_a (fun K hK => ?_) | refine call_c (add_sp a a a0 a0 hq) ?_); and_intros; (all_goals first | (refine hK _ ?_; clear hK K) | exact auto_cl | skip)))
    refine wk_loop (k / 2, a + a, o) ?_ ⟨by dsimp only; omega, by dsimp only; omega, by dsimp only; omega, by dsimp only; omega, ?_⟩ (by show (k / 2).toNat < k.toNat; omega)
    ·refine le_a [(1, some 1), (2, some 2)] ?_ ?_
     and_intros
     all_goals first | exact le_cl | skip
     exact .inl (by rw [hsh])
    ·show o + (a + a) * (k / 2) = x * y
     rw [← hs]
     have e : k = 2 * (k / 2) := by omega
     generalize k / 2 = z at *
     subst e
     grind
end Go.Proofs.YtlblgkelhibdoaaGreatDoor
