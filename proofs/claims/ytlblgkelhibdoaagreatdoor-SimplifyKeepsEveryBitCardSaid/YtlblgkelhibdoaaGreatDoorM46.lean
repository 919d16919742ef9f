/- Part of the proof: E2. -/
import Derived.Test.YtlblgkelhibdoaaGreatDoorM45
set_option linter.unusedSimpArgs false
set_option linter.unusedVariables false
set_option maxHeartbeats 2000000
set_option maxRecDepth 16000
namespace Go.Proofs.YtlblgkelhibdoaaGreatDoor
open Go Go.SL
open Go.RowKit (wrap64)
def viewE (s : Script) : List PV := scriptE s ++ [PU (maxOf s.bits), natsF s.ops.length (endsM s.ops), .lst 1 s.ops.length (fun a _ => PI (grpM s.ops a)), .lst 1 s.ops.length (fun a _ => PI (kidsM s.ops a)), .lst 1 s.ops.length (fun a _ => PB (firstM s.ops a))]
def viewF (s : Script) (j : Nat) : PV := (viewE s).getD j .any
def vP (s : Script) : BV := .c (.ipt 15 (viewF s) 0)
theorem vf0 (s : Script) : viewF s 0 = PI s.bits := rfl
theorem vf1 (s : Script) : viewF s 1 = PI s.canvas.x0 := rfl
theorem vf2 (s : Script) : viewF s 2 = PI s.canvas.y0 := rfl
theorem vf3 (s : Script) : viewF s 3 = PI s.canvas.x1 := rfl
theorem vf4 (s : Script) : viewF s 4 = PI s.canvas.y1 := rfl
theorem vf5 (s : Script) : viewF s 5 = PI s.tileW := rfl
theorem vf6 (s : Script) : viewF s 6 = PI s.tileH := rfl
theorem vf7 (s : Script) : viewF s 7 = ints s.order := rfl
theorem vf8 (s : Script) : viewF s 8 = imgL s.images := rfl
theorem vf9 (s : Script) : viewF s 9 = opL s.ops := rfl
theorem vf10 (s : Script) : viewF s 10 = PU (maxOf s.bits) := rfl
theorem vf11 (s : Script) : viewF s 11 = natsF s.ops.length (endsM s.ops) := rfl
theorem vf12 (s : Script) : viewF s 12 = .lst 1 s.ops.length (fun a _ => PI (grpM s.ops a)) := rfl
theorem vf13 (s : Script) : viewF s 13 = .lst 1 s.ops.length (fun a _ => PI (kidsM s.ops a)) := rfl
theorem vf14 (s : Script) : viewF s 14 = .lst 1 s.ops.length (fun a _ => PB (firstM s.ops a)) := rfl
theorem le0 {n : Nat} (f g : Nat → Nat → PV) (h : ∀ i, f i 0 = g i 0 := by intro _; rfl) : ∀ i, i < n → ∀ j, j < 1 → PV.le (f i j) (g i j) := fun i _ j hj => by
 have h2 : j = 0 := by omega
 subst h2
 rw [h i]
 exact fun _ _ _ h => h
theorem lst_leE {sz n : Nat} {f g : Nat → Nat → PV} (h : ∀ i, i < n → ∀ j, j < sz → PV.le (f i j) (g i j)) : PV.le (.lst sz n f) (.lst sz n g) := fun _ _ u hu => by
 obtain ⟨a, c, e, hn, hb⟩ := hu
 refine ⟨a, c, e, hn, fun h0 => ?_⟩
 obtain ⟨b, o, ha, hok, hc⟩ := hb h0
 refine ⟨b, o, ha, hok, fun i hi j hj => ?_⟩
 obtain ⟨x, h1, h2, h3⟩ := hc i hi j hj
 exact ⟨x, h1, h2, h i hi j hj _ _ _ h3⟩
theorem pi_le {x y : Int} (h : x = y) : PV.le (PI x) (PI y) := by rw [h]; exact fun _ _ _ h => h
theorem pb_le {x y : Bool} (h : x = y) : PV.le (PB x) (PB y) := by rw [h]; exact fun _ _ _ h => h
theorem bvle_iptP {sz off : Nat} {g g' : Nat → PV} (h : ∀ j, j < sz → PV.le (g j) (g' j)) {ρ : Rho} {ok : Nat → Prop} {w : World} {u : Value} (hu : DenC ρ ok w (.ipt sz g off) u) : DenC ρ ok w (.ipt sz g' off) u := by
 obtain ⟨b, o, h1, h2, h3⟩ := hu
 refine ⟨b, o, h1, h2, fun j hj => ?_⟩
 obtain ⟨x, q1, q2, q3⟩ := h3 j hj
 exact ⟨x, q1, q2, h j hj _ _ _ q3⟩
theorem grp_no {ops : List Op} {i : Nat} (h : (opAt ops i).kind ≠ 3) : grpM ops i = topAt ops i := by rw [grpM, if_neg h]
theorem grp_pop {ops : List Op} {i : Nat} (h : (opAt ops i).kind = 3) : grpM ops i = topAt ops (i + 1) := by rw [grpM, if_pos h]
theorem kids_no {ops : List Op} {i : Nat} (h : (opAt ops i).kind ≠ 3) (g : Int) : kidsTo ops (i + 1) g = kidsTo ops i g + if topAt ops i = g then 1 else 0 := by
 rw [kidsTo]
 by_cases hg : topAt ops i = g
 ·rw [if_pos ⟨h, hg⟩, if_pos hg]
 ·rw [if_neg (fun q => hg q.2), if_neg hg]
theorem kids_pop {ops : List Op} {i : Nat} (h : (opAt ops i).kind = 3) (g : Int) : kidsTo ops (i + 1) g = kidsTo ops i g := by rw [kidsTo, if_neg (fun q => q.1 h)]; rfl
theorem first_no {ops : List Op} {i : Nat} (h : (opAt ops i).kind ≠ 3) : firstM ops i = ((kidsTo ops i (topAt ops i) : Int) == 0) := by
 rw [firstM]
 by_cases hk : kidsTo ops i (topAt ops i) = 0
 ·rw [decide_eq_true ⟨h, hk⟩, hk]; rfl
 ·rw [decide_eq_false (fun q => hk q.2)]
  exact (beq_eq_false_iff_ne.2 (by omega)).symm
theorem first_pop {ops : List Op} {i : Nat} (h : (opAt ops i).kind = 3) : firstM ops i = false := by rw [firstM]; exact decide_eq_false (fun q => q.1 h)
theorem topAt_push {ops : List Op} {i : Nat} (h : (opAt ops i).kind = 2) : topAt ops (i + 1) = i := topAt_cons (stk_push h)
theorem topAt_pop {ops : List Op} {i p : Nat} {t : List Nat} (h : (opAt ops i).kind = 3) (hs : stk ops i = p :: t) : topAt ops (i + 1) = grpM ops p := by
 have h2 : (opAt ops p).kind = 2 := stk_kind (ops := ops) (i := i) (by rw [hs]; exact List.mem_cons_self ..)
 rw [grp_no (by omega), topAt, topAt, stk_pop h, hs, stk_suf (l := []) hs]; rfl
theorem grp_step {ops : List Op} (i a : Nat) : (if a < i + 1 then grpM ops a else 0) = if a = i then grpM ops i else if a < i then grpM ops a else 0 := by
 by_cases e : a = i
 ·rw [if_pos e, if_pos (by omega), e]
 ·rw [if_neg e]
  by_cases h : a < i
  ·rw [if_pos h, if_pos (by omega)]
  ·rw [if_neg h, if_neg (by omega)]
theorem first_step {ops : List Op} (i a : Nat) : (decide (a < i + 1) && firstM ops a) = if a = i then firstM ops i else (decide (a < i) && firstM ops a) := by
 by_cases e : a = i
 ·rw [if_pos e, decide_eq_true (show a < i + 1 by omega), e]; rfl
 ·rw [if_neg e]
  by_cases h : a < i
  ·rw [decide_eq_true h, decide_eq_true (show a < i + 1 by omega)]
  ·rw [decide_eq_false h, decide_eq_false (show ¬ a < i + 1 by omega)]
theorem kidw {ops : List Op} {i : Nat} {g : Int} (h : i ≤ 4096) : IntKind.i64.wrap ((kidsTo ops i g : Int) + 1) = (kidsTo ops i g : Int) + 1 := w64' (by have := kidsTo_le ops g i; omega) (by have := kidsTo_le ops g i; omega)
theorem look_no (s : Script) (hs : ScriptLen s) (he : (opsM s).1 ≠ 0) : Pure Sg 49 [ag (scriptE s)] (fun x => x = .tup [.c (.p (.val (.pointer none))), B false]) := by
 have h1 := vops_spec s hs
 refine fn_a Tryz.func49 [.tmp 2, .tmp 3] ?_
 repeat' (first | with_reducible exact tr_a | refine un_a ?_ | ((first | refine st_a (fun K hK => ?_) | refine call_c (h1) ?_); and_intros; (all_goals first | (refine hK _ ?_; clear hK K) | exact auto_cl | skip)) | (refine if_a (fun hb => ?_) (fun hb => ?_); all_goals try exact bad_a) | (refine ret_a ?_; (try clear hB KB); (try clear hK K)))
def lookF (s : Script) (j : Nat) : PV := (scriptE s ++ [PU (maxOf s.bits), natsF s.ops.length (endsM s.ops), .lst 1 s.ops.length (fun a _ => PI (if a < s.ops.length then grpM s.ops a else 0)), .lst 1 s.ops.length (fun a _ => PI (kidsTo s.ops s.ops.length a)), .lst 1 s.ops.length (fun a _ => PB (decide (a < s.ops.length) && firstM s.ops a))]).getD j .any
theorem look_fin (s : Script) (j : Nat) (hj : j < 15) : PV.le (lookF s j) (viewF s j) := by
 have hv : j < 12 ∨ j = 12 ∨ j = 13 ∨ j = 14 := by omega
 rcases hv with h | rfl | rfl | rfl
 ·skip
  have hivl : j = 0 ∨ j = 1 ∨ j = 2 ∨ j = 3 ∨ j = 4 ∨ j = 5 ∨ j = 6 ∨ j = 7 ∨ j = 8 ∨ j = 9 ∨ j = 10 ∨ j = 11 := by omega
  rcases hivl with rfl | rfl | rfl | rfl | rfl | rfl | rfl | rfl | rfl | rfl | rfl | rfl <;> exact fun _ _ _ h => h
 ·show PV.le (.lst 1 s.ops.length (fun a _ => PI (if a < s.ops.length then grpM s.ops a else 0))) (.lst 1 s.ops.length (fun a _ => PI (grpM s.ops a)))
  exact lst_leE (fun a ha k hk => pi_le (if_pos ha))
 ·exact fun _ _ _ h => h
 ·show PV.le (.lst 1 s.ops.length (fun a _ => PB (decide (a < s.ops.length) && firstM s.ops a))) (.lst 1 s.ops.length (fun a _ => PB (firstM s.ops a)))
  exact lst_leE (fun a ha k hk => pb_le (by rw [decide_eq_true ha]; rfl))
end Go.Proofs.YtlblgkelhibdoaaGreatDoor
