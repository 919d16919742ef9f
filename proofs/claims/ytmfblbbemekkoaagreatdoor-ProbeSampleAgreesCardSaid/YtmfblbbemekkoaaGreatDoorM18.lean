/- Part of the proof: U5. -/
import Derived.Test.YtmfblbbemekkoaaGreatDoorM11
set_option linter.unusedSimpArgs false
set_option linter.unusedVariables false
set_option maxHeartbeats 2000000
set_option maxRecDepth 16000
namespace Go.Proofs.YtmfblbbemekkoaaGreatDoor
open Go Go.SL
open Go.RowKit (wrap64)
def jt (x:Ex):List PV:=[.val (.int .u64 (x.p / 18446744073709551616)), .val (.int .u64 (x.p % 18446744073709551616)), .val (.int .u64 x.q), .val (.int .u64 x.r), .val (.int .u64 x.d)]
attribute [local go_sem] qE jt
structure ExS (x:Ex):Prop where
 p0:0≤x.p
 p1:x.p<79228162514264337593543950336
 q0:0≤x.q
 q1:x.q<140737488355328
 r0:0≤x.r
 r1:x.r<8589934592
 d0:0≤x.d
 d1:x.d<18446744073709551616
theorem qF {x:Ex} (h:ExS x):0≤x.q * x.q∧x.q * x.q<340282366920938463463374607431768211456∧0≤x.q * x.q * x.r∧x.q * x.q * x.r<340282366920938463463374607431768211456:=by
 obtain ⟨p0,p1,q0,q1,r0,r1,d0,d1⟩:=h
 have h1:0≤x.q * x.q:=ar q0 q0
 have h2:x.q * x.q≤140737488355327 * 140737488355327:=ay (by omega) (by omega) q0 (by omega)
 have h3:x.q * x.q * x.r≤140737488355327 * 140737488355327 * 8589934591:=ay h2 (by omega) r0 (by omega)
 exact ⟨h1,by omega,ar h1 r0,by omega⟩
def lj (x:Ex) (n:Int):Int:=if n / 18446744073709551616>0 then -1 else gY (x.q * x.q * x.r) (n % 18446744073709551616 * (n % 18446744073709551616))
theorem Cm (x:Ex) (n:Int) (h:ExS x) (hn:Q128 n):aC Sg 251 [ag (jt x),ag (qE n)] (fun r=>r = .b (I (lj x n))):=by
 have hs:=qF h
 have q64:Q64 x.q:=⟨h.q0,by have:=h.q1;omega⟩
 have r64:Q64 x.r:=⟨h.r0,by have:=h.r1;omega⟩
 have hn2:=(pK hn).2
 have h1:=th x.q x.q q64 q64
 have h2:=mD (x.q * x.q) x.r hs.1 r64 hs.2.2.2
 have h3:=th (n % 18446744073709551616) (n % 18446744073709551616) hn2 hn2
 have hl:n % 18446744073709551616 * (n % 18446744073709551616)≤18446744073709551615 * 18446744073709551615:=ay (by omega) (by omega) (by omega) (by omega)
 have h4:=nN (x.q * x.q * x.r) (n % 18446744073709551616 * (n % 18446744073709551616)) ⟨hs.2.2.1,hs.2.2.2⟩ ⟨ar hn2.l hn2.l,by omega⟩
 refine aA Tryz.func251 [.tmp 4] ?_
 repeat' (first|refine an ?_|(refine ai (fun K hK => ?_);and_intros;(all_goals first|(refine hK _ ?_;clear hK K)|exact aa|skip))|(refine aW (fun hb => ?_) (fun hb => ?_);all_goals try exact aG)|(refine ak ?_;(try clear hB KB);(try clear hK K)))
 ·rw [lj,if_pos hb]
 refine dN (id:=3) (.br 0 (.br 1 (.br 2 (.br 3 (.br 4 (.br 5 (.br 6 (.br 7 (.br 8 (.br 9 (.br 10 (.br 11 (.br 12 (.br 13 .leaf .nil) .nil) .nil) .nil) .nil) .nil) .nil) .nil) .nil) .nil) .nil) .nil) .nil) .nil) (by decide +kernel) (by (first|(refine And.intro (fun iw hiw => ?_) ?_;(focus ((try simp (maxSteps:=999999)(disch:=omega) only [go_sem] at hiw ⊢);(repeat (refine Eq.trans (if_neg ?_) ?_;(focus omega)));exact hw iw (by omega)));(focus (first|exact Nat.zero_le _|(simp (maxSteps:=999999)(disch:=omega) only [go_sem];done)|(simp (maxSteps:=999999)(disch:=omega) only [go_sem];omega))))|exact cR)) (fun K0 hW => ?_)
 refine (fun (tl:∀ st,Le st (aQ [(3, .b (.c (.ptr 1 0))),(5, .b (.c (.ptr 2 0)))] [(1, .fix ((qE n).map CV.p)),(2, .fix ((qE (x.q * x.q * x.r)).map CV.p))] 3)→K0 st) => ?_) (fun st hl=>hW st _ hl ?_)
 ·clear hW
  repeat' (first|exact ba|(refine bq (fun K' hK' => ?_) ?_)|(refine aV (tl _ ?_);clear tl)|((first|refine ae (h1) ?_|refine ae (h2) ?_);(try simp (maxSteps:=999999)(disch:=omega) only [go_sem]);and_intros;(all_goals first|(refine hK' _ ?_;clear hK' K')|trivial|omega|exact Nat.le_of_ble_eq_true rfl|exact aa|skip))|(simp (maxSteps:=999999)(disch:=omega) only [go_sem];and_intros;(all_goals first|(refine hK' _ ?_;clear hK' K')|trivial|omega|exact Nat.le_of_ble_eq_true rfl|exact aa|skip)))
  all_goals
   refine az [(1,some 1),(2,some 2)] ?_ ?_
   and_intros
   all_goals first|exact ao|skip
 clear hW
 repeat' (first|((first|refine ai (fun K hK => ?_)|refine ae (h3) ?_|refine ae (h4) ?_);and_intros;(all_goals first|(refine hK _ ?_;clear hK K)|exact aa|skip))|(refine ak ?_;(try clear hB KB);(try clear hK K)))
 rw [lj,if_neg (by omega)]
theorem xb {x:Ex} {n:Int} (h:ExS x) (hn:0≤n):(0≤lj x n)↔n * n≤x.q * x.q * x.r:=by
 have hs:=qF h
 unfold lj
 split
 ·rename_i q
  have:18446744073709551616 * 18446744073709551616≤n * n:=ay (by omega) (by omega) (by omega) (by omega)
  omega
 ·rename_i q
  rw [show n % 18446744073709551616=n by omega]
  unfold gY
  split
  ·omega
  ·split <;> omega
def iu (x:Ex) (t:Bool) (n:Int):Int :=
 if n * x.d<(if t=true then 2 * x.p else x.p) then 1 else lj { x with q:=if t=true then 2 * x.q else x.q } (n * x.d - (if t=true then 2 * x.p else x.p))
theorem uA {x:Ex} {n:Int} {t:Bool} (h:ExOk x) (hn:0≤n):(0≤iu x t n)↔nD x (if t=true then 2 else 1) n=true:=by
 obtain ⟨p0,p1,q0,q1,r0,r1,d0,d1,_⟩:=h
 unfold iu nD
 rw [decide_eq_true_eq]
 cases t
 ·simp only [Bool.false_eq_true,if_false,Int.one_mul]
  split
  ·omega
  ·rename_i q
   rw [xb (x := { x with q:=x.q }) ⟨p0,p1,q0,by first|omega|(dsimp only;omega),r0,r1,by first|omega|(dsimp only;omega),d1⟩ (by omega)]
   constructor
   ·exact fun q => .inr q
   ·rintro (q|q)
    ·have:n * x.d - x.p=0:=by omega
     rw [this];exact ar (ar q0 q0) r0
    ·exact q
 ·simp only [if_true]
  split
  ·omega
  ·rename_i q
   rw [xb (x := { x with q:=2 * x.q }) ⟨p0,p1,by first|omega|(dsimp only;omega),by first|omega|(dsimp only;omega),r0,r1,by first|omega|(dsimp only;omega),d1⟩ (by omega)]
   constructor
   ·exact fun q => .inr q
   ·rintro (q|q)
    ·have:n * x.d - 2 * x.p=0:=by omega
     rw [this];exact ar (ar (by first|omega|(dsimp only;omega)) (by first|omega|(dsimp only;omega))) r0
    ·exact q
theorem tz (x:Ex) (t:Bool) (n:Int) (h:ExOk x) (hn:Q64 n):aC Sg 238 [ag (jt x),B t,bQ n] (fun r=>r = .b (I (iu x t n))):=by
 obtain ⟨p0,p1,q0,q1,r0,r1,d0,d1,_⟩:=h
 have d64:Q64 x.d:=⟨by omega,d1⟩
 have h1:=th n x.d hn d64
 have hr:n * x.d≤18446744073709551615 * 18446744073709551615:=ay (by have:=hn.u;omega) (by omega) (by omega) (by omega)
 have hr0:=ar hn.l d64.l
 have h2:=lK x.p x.p p0 p0 (by omega)
 have q1:Q128 (n * x.d):=⟨hr0,by omega⟩
 have q2:Q128 x.p:=⟨p0,by omega⟩
 have q3:Q128 (x.p+x.p):=⟨by omega,by omega⟩
 have s1:iu x true n=if n * x.d<x.p+x.p then 1 else lj { x with q:=2 * x.q } (n * x.d - (x.p+x.p)):=by
  simp only [iu,if_true,Int.two_mul]
 have s2:iu x false n=if n * x.d<x.p then 1 else lj x (n * x.d - x.p):=rfl
 have ht:True:=trivial
 have hr2:x.p+x.p≤n * x.d→aC Sg 251 [ag (jt { x with q:=2 * x.q }),ag (qE (n * x.d - (x.p+x.p)))] (fun r=>r = .b (I (lj { x with q:=2 * x.q } (n * x.d - (x.p+x.p))))):=fun q =>
  Cm { x with q:=2 * x.q } (n * x.d - (x.p+x.p)) ⟨p0,p1,by dsimp only;omega,by dsimp only;omega,r0,r1,by dsimp only;omega,d1⟩ ⟨by omega,by omega⟩
 refine aA Tryz.func238 [.tmp 6] ?_
 repeat' ((first|refine ai (fun K hK => ?_)|refine ae (h1) ?_);and_intros;(all_goals first|(refine hK _ ?_;clear hK K)|exact aa|skip))
 refine dN (id:=2) (.br 0 (.br 1 (.br 2 (.br 3 (.br 4 (.br 5 (.br 6 .leaf .nil) .nil) .nil) (.br 4 (.br 3 (.br 5 (.br 6 .leaf .nil) .nil) .nil) .nil)) (.br 3 (.br 2 (.br 4 (.br 5 (.br 6 .leaf .nil) .nil) .nil) (.br 4 (.br 2 (.br 5 (.br 6 .leaf .nil) .nil) (.br 5 (.br 2 (.br 6 .leaf .nil) .nil) .nil)) .nil)) (.br 4 (.br 2 (.br 3 (.br 5 (.br 6 .leaf .nil) .nil) .nil) (.br 3 (.br 2 (.br 5 (.br 6 .leaf .nil) .nil) (.br 5 (.br 2 (.br 6 .leaf .nil) .nil) .nil)) .nil)) .nil))) .nil) .nil) (by decide +kernel) (by (first|(refine And.intro (fun iw hiw => ?_) ?_;(focus ((try simp (maxSteps:=999999)(disch:=omega) only [go_sem] at hiw ⊢);(repeat (refine Eq.trans (if_neg ?_) ?_;(focus omega)));exact hw iw (by omega)));(focus (first|exact Nat.zero_le _|(simp (maxSteps:=999999)(disch:=omega) only [go_sem];done)|(simp (maxSteps:=999999)(disch:=omega) only [go_sem];omega))))|exact cR)) (fun K0 hW => ?_)
 refine (fun (tl:∀ st,(Le st (aQ [(1, .b (B t)),(7, .b (.c (.ptr 1 0))),(8, .b (.c (.ptr 2 0))),(9, .b (.c (.ptr 3 0)))] [(1, .fix ((qE (n * x.d)).map CV.p)),(2, .fix ((qE x.p).map CV.p)),(3, .fix ((jt x).map CV.p))] 4)∨Le st (aQ [(1, .b (B t)),(7, .b (.c (.ptr 1 0))),(8, .b (.c (.ptr 3 0))),(9, .b (.c (.ptr 2 0)))] [(1, .fix ((qE (n * x.d)).map CV.p)),(3, .fix ((qE x.p).map CV.p)),(2, .fix ((jt x).map CV.p))] 4))→K0 st) => ?_) (fun st hl=>hl.elim (fun hl=>hW st _ hl ?_) (fun hl=>hW st _ hl ?_))
 ·clear hW
  repeat' (first|exact ba|(refine bq (fun K' hK' => ?_) ?_)|(refine aV (tl _ ?_);clear tl)|(simp (maxSteps:=999999)(disch:=omega) only [go_sem];and_intros;(all_goals first|(refine hK' _ ?_;clear hK' K')|trivial|omega|exact Nat.le_of_ble_eq_true rfl|exact aa|skip)))
  all_goals first|(refine Or.inl ?_;refine az [(1,some 1),(2,some 2),(3,some 3)] ?_ ?_ <;> and_intros <;> exact ao)|(refine Or.inr ?_;refine az [(1,some 1),(2,some 2),(3,some 3)] ?_ ?_ <;> and_intros <;> exact ao)
 all_goals
  clear hW
  rename_i hl'
  clear hl hl' K0
  cases t
  ·rw [s2]
   by_cases hc:n * x.d<x.p
   ·repeat' (first|refine aj ht ?_|refine an ?_|((first|refine ai (fun K hK => ?_)|refine ae (FB _ _ q1 q2 hc) ?_);and_intros;(all_goals first|(refine hK _ ?_;clear hK K)|exact aa|skip))|(refine ak ?_;(try clear hB KB);(try clear hK K)))
    rw [if_pos hc]
   ·repeat' (first|refine aj ht ?_|refine an ?_|((first|refine ai (fun K hK => ?_)|refine ae (xQ _ _ q1 q2 (by omega)) ?_|refine ae (Cm x (n * x.d - x.p) ⟨p0,p1,q0,by omega,r0,r1,by omega,d1⟩ ⟨by omega,by omega⟩) ?_);and_intros;(all_goals first|(refine hK _ ?_;clear hK K)|exact aa|skip))|(refine ak ?_;(try clear hB KB);(try clear hK K)))
    rw [if_neg hc]
  ·rw [s1]
   by_cases hc:n * x.d<x.p+x.p
   ·repeat' (first|refine aj ht ?_|refine an ?_|((first|refine ai (fun K hK => ?_)|refine ae (h2) ?_|refine ae (FB _ _ q1 q3 hc) ?_);and_intros;(all_goals first|(refine hK _ ?_;clear hK K)|exact aa|skip))|(refine ak ?_;(try clear hB KB);(try clear hK K)))
    rw [if_pos hc]
   ·repeat' (first|refine aj ht ?_|refine an ?_|((first|refine ai (fun K hK => ?_)|refine ae (h2) ?_|refine ae (xQ _ _ q1 q3 (by omega)) ?_|refine ae (hr2 (by omega)) ?_);and_intros;(all_goals first|(refine hK _ ?_;clear hK K)|exact aa|skip))|(refine ak ?_;(try clear hB KB);(try clear hK K)))
    rw [if_neg hc]
end Go.Proofs.YtmfblbbemekkoaaGreatDoor
