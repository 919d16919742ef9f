/- Part of the proof: RI. -/
import Derived.Test.YtdjmpacladhijaaGreatDoorM28
import Derived.Test.YtdjmpacladhijaaGreatDoorM37
set_option linter.unusedSimpArgs false
set_option linter.unusedVariables false
set_option maxHeartbeats 8000000
set_option maxRecDepth 16000
namespace Go.Proofs.YtdjmpacladhijaaGreatDoor
open Go Go.SL
open Go.RowKit (wrap64)
attribute [local go_sem] Nat.add_zero nK Int.toNat_natCast dQ
theorem VA {st : St} {l : List (Nat × SV)} {q n0 T sz : Nat} {cs : List CV} {f : Nat → Nat → PV} {base : Nat → Option Bx} {kf : Nat → SV} (hkf : st.kf = kf) (hkl : ∀ s, (kf s).lt n0) (h0 : 0 < n0) (hqn : n0 ≤ q) (hsz : 0 < sz)
  (hcs:∀ c ∈ cs,CV.lt 0 c) (h1:st.bx q=some (.fix (cs ++ [.p (.val (.slice none 0 0))])))
  (hoth:∀ i x,base i=some x→i<n0∧x.lt n0∧st.bx i=some x) (hfr:qV (rG n0 [(n0,some q),(n0+1,none)]) st (Gu n0 (n0+1) cs 0 T sz 0 f base) (n0+2) l):Le st (wD l (Gu n0 (n0+1) cs 0 T sz 0 f base) (n0+2) kf):=by
 have hr0:rG n0 [(n0,some q),(n0+1,none)] n0=some q:=by rw [mY (Nat.le_refl _),fh,if_pos rfl]
 have hr1:rG n0 [(n0,some q),(n0+1,none)] (n0+1)=none:=by rw [mY (Nat.le_succ _),fh,if_neg (by omega),fh,if_pos rfl]
 refine Il n0 [(n0,some q),(n0+1,none)] [n0,n0+1] hkf hkl (by omega) h0 hfr (fun i hi hn => ?_) (fun i hi k hk => ?_) (fun i j k hi hj hki hkj => ?_) (fun i x hx => ?_)
 ·by_cases e:i=n0
  ·rw [e];exact List.mem_cons_self ..
  ·by_cases e2:i=n0+1
   ·rw [e2];exact List.mem_cons_of_mem _ (List.mem_cons_self ..)
   ·rw [Hf e e2] at hi;cases hx:base i with
    | none=>exact absurd hx hi
    | some x=>have:=(hoth i x hx).1;omega
 ·simp only [List.mem_cons,List.not_mem_nil,or_false] at hi;rcases hi with rfl|rfl
  ·rw [fh,if_pos rfl] at hk;cases hk;exact hqn
  ·rw [fh,if_neg (by omega),fh,if_pos rfl] at hk;cases hk
 ·simp only [List.mem_cons,List.not_mem_nil,or_false] at hi hj;rcases hi with rfl|rfl <;> rcases hj with rfl|rfl
  ·rfl
  ·rw [fh,if_neg (by omega),fh,if_pos rfl] at hkj;cases hkj
  ·rw [fh,if_neg (by omega),fh,if_pos rfl] at hki;cases hki
  ·rfl
 ·by_cases e1:i=n0
  ·subst e1;rw [UW] at hx;cases hx;refine .inr ⟨?_,by omega,fun c hc => ?_⟩
   ·unfold iE;rw [hr0];exact ⟨_,h1,EH (BQ (n:=0) (fun id hid=>absurd hid (Nat.not_lt_zero _)) hcs) ⟨⟨rfl,rfl,hr1⟩,trivial⟩⟩
   ·rcases List.mem_append.1 hc with q|q
    ·exact CV.lt_mono (Nat.zero_le _) (hcs c q)
    ·rw [List.mem_singleton.1 q];exact Nat.lt_succ_self _
  by_cases e2:i=n0+1
  ·subst e2;rw [Uv (by omega)] at hx;cases hx;refine .inr ⟨?_,by omega,trivial⟩;unfold iE;rw [hr1];exact ⟨_,_,_,rfl,hsz⟩
  ·rw [Hf e1 e2] at hx;obtain ⟨p1,p2,p3⟩:=hoth i x hx;exact .inl ⟨p1,p3,p2⟩
theorem Jw (bx : Nat → Option Bx) (nx : Nat) (s : Script) (V : VOps s) (h0 : 0 < nx) :
  lj Sg bx nx 57 [ag (ay s)] (.b (.c (.ptr nx 0))) (Gu nx (nx+1) (CF s (aN s.bits) (fL s.ops.length (aE s.ops))) 0 221 14 0 (fun _ _ => .any) bx) (nx+2):=by
 have ht:True:=trivial;have h1:aB Sg 80 [I s.bits] (fun x=>x = .tup [U (aN s.bits),B (decide (s.bits=8∨s.bits=16))]):=gR s.bits;have h2:=qT s V;refine vM Tryz.func57 rfl (rs:=[.tmp 2]) rfl rfl dI (by decide +kernel) (Nat.le_of_ble_eq_true rfl) ?_ (fun kf hkf hbl => ?_)
 ·intro v hv;simp only [List.mem_cons,List.not_mem_nil,or_false] at hv;rcases hv with rfl
  ·exact fun c hc=>by (obtain ⟨x,_,rfl⟩:=List.mem_map.1 hc;trivial)
 have hw':∀ i,nx≤i→bx i=none:=fun i hi=>by
  cases h:bx i with
  | none=>rfl
  | some y=>exact absurd (hbl i y h).1 (by omega)
 repeat' (first|refine an (fun K hK => ?_)|refine aa (h1) ?_|refine aa (h2) ?_|refine aw ?_|(refine aq hK ?_;try clear hK K))
 refine ⟨_,VA (l:=[(2, .b (.c (.ptr nx 0)))]) (q:=nx+1) (T:=221) (sz:=14) (cs:=CF s (aN s.bits) (fL s.ops.length (aE s.ops))) (f:=fun _ _ => .any) (base:=bx) rfl hkf h0 (Nat.le_succ _) (by decide) qu ?h1 (fun i x hx => ?h2) ?h3,⟨trivial,trivial⟩,rfl,fun i y h=>h,rfl,rfl,Nat.lt_succ_of_lt (Nat.lt_succ_self _)⟩
 case h1=>exact qS
 case h2 =>
  obtain ⟨q1,q2⟩:=hbl i x hx;refine ⟨q1,q2, ?_⟩;refine bV ?_;first|exact hx|exact (if_neg (by omega)).trans hx
 case h3=>simp (maxSteps:=999999)(disch:=omega) only [go_sem]
theorem EU {st : St} {K : SV → St → Prop} {q : Prop} (s : Script) (V : VOps s) (hk : q) (h0 : 0 < st.nx := by (first | (simp (maxSteps := 1000000) (disch := omega) only [go_sem]; done) | (simp (maxSteps := 1000000) (disch := omega) only [go_sem]; omega) | omega | fail))
  (hwf:∀ i,st.nx≤i→st.bx i=none:=by (first|(intro iw hiw;(try simp (maxSteps:=999999)(disch:=omega) only [go_sem] at hiw ⊢);(repeat (refine Eq.trans (if_neg ?_) ?_;(focus omega)));(first|rfl|(apply_assumption;omega)))|fail))
  (wk:q→K (.b (.c (.ptr st.nx 0))) (st.turn (aJ st.nx (.fix (nK s (aN s.bits) (fL s.ops.length (aE s.ops)) (.own (st.nx+1) 0))) (aJ (st.nx+1) (.arr 221 14 0 fun _ _ => .any) st.bx)) (st.nx+2)):=by (first|(intro h;first|(simp (maxSteps:=999999)(disch:=omega) only [go_sem];exact h)|exact h)|fail)) :
  dY Sg st 57 [ag (ay s)] (Sl.of K):=by
 refine dS (Jw st.bx st.nx s V h0) rfl (fun i hi => ?_) (by omega) (wk hk);unfold Gu aJ;rw [if_neg (by omega),if_neg (by omega)];exact hwf i (by omega)
end Go.Proofs.YtdjmpacladhijaaGreatDoor
