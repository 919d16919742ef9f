/- Part 1 of the proof: SlL, SlM, SlP, SlN, SlO, SlQ, SlR, SlS, SlT, SlU, SlV, SlW. -/
import Derived.Test.YtbpplplnkgmhlaaGreatDoorM0
/- SL, part L: from the weakest precondition to a contract. -/
set_option linter.unusedSimpArgs false
namespace Go.SL
open Go

section
variable {S : Env}

def frOf : List (Nat × SV) → Nat → SV
  | [], _ => .any
  | (k, v) :: r, s => if s = k then v else frOf r s
def bxOf : List (Nat × Bx) → Nat → Option Bx
  | [], _ => none
  | (k, x) :: r, i => if i = k then some x else bxOf r i

def frArgs : List BV → Nat → Nat → SV
  | [], _, _ => .any
  | x :: r, k, s => if s = k then .b x else frArgs r (k + 1) s
def st0 (args : List BV) : St := { fr := frArgs args 0, bx := fun _ => none, nx := 0 }
def st1 (cs : List PV) (args : List BV) : St :=
  { fr := fun s => if s = 0 then .b (.c (.ptr 0 0)) else frArgs args 1 s, bx := fun i => if i = 0 then some (.fix (cs.map CV.p)) else none, nx := 1 }

def resP (S : Env) (st : St) : ResultVar → Option (Prop × BV)
  | .tmp t => match st.fr t with
    | .b x => some (True, lendB st.bx x)
    | _ => none
  | .cell p t => match roLoad S t st.bx (st.fr p) with
    | some (vc, .b x) => some (vc, lendB st.bx x)
    | _ => none
def resAll (S : Env) (st : St) : List ResultVar → Option (Prop × List BV)
  | [] => some (True, [])
  | r :: l => match resP S st r, resAll S st l with
    | some (p, x), some (q, xs) => some (p ∧ q, x :: xs)
    | _, _ => none
def retP (S : Env) (rs : List ResultVar) (R : SV → Prop) (st : St) : Prop :=
  match resAll S st rs with
  | some (p, [x]) => p ∧ x.lt 0 ∧ R (.b x)
  | some (p, xs) => p ∧ (∀ x ∈ xs, BV.lt 0 x) ∧ R (.tup xs)
  | none => False
def retQ (S : Env) (rs : List ResultVar) (R : SV → Prop) : AExit → St → Prop
  | .ret, st => retP S rs R st
  | .normal, st => retP S rs R st
  | _, _ => False
def recP (S : Env) (rs : List ResultVar) (R : SV → List PV → Prop) (st : St) : Prop :=
  ∃ ps : List PV, st.bx 0 = some (.fix (ps.map CV.p)) ∧ retP S rs (fun r => R r ps) st
def recQ (S : Env) (rs : List ResultVar) (R : SV → List PV → Prop) : AExit → St → Prop
  | .ret, st => recP S rs R st
  | .normal, st => recP S rs R st
  | _, _ => False

variable {E : Ent} {st : St} {ρ : Rho} {a : Act} {w : World}

theorem lendC_out {x : CV} {u : Value} {ok : Nat → Prop} (g : Gam S E st ρ a w) (hok : ∀ b, okA E st.bx ρ w b → ok b) (hnew : ∀ b, b < w.heap.size → E.w0.heap.size ≤ b → ok b)
    (h : DenC ρ (okA E st.bx ρ w) w x u) : DenC ρ ok w (lendC st.bx x) u := by
  have hk : Keep (okA E st.bx ρ w) ok w w := fun b hb => ⟨hok b hb, fun _ => rfl⟩
  have gen : DenC ρ ok w x u := by
    cases x with
    | p x => exact DenP.mono hk h
    | ptr id off => exact h
    | pel id sz i off => exact h
    | own id n => exact h
    | ipt sz g off => exact DenC.mono (nx := 0) hk (fun _ _ => rfl) trivial h
    | clo f ps => exact h
  unfold lendC
  split
  · rename_i id n
    split
    · rename_i e sz n' f hb
      split
      · rename_i hn
        obtain ⟨A, m, c, hr, h1, h2, h3, hu⟩ := h
        obtain ⟨h0, xs, hown, hone, hd⟩ := g.bxs id _ hb
        refine ⟨A, c, hu, by omega, fun hpos => ?_⟩
        rcases hown.2 with ⟨e1, e2⟩ | ⟨gb, cap, cur, hv, _, hh, hnc, _, hcs, htk⟩
        · omega
        · rw [hr] at hv
          simp only [Value.slice.injEq] at hv
          obtain ⟨rfl, rfl, rfl⟩ := hv
          have hgb : blk (ρ id) = some gb := by rw [hr]; rfl
          have hge : E.w0.heap.size ≤ gb := by
            rcases (g.new id _ gb hb hgb).2 with h | ⟨_, _, _, h, _⟩
            · exact h
            · cases h
          refine ⟨gb, 0, rfl, hnew gb (lt_of_some hh) hge, fun i hi j hj => ?_⟩
          have hlt : i * sz + j < m * sz := idx_lt (by omega) hj
          have hlt2 : i * sz + j < cur.size := by rw [hcs]; exact Nat.lt_of_lt_of_le hlt (Nat.mul_le_mul_right _ hnc)
          have hlx : i * sz + j < xs.length := by rw [hown.1]; exact hlt
          have hxe : xs.getD (i * sz + j) undef = cur.getD (i * sz + j) undef := by
            rw [← htk]; simp [List.getElem?_take, hlt]
          refine ⟨cur.getD (i * sz + j) undef, by rw [Nat.zero_add]; exact cell_of_heap hh hlt2, ?_, ?_⟩
          · rw [← hxe, List.getD_eq_getElem?_getD, List.getElem?_eq_getElem hlx]
            exact hone _ (List.getElem_mem hlx)
          · rw [← hxe]
            exact DenP.mono hk (hd i (by omega) j hj)
      · exact gen
    · exact gen
  · exact gen

theorem lendB_out {x : BV} {u : Value} {ok : Nat → Prop} (g : Gam S E st ρ a w) (hok : ∀ b, okA E st.bx ρ w b → ok b) (hnew : ∀ b, b < w.heap.size → E.w0.heap.size ≤ b → ok b)
    (h : DenB ρ (okA E st.bx ρ w) w x u) : DenB ρ ok w (lendB st.bx x) u := by
  cases x with
  | c x => exact lendC_out g hok hnew h
  | agg cs =>
    obtain ⟨us, rfl, hs, h1, hd⟩ := h
    refine ⟨us, rfl, by simp [hs], h1, fun j => ?_⟩
    by_cases hj : j < cs.length
    · have e : (cs.map (lendC st.bx)).getD j .any = lendC st.bx (cs.getD j .any) := by simp [List.getD_eq_getElem?_getD, hj]
      rw [e]
      exact lendC_out g hok hnew (hd j)
    · rw [List.getD_eq_getElem?_getD, List.getElem?_eq_none (by simp; omega)]; trivial

def rvSem (tmps : Array Value) : ResultVar → Sem Value
  | .tmp t => pure (tmps.getD t undef)
  | .cell a t => do loadVar t (← asAddr (tmps.getD a undef))
def runRes (P : Program) (tmps : Array Value) (w : World) (r : ResultVar) (v : Value) : Prop := (rvSem tmps r).run P w = .ok v w

theorem resP_den {r : ResultVar} {p : Prop} {x : BV} {ok : Nat → Prop} (h : resP S st r = some (p, x)) (hp : p) (g : Gam S E st ρ a w) (hok : ∀ b, okA E st.bx ρ w b → ok b)
    (hnew : ∀ b, b < w.heap.size → E.w0.heap.size ≤ b → ok b) : ∃ v, runRes S.P a.tmps w r v ∧ DenB ρ ok w x v := by
  unfold resP at h
  split at h
  · rename_i t
    have hs := g.slt t
    split at h
    · rename_i y hy
      rw [hy] at hs
      simp only [Option.some.injEq, Prod.mk.injEq] at h
      obtain ⟨_, rfl⟩ := h
      exact ⟨_, rfl, lendB_out g hok hnew hs⟩
    · simp at h
  · rename_i q t
    split at h
    · rename_i vc y hl
      simp only [Option.some.injEq, Prod.mk.injEq] at h
      obtain ⟨rfl, rfl⟩ := h
      obtain ⟨v, hr, hv, _⟩ := yld_load hl hp g (g.slt q)
      refine ⟨v, ?_, lendB_out g hok hnew hv⟩
      unfold runRes rvSem
      simp only [Instr.loadAt, Sem.run_bind] at hr ⊢
      cases hq : a.tmps.getD q undef <;> simp only [hq, Instr.sureAddr, run_stuck, Result.andThen_halt, reduceCtorEq] at hr
      rename_i ad
      cases ad with
      | none => simp [Instr.sureAddr] at hr
      | some ad => simpa [asAddr, Instr.sureAddr] using hr
    · simp at h

theorem resAll_den {ok : Nat → Prop} (g : Gam S E st ρ a w) (hok : ∀ b, okA E st.bx ρ w b → ok b) (hnew : ∀ b, b < w.heap.size → E.w0.heap.size ≤ b → ok b) : ∀ {rs : List ResultVar} {p : Prop} {xs : List BV},
    resAll S st rs = some (p, xs) → p → ∃ vs : List Value, (rs.mapM (rvSem a.tmps)).run S.P w = .ok vs w ∧ vs.length = xs.length ∧ ∀ j, DenB ρ ok w (xs.getD j .any) (vs.getD j undef)
  | [], p, xs, h, _ => by
    simp only [resAll, Option.some.injEq, Prod.mk.injEq] at h
    obtain ⟨_, rfl⟩ := h
    exact ⟨[], by simp, rfl, fun j => by simp [DenB, DenC, DenP]⟩
  | r :: rs, p, xs, h, hp => by
    simp only [resAll] at h
    split at h
    · rename_i p1 x1 p2 xs2 h1 h2
      simp only [Option.some.injEq, Prod.mk.injEq] at h
      obtain ⟨rfl, rfl⟩ := h
      obtain ⟨v, hv, hd⟩ := resP_den h1 hp.1 g hok hnew
      obtain ⟨vs, hvs, hl, hds⟩ := resAll_den g hok hnew h2 hp.2
      refine ⟨v :: vs, ?_, by simp [hl], fun j => ?_⟩
      · unfold runRes at hv
        rw [List.mapM_cons]
        simp only [Sem.run_bind, hv, Result.andThen_ok, hvs, Sem.run_pure]
      · cases j with
        | zero => exact hd
        | succ j => exact hds j
    · simp at h

theorem run_results {fn : Func} {vs : List Value} (h : (fn.results.toList.mapM (rvSem a.tmps)).run S.P w = .ok vs w) :
    (results fn a.tmps).run S.P w = .ok (match vs with | [v] => v | _ => .tuple vs.toArray) w := by
  have e : results fn a.tmps = (do
      let vs ← fn.results.mapM (rvSem a.tmps)
      pure (if h : vs.size = 1 then vs[0] else .tuple vs)) := by
    unfold results
    congr 2
  rw [e, Sem.run_bind, Array.mapM_eq_mapM_toList]
  simp only [Sem.run_map, h, Result.andThen_ok, Sem.run_pure]
  match vs with
  | [] => rfl
  | [v] => rfl
  | _ :: _ :: _ => rfl

theorem ret_den {rs : List ResultVar} {R : SV → Prop} {fn : Func} {ok : Nat → Prop} (hrs : fn.results.toList = rs) (h : retP S rs R st) (g : Gam S E st ρ a w) (hok : ∀ b, okA E st.bx ρ w b → ok b)
    (hnew : ∀ b, b < w.heap.size → E.w0.heap.size ≤ b → ok b) : ∃ v r, (results fn a.tmps).run S.P w = .ok v w ∧ R r ∧ SV.lt 0 r ∧ DenS noRho ok w r v := by
  unfold retP at h
  have dn : ∀ {x : BV} {u : Value}, x.lt 0 → DenB ρ ok w x u → DenB noRho ok w x u := fun hl hd => den_noRho hl hd
  split at h
  · rename_i p x hr
    obtain ⟨hp, hl, hR⟩ := h
    obtain ⟨vs, hvs, hlen, hd⟩ := resAll_den g hok hnew hr hp
    match vs, hlen with
    | [v], _ => exact ⟨v, .b x, run_results (by rw [hrs]; exact hvs), hR, hl, dn hl (hd 0)⟩
  · rename_i p xs hne hr
    obtain ⟨hp, hl, hR⟩ := h
    obtain ⟨vs, hvs, hlen, hd⟩ := resAll_den g hok hnew hr hp
    refine ⟨.tuple vs.toArray, .tup xs, ?_, hR, hl, vs.toArray, rfl, by simpa using hlen, fun j => ?_⟩
    · rw [run_results (by rw [hrs]; exact hvs)]
      match vs, hlen with
      | [], _ => rfl
      | [v], hlen =>
        match xs, hlen with
        | [x], _ => exact absurd rfl (hne x)
      | _ :: _ :: _, _ => rfl
    · by_cases hj : j < xs.length
      · have e : vs.toArray.getD j undef = vs.getD j undef := by simp [List.getD_eq_getElem?_getD]
        rw [e]
        refine dn (hl _ ?_) (hd j)
        rw [List.getD_eq_getElem?_getD, List.getElem?_eq_getElem hj]; exact List.getElem_mem hj
      · rw [List.getD_eq_getElem?_getD, List.getElem?_eq_none (by omega)]; trivial
  · exact h.elim

theorem frArgs_spec : ∀ (args : List BV) (k s : Nat), frArgs args k s = if k ≤ s ∧ s < k + args.length then .b (args.getD (s - k) .any) else .any
  | [], k, s => by
    rw [if_neg (by simp only [List.length_nil]; omega)]
    rfl
  | x :: r, k, s => by
    simp only [frArgs, List.length_cons]
    by_cases h : s = k
    · subst h; simp
    · rw [if_neg h, frArgs_spec r (k + 1) s]
      by_cases h2 : k + 1 ≤ s ∧ s < k + 1 + r.length
      · rw [if_pos h2, if_pos (by omega), show s - k = (s - (k + 1)) + 1 by omega]; rfl
      · rw [if_neg h2, if_neg (by omega)]

theorem pure_of {f : FuncId} {fn : Func} {c : Code} {rs : List ResultVar} {args : List BV} {R : SV → Prop} (hf : S.P.funcs[f]? = some fn) (hb : fn.body = some c) (hrs : fn.results.toList = rs) (hname : (fn.name == "runtime.NumGoroutine") = false)
    (hm : S.P.follows .mixedOrders = true) (hN : codeOk fn.ntmps c = true) (hlen : args.length ≤ fn.ntmps) (hl : ∀ x ∈ args, BV.lt 0 x) (h : cw S c (retQ S rs R) (st0 args)) : Pure S f args R := by
  subst hrs
  refine ⟨⟨fn, hf, hname, by rw [hb]; rfl⟩, fun ok w vs hok hgl hsz hden => ?_⟩
  refine calls_of_wp hf hb ?_
  let E : Ent := { w0 := w, ok0 := ok, rx := none, N := fn.ntmps }
  have hokA : ∀ b, ok b → okA E (fun _ => none) noRho w b := fun b hb => ⟨hok b hb, fun _ => hb, fun _ h => absurd rfl h⟩
  have hk : Keep ok (okA E (fun _ => none) noRho w) w w := fun b hb => ⟨hokA b hb, fun _ => rfl⟩
  have g : Gam S E (st0 args) noRho { tmps := vs ++ Array.replicate (fn.ntmps - vs.size) undef, defers := [] } w := by
    refine ⟨rfl, by simp [E]; omega, ⟨rfl, rfl, rfl, Nat.le_refl _, fun _ _ _ => rfl, fun _ _ _ h => (by cases h)⟩, fun s => ?_, fun _ _ h => (by cases h), fun _ _ h => (by cases h), fun _ _ _ h => (by cases h), fun _ _ _ h => absurd rfl h,
      fun _ _ _ h => (by cases h), fun s => ?_, fun gg n f hg => ?_, fun s => ⟨trivial, trivial⟩⟩
    · simp only [st0, frArgs_spec]
      split
      · rename_i hs
        refine hl _ ?_
        rw [List.getD_eq_getElem?_getD, List.getElem?_eq_getElem (by omega)]; exact List.getElem_mem _
      · trivial
    · simp only [st0, frArgs_spec]
      split
      · rename_i hs
        have e : (vs ++ Array.replicate (fn.ntmps - vs.size) undef).getD s undef = vs.getD s undef := by
          have : s < vs.size := by omega
          simp [this]
          rw [Array.getElem?_append_left this]
          simp [this]
        rw [e]
        exact DenB.mono (nx := 0) hk (fun _ _ => rfl) (hl _ (by rw [List.getD_eq_getElem?_getD, List.getElem?_eq_getElem (by omega)]; exact List.getElem_mem _)) (hden (s - 0))
      · trivial
    · obtain ⟨h1, h2⟩ := hgl gg n f hg
      refine ⟨hokA gg h1, fun j hj => ?_⟩
      obtain ⟨x, hx, h3, hd⟩ := h2 j hj
      exact ⟨x, hx, h3, DenP.mono hk hd⟩
  have fin : ∀ {a' : Act} {w' : World}, Nxt S E (retP S fn.results.toList R) a' w' → a'.defers = [] ∧ ∃ v, (results fn a'.tmps).run S.P w' = .ok v w' ∧
      ∃ v2 r, Ending.returned v = .returned v2 ∧ R r ∧ SV.lt 0 r ∧ RowKit.Below w.heap.size w w' ∧ DenS noRho (okR ok w w') w' r v2 := fun {a' w'} ⟨st', ρ', g', hq⟩ => by
    obtain ⟨v, r, h1, h2, h3, h4⟩ := ret_den (ok := okR ok w w') rfl hq g' (fun b hb => ⟨hb.1, hb.2.1⟩) (fun b h1 h2 => ⟨h1, fun h3 => by have : w.heap.size ≤ b := h2; omega⟩)
    exact ⟨g'.dfr, v, h1, v, r, rfl, h2, h3, ⟨g'.frm.os, g'.frm.tape, g'.frm.output, g'.frm.size, fun k hk => g'.frm.block k hk (fun _ _ h => by cases h)⟩, h4⟩
  refine wp_mono (cw_sound hm c hN h g) fun e a' w' hq => ?_
  cases e with
  | normal => exact fin hq
  | ret => exact fin hq
  | exit id => obtain ⟨_, _, _, h⟩ := hq; exact h.elim
  | _ => exact hq.elim

end
end Go.SL

/- SL, part M: rules for use: code step by step, operations as rewriting. -/
namespace Go.SL
open Go

/-! Monotone -/
section
variable {S : Env}

theorem CallP.mono {st : St} {f : FuncId} {args : List BV} {K K' : SV → St → Prop} (hK : ∀ r s, K r s → K' r s) (h : CallP S st f args K) : CallP S st f args K' := by
  cases h with
  | pure args' X h ha hl hk => exact .pure args' X h ha hl (hK _ _ hk)
  | lend args' X h ha hl hf hk hp => exact .lend args' X h ha hl hf (hK _ _ hk) hp
  | recv id off cs0 cs rest args' X Y h he hb hoff hcs ha hl hr hy hk => exact .recv id off cs0 cs rest args' X Y h he hb hoff hcs ha hl hr hy (hK _ _ hk)
  | recvEl id sz i e n g cs rest args' X Y h he hb hi hsz hcs ha hl hr hy hk => exact .recvEl id sz i e n g cs rest args' X Y h he hb hi hsz hcs ha hl hr hy (hK _ _ hk)
  | inl X bx' nx' h hr hw hk hn => exact .inl X bx' nx' h hr hw (hK _ _ hk) hn
  | own args' e sz n g h ha hl hr hk => exact .own args' e sz n g h ha hl hr (hK _ _ hk)

theorem opM_mono {st : St} {ev : Operand → SV} {op : Op} {K K' : SV → St → Prop} (hK : ∀ r s, K r s → K' r s) (h : opM S st ev op K) : opM S st ev op K' := by
  cases op with
  | build t parts =>
    simp only [opM] at *
    split at h
    · split at h
      · exact ⟨h.1, hK _ _ h.2⟩
      · exact h.elim
    · exact h.elim
  | alloc t =>
    simp only [opM] at *
    split at h
    · exact hK _ _ h
    · exact h.elim
  | box t x =>
    simp only [opM] at *
    split at h
    · exact ⟨h.1, hK _ _ h.2⟩
    · exact h.elim
  | buildSlice t len parts =>
    simp only [opM] at *
    split at h
    · split at h
      · split at h
        · exact ⟨h.1, hK _ _ h.2⟩
        · exact h.elim
      · exact h.elim
    · exact h.elim
  | store t p x =>
    simp only [opM] at *
    split at h
    · split at h
      · exact ⟨h.1, hK _ _ h.2⟩
      · exact h.elim
    · split at h
      · exact ⟨h.1, hK _ _ h.2⟩
      · exact h.elim
    · exact h.elim
  | makeSlice t l c =>
    simp only [opM] at *
    split at h
    · split at h
      · exact ⟨h.1, hK _ _ h.2⟩
      · exact h.elim
    · exact h.elim
  | call c =>
    simp only [opM] at *
    split at h
    · split at h
      · split at h
        · exact ⟨h.1, hK _ _ h.2⟩
        · split at h
          · exact ⟨h.1, hK _ _ h.2⟩
          · exact h.elim
        · exact h.elim
      · exact h.elim
    · exact h.mono hK
    · split at h
      · exact CallP.mono hK h
      · exact h.elim
    · exact h.elim
  | _ => exact h

theorem opP_mono {st : St} {o : Oper} {K K' : St → Prop} (hK : ∀ s, K s → K' s) (h : opP S st o K) : opP S st o K' := by
  unfold opP at *
  split at h
  · exact ⟨h.1, hK _ h.2⟩
  · exact ⟨h.1, opM_mono (fun _ _ hk => hK _ hk) h.2⟩

theorem opG_mono {ops : Array Oper} {st : St} {o : Oper} {K K' : St → Prop} (hK : ∀ s, K s → K' s) (h : opG S ops st o K) : opG S ops st o K' := by
  unfold opG at *
  split at h
  · exact opP_mono hK h
  · split at h
    · split at h
      · exact ⟨h.1, h.2.1, hK _ h.2.2⟩
      · exact ⟨h.1, h.2.1, hK _ h.2.2⟩
      · rcases h with h | ⟨x, h1, h2, h3⟩
        · exact .inl ⟨fun ht => opP_mono hK (h.1 ht), fun ht => hK _ (h.2 ht)⟩
        · exact .inr ⟨x, h1, h2, hK _ h3⟩
    · exact h.elim

theorem opsP_mono {ops : Array Oper} {K K' : St → Prop} (hK : ∀ s, K s → K' s) : ∀ {l : List Oper} {st : St}, opsP S ops l st K → opsP S ops l st K'
  | [], _, h => hK _ h
  | _ :: _, _, h => opG_mono (fun _ hk => opsP_mono hK hk) h

theorem anyP_mono {ops : Array Oper} {K K' : St → Prop} (hK : ∀ s, K s → K' s) : ∀ {n : Nat} {listed : Array Bool} {st : St}, anyP S ops n listed st K → anyP S ops n listed st K'
  | 0, _, _, h => ⟨h.1, hK _ h.2⟩
  | n + 1, listed, st, h => by
    refine ⟨fun hr => hK _ (h.1 hr), fun i hi => ?_⟩
    have := h.2 i hi
    split at this
    · exact opG_mono (fun _ hk => anyP_mono hK hk) this
    · exact anyP_mono hK this

theorem Wk.mono {K K' : St → Prop} {st : St} (hK : ∀ s, K s → K' s) (h : Wk K st) : Wk K' st := let ⟨s, hl, hk⟩ := h; ⟨s, hl, hK _ hk⟩

theorem thenQ_mono {n n' : St → Prop} {Q Q' : AExit → St → Prop} (hn : ∀ s, n s → n' s) (hq : ∀ e s, Q e s → Q' e s) : ∀ e s, thenQ n Q e s → thenQ n' Q' e s
  | .normal, s, h => hn s h
  | .exit _, s, h => hq _ s h
  | .ret, s, h => hq _ s h

theorem cw_mono : ∀ (c : Code) {Q Q' : AExit → St → Prop} {st : St}, (∀ e s, Q e s → Q' e s) → cw S c Q st → cw S c Q' st
  | .skip, _, _, _, hq, h => hq _ _ h
  | .label _, _, _, _, hq, h => hq _ _ h
  | .exit _, _, _, _, hq, h => hq _ _ h
  | .ret, _, _, _, hq, h => hq _ _ h
  | .region _ ops draw, _, _, _, hq, h => by
    simp only [cw] at *
    split
    · rename_i hd; rw [if_pos hd] at h; exact anyP_mono (fun s => hq _ s) h
    · rename_i hd; rw [if_neg hd] at h; exact opsP_mono (fun s => hq _ s) h
  | .seq x y, _, _, _, hq, h => cw_mono x (thenQ_mono (fun _ hs => hs.imp (Wk.mono fun _ => cw_mono y hq) (cw_mono y hq)) hq) h
  | .cond c x y, _, _, _, hq, h => by
    simp only [cw] at *
    split at h
    · exact ⟨fun ht => cw_mono x hq (h.1 ht), fun ht => cw_mono y hq (h.2 ht)⟩
    · exact h.elim
  | .block id c, _, _, _, hq, h => cw_mono c (fun e s hs => by
      cases e with
      | exit id' =>
        simp only [blockQ] at *
        split
        · rename_i he; rw [if_pos he] at hs; exact hq _ _ hs
        · rename_i he; rw [if_neg he] at hs; exact hq _ _ hs
      | _ => exact hq _ _ hs) h
  | .loop c, _, _, _, hq, h => by
    obtain ⟨I, n, h0, hr⟩ := h
    exact ⟨I, n, h0, fun n s hI => cw_mono c (thenQ_mono (fun _ hs => hs) hq) (hr n s hI)⟩
  | .rangeFunc .., _, _, _, _, h => h
  | .scope _, _, _, _, _, h => h
  | .goto _, _, _, _, _, h => h
  | .refuse _, _, _, _, _, h => h

/-! Steps through the code -/
variable {st : St} {Q : AExit → St → Prop}

theorem cw_seq {x y : Code} (h : cw S x (thenQ (cw S y Q) Q) st) : cw S (.seq x y) Q st := cw_mono x (thenQ_mono (fun _ hs => .inr hs) (fun _ _ h => h)) h
theorem cw_cut {x y : Code} (M : St → Prop) (h : cw S x (thenQ (Wk M) Q) st) (h2 : ∀ s, M s → cw S y Q s) : cw S (.seq x y) Q st :=
  cw_mono x (thenQ_mono (fun _ hs => .inl (hs.mono h2)) (fun _ _ h => h)) h
theorem cw_skip (h : Q .normal st) : cw S .skip Q st := h
theorem cw_ret (h : Q .ret st) : cw S .ret Q st := h
theorem cw_exit {id : Nat} (h : Q (.exit id) st) : cw S (.exit id) Q st := h
theorem cw_block {id : Nat} {c : Code} (h : cw S c (blockQ id Q) st) : cw S (.block id c) Q st := h
theorem cw_region {id : Nat} {l : List Oper} (h : opsP S l.toArray l st (Q .normal)) : cw S (.region id l.toArray false) Q st := by
  simp only [cw]; exact h
theorem cw_cond {c : Operand} {x y : Code} {t : Bool} (hc : st.ev S c = .t t) (h1 : t = true → cw S x Q st) (h2 : t = false → cw S y Q st) : cw S (.cond c x y) Q st := by
  simp only [cw, hc]; exact ⟨h1, h2⟩
theorem cw_loop {X : Type} {c : Code} (F : X → St) (I : X → Prop) (m : X → Nat) (x0 : X) (h0 : I x0) (hle : Le st (F x0))
    (hr : ∀ x, I x → cw S c (thenQ (Wk fun s => ∃ x', s = F x' ∧ I x' ∧ m x' < m x) Q) (F x)) : cw S (.loop c) Q st := by
  refine ⟨fun n s => ∃ x, s = F x ∧ I x ∧ m x = n, m x0, ⟨F x0, hle, x0, rfl, h0, rfl⟩, fun n s hs => ?_⟩
  obtain ⟨x, rfl, hI, rfl⟩ := hs
  exact cw_mono c (thenQ_mono (fun _ hs => hs.mono fun _ ⟨x', h1, h2, h3⟩ => ⟨m x', h3, x', h1, h2, rfl⟩) (fun _ _ h => h)) (hr x hI)
end
end Go.SL

/- SL, part P: regions whose orders are drawn: where the operations that are not ordered do not meet, the order of the text will do. -/
set_option linter.unusedVariables false
namespace Go.SL
open Go

def Ex (S : Env) (ops : Array Oper) (st : St) (o : Oper) (s' : St) : Prop := opG S ops st o fun s => s = s'

section
variable {S : Env} {ops : Array Oper} {st st2 s' : St} {ev ev2 : Operand → SV} {op : Op} {o : Oper}

theorem callP_ex {f : FuncId} {args : List BV} {K : SV → St → Prop} (h : CallP S st f args K) : ∃ r s', CallP S st f args (fun r0 s0 => r0 = r ∧ s0 = s') ∧ K r s' := by
  cases h with
  | pure args' X h ha hl hk => exact ⟨_, _, .pure args' X h ha hl ⟨rfl, rfl⟩, hk⟩
  | lend args' X h ha hl hf hk hp => exact ⟨_, _, .lend args' X h ha hl hf ⟨rfl, rfl⟩ hp, hk⟩
  | recv id off cs0 cs rest args' X Y h he hb hoff hcs ha hl hr hy hk => exact ⟨_, _, .recv id off cs0 cs rest args' X Y h he hb hoff hcs ha hl hr hy ⟨rfl, rfl⟩, hk⟩
  | recvEl id sz i e n g cs rest args' X Y h he hb hi hsz hcs ha hl hr hy hk => exact ⟨_, _, .recvEl id sz i e n g cs rest args' X Y h he hb hi hsz hcs ha hl hr hy ⟨rfl, rfl⟩, hk⟩
  | inl X bx' nx' h hr hw hk hn => exact ⟨_, _, .inl X bx' nx' h hr hw ⟨rfl, rfl⟩ hn, hk⟩
  | own args' e sz n g h ha hl hr hk => exact ⟨_, _, .own args' e sz n g h ha hl hr ⟨rfl, rfl⟩, hk⟩

theorem opM_ex {K : SV → St → Prop} (h : opM S st ev op K) : ∃ r s', opM S st ev op (fun r0 s0 => r0 = r ∧ s0 = s') ∧ K r s' := by
  cases op with
  | build t parts =>
    simp only [opM] at *
    split at h
    · split at h
      · exact ⟨_, _, ⟨h.1, rfl, rfl⟩, h.2⟩
      · exact h.elim
    · exact h.elim
  | alloc t =>
    simp only [opM] at *
    split at h
    · exact ⟨_, _, ⟨rfl, rfl⟩, h⟩
    · exact h.elim
  | box t x =>
    simp only [opM] at *
    split at h
    · exact ⟨_, _, ⟨h.1, rfl, rfl⟩, h.2⟩
    · exact h.elim
  | buildSlice t len parts =>
    simp only [opM] at *
    split at h
    · split at h
      · split at h
        · exact ⟨_, _, ⟨h.1, rfl, rfl⟩, h.2⟩
        · exact h.elim
      · exact h.elim
    · exact h.elim
  | store t p x =>
    simp only [opM] at *
    split at h
    · split at h
      · exact ⟨_, _, ⟨h.1, rfl, rfl⟩, h.2⟩
      · exact h.elim
    · split at h
      · exact ⟨_, _, ⟨h.1, rfl, rfl⟩, h.2⟩
      · exact h.elim
    · exact h.elim
  | makeSlice t l c =>
    simp only [opM] at *
    split at h
    · split at h
      · exact ⟨_, _, ⟨h.1, rfl, rfl⟩, h.2⟩
      · exact h.elim
    · exact h.elim
  | call c =>
    simp only [opM] at *
    split at h
    · split at h
      · split at h
        · exact ⟨_, _, ⟨h.1, rfl, rfl⟩, h.2⟩
        · split at h
          · exact ⟨_, _, ⟨h.1, rfl, rfl⟩, h.2⟩
          · exact h.elim
        · exact h.elim
      · exact h.elim
    · exact callP_ex h
    · split at h
      · exact callP_ex h
      · exact h.elim
    · exact h.elim
  | _ => exact h.elim

theorem opP_ex {K : St → Prop} (h : opP S st o K) : ∃ s', opP S st o (fun s => s = s') ∧ K s' := by
  unfold opP at *
  split at h
  · exact ⟨_, ⟨h.1, rfl⟩, h.2⟩
  · obtain ⟨r, s', h1, h2⟩ := opM_ex h.2
    exact ⟨_, ⟨h.1, opM_mono (fun r0 s0 ⟨e1, e2⟩ => by rw [e1, e2]) h1⟩, h2⟩

theorem opG_ex {K : St → Prop} (h : opG S ops st o K) : ∃ s', Ex S ops st o s' ∧ K s' := by
  unfold Ex
  unfold opG at *
  split at h
  · exact opP_ex h
  · split at h
    · rename_i g hg
      split at h
      · exact ⟨_, ⟨h.1, h.2.1, rfl⟩, h.2.2⟩
      · exact ⟨_, ⟨h.1, h.2.1, rfl⟩, h.2.2⟩
      · rcases h with h | ⟨x, q1, q2, q3⟩
        · cases g with
          | true =>
            obtain ⟨s', h1, h2⟩ := opP_ex (h.1 rfl)
            exact ⟨s', .inl ⟨fun _ => h1, fun h => by cases h⟩, h2⟩
          | false => exact ⟨_, .inl ⟨fun h => by (cases h), fun _ => rfl⟩, h.2 rfl⟩
        · exact ⟨_, .inr ⟨x, q1, q2, rfl⟩, q3⟩
    · exact h.elim

theorem ex_opG {K : St → Prop} (h : Ex S ops st o s') (hk : K s') : opG S ops st o K := opG_mono (fun s (hs : s = s') => by rw [hs]; exact hk) h

/-! What an operation depends on -/
theorem callP_param {f : FuncId} {args : List BV} {r : SV} (h : CallP S st f args (fun r0 s0 => r0 = r ∧ s0 = s')) :
    ∃ bx' nx', s' = ⟨st.fr, bx', nx', st.kf⟩ ∧ ((S.rcv f || S.rcv (f + 2000000)) = false → bx' = st.bx ∧ nx' = st.nx) ∧ ∀ st2 : St, st2.bx = st.bx → st2.nx = st.nx → CallP S st2 f args (fun r0 s0 => r0 = r ∧ s0 = ⟨st2.fr, bx', nx', st2.kf⟩) := by
  cases h with
  | pure args' X h ha hl hk =>
    obtain ⟨rfl, rfl⟩ := hk
    exact ⟨_, _, rfl, fun _ => ⟨rfl, rfl⟩, fun st2 e1 e2 => .pure args' _ h ha hl ⟨rfl, by rw [← e1, ← e2]⟩⟩
  | lend args' X h ha hl hf hk hp =>
    obtain ⟨rfl, rfl⟩ := hk
    exact ⟨_, _, rfl, fun _ => ⟨rfl, rfl⟩, fun st2 e1 e2 => .lend args' _ h (by rw [e1]; exact ha) hl hf ⟨rfl, by rw [← e1, ← e2]⟩ hp⟩
  | recv id off cs0 cs rest args' X Y h he hb hoff hcs ha hl hr hy hk =>
    obtain ⟨rfl, rfl⟩ := hk
    exact ⟨_, _, rfl, fun h0 => by (simp [hr] at h0), fun st2 e1 e2 => .recv id off cs0 cs rest args' _ Y h he (by rw [e1]; exact hb) hoff hcs ha hl hr hy ⟨rfl, by simp only [St.setBox, e1, e2]⟩⟩
  | recvEl id sz i e n g cs rest args' X Y h he hb hi hsz hcs ha hl hr hy hk =>
    obtain ⟨rfl, rfl⟩ := hk
    exact ⟨_, _, rfl, fun h0 => by (simp [hr] at h0), fun st2 e1 e2 => .recvEl id sz i e n g cs rest args' _ Y h he (by rw [e1]; exact hb) hi hsz hcs ha hl hr hy ⟨rfl, by simp only [St.setBox, e1, e2]⟩⟩
  | inl X bx' nx' h hr hw hk hn =>
    obtain ⟨rfl, rfl⟩ := hk
    exact ⟨_, _, rfl, fun h0 => by (simp [hr] at h0), fun st2 e1 e2 => .inl _ bx' nx' (by rw [e1, e2]; exact h) hr hw ⟨rfl, rfl⟩ (by rw [e2]; exact hn)⟩
  | own args' e sz n g h ha hl hr hk =>
    obtain ⟨rfl, rfl⟩ := hk
    exact ⟨_, _, rfl, fun h0 => by (simp [hr] at h0), fun st2 e1 e2 => .own args' e sz n g h (by rw [e1]; exact ha) hl hr ⟨by rw [e2], by simp only [St.newBox, e1, e2]⟩⟩

theorem callP_pur {f : FuncId} {args : List BV} {r : SV} (hp : S.rcv (f + 1000000) = true) (hn : (S.rcv f || S.rcv (f + 2000000)) = false) (h : CallP S st f args (fun r0 s0 => r0 = r ∧ s0 = s')) (st2 : St) : CallP S st2 f args (fun r0 s0 => r0 = r ∧ s0 = st2) := by
  cases h with
  | pure args' X h ha hl hk => exact .pure args' _ h ha hl ⟨hk.1, rfl⟩
  | lend args' X h ha hl hf hk hq => rw [hp] at hq; cases hq
  | recv id off cs0 cs rest args' X Y h he hb hoff hcs ha hl hr hy hk => simp [hr] at hn
  | recvEl id sz i e n g cs rest args' X Y h he hb hi hsz hcs ha hl hr hy hk => simp [hr] at hn
  | inl X bx' nx' h hr hw hk hn2 => simp [hr] at hn
  | own args' e sz n g h ha hl hr hk => simp [hr] at hn

theorem fillL_congr {pl : Nat → Option (Nat × Nat)} : ∀ {ps : List (Nat × Operand)} {cs : List CV}, (∀ p ∈ ps, ev p.2 = ev2 p.2) → fillL pl ev ps cs = fillL pl ev2 ps cs
  | [], _, _ => rfl
  | p :: ps, cs, h => by
    obtain ⟨i, x⟩ := p
    have h1 := h (i, x) (List.mem_cons_self ..)
    simp only at h1
    simp only [fillL, h1]
    split
    · rw [fillL_congr fun p hp => h p (List.mem_cons_of_mem _ hp)]
    · rfl

theorem opM_param {r : SV} (h : opM S st ev op (fun r0 s0 => r0 = r ∧ s0 = s')) (he : ∀ x ∈ op.operands.toList, ev x = ev2 x) :
    ∃ bx' nx', s' = ⟨st.fr, bx', nx', st.kf⟩ ∧ ∀ st2 : St, st2.bx = st.bx → st2.nx = st.nx → opM S st2 ev2 op (fun r0 s0 => r0 = r ∧ s0 = ⟨st2.fr, bx', nx', st2.kf⟩) := by
  cases op with
  | build t parts =>
    have hf : ∀ {pl cs}, fillL pl ev parts.toList cs = fillL pl ev2 parts.toList cs := fun {pl cs} => fillL_congr fun p hp => he p.2 (by simp only [Op.operands]; exact List.mem_map_of_mem hp)
    simp only [opM, hf] at *
    split at h
    · split at h
      · obtain ⟨h1, rfl, rfl⟩ := h
        exact ⟨_, _, rfl, fun st2 e1 e2 => ⟨h1, rfl, by rw [← e1, ← e2]⟩⟩
      · exact h.elim
    · exact h.elim
  | alloc t =>
    simp only [opM] at *
    split at h
    · obtain ⟨rfl, rfl⟩ := h
      exact ⟨_, _, rfl, fun st2 e1 e2 => ⟨by rw [e2], by simp only [St.newBox, e1, e2]⟩⟩
    · exact h.elim
  | box t x =>
    simp only [opM, he x (by simp [Op.operands])] at *
    split at h
    · obtain ⟨h1, rfl, rfl⟩ := h
      exact ⟨_, _, rfl, fun st2 e1 e2 => ⟨h1, by rw [e2], by simp only [St.newBox, e1, e2]⟩⟩
    · exact h.elim
  | buildSlice t len parts =>
    have hf : ∀ {pl cs}, fillL pl ev parts.toList cs = fillL pl ev2 parts.toList cs := fun {pl cs} => fillL_congr fun p hp => he p.2 (by simp only [Op.operands]; exact List.mem_map_of_mem hp)
    simp only [opM, hf] at *
    split at h
    · split at h
      · split at h
        · obtain ⟨h1, rfl, rfl⟩ := h
          exact ⟨_, _, rfl, fun st2 e1 e2 => ⟨h1, by rw [e2], by simp only [St.newBox, e1, e2]⟩⟩
        · exact h.elim
      · exact h.elim
    · exact h.elim
  | store t p x =>
    simp only [opM, he p (by simp [Op.operands]), he x (by simp [Op.operands])] at *
    split at h
    · rename_i hb0
      split at h
      · rename_i hb
        obtain ⟨h1, rfl, rfl⟩ := h
        exact ⟨_, _, rfl, fun st2 e1 e2 => by simp only [e1, hb]; exact ⟨h1, by simp only [St.setBox, e1, e2, true_and]⟩⟩
      · exact h.elim
    · split at h
      · rename_i hb
        obtain ⟨h1, rfl, rfl⟩ := h
        exact ⟨_, _, rfl, fun st2 e1 e2 => by simp only [e1, hb]; exact ⟨h1, by simp only [St.setBox, e1, e2, true_and]⟩⟩
      · exact h.elim
    · exact h.elim
  | makeSlice t l c =>
    simp only [opM, he l (by simp [Op.operands]), he c (by simp [Op.operands])] at *
    split at h
    · split at h
      · obtain ⟨h1, rfl, rfl⟩ := h
        exact ⟨_, _, rfl, fun st2 e1 e2 => ⟨h1, by rw [e2], by simp only [St.newBox, e1, e2]⟩⟩
      · exact h.elim
    · exact h.elim
  | call c =>
    obtain ⟨cal, ⟨al⟩, ⟨tl⟩⟩ := c
    unfold opM at h
    simp only at h
    split at h
    · rename_i x y t t'
      have h1 := he x (by simp [Op.operands, Call.operands])
      have h2 := he y (by simp [Op.operands, Call.operands])
      rw [h1, h2] at h
      unfold opM
      simp only
      split at h
      · rename_i hel hsrc
        split at h
        · rename_i hi hz hx
          obtain ⟨hh, rfl, rfl⟩ := h
          exact ⟨_, _, rfl, fun st2 q1 q2 => by
            simp only [q1, q2, hel, hsrc, hi, hz, hx]
            exact ⟨hh, trivial, by simp only [St.newBox, q1, q2]⟩⟩
        · rename_i hi hz hx
          split at h
          · rename_i hb
            obtain ⟨hh, rfl, rfl⟩ := h
            exact ⟨_, _, rfl, fun st2 q1 q2 => by
              simp only [q1, q2, hel, hsrc, hi, hz, hx, hb]
              exact ⟨hh, trivial, by simp only [St.newBox, St.delBox, q1, q2]; try rfl⟩⟩
          · exact h.elim
        · exact h.elim
      · exact h.elim
    · have hl : al.map (fun x => stripB (ev x)) = al.map (fun x => stripB (ev2 x)) := List.map_congr_left fun x hx => by rw [he x (by simp [Op.operands, Call.operands, hx])]
      rw [hl] at h
      obtain ⟨bx', nx', e, _, hp⟩ := callP_param h
      exact ⟨bx', nx', e, fun st2 q1 q2 => by unfold opM; exact hp st2 q1 q2⟩
    · rename_i t
      have hl : al.map (fun x => stripB (ev x)) = al.map (fun x => stripB (ev2 x)) := List.map_congr_left fun x hx => by rw [he x (by simp [Op.operands, Call.operands, hx])]
      have ht := he (.tmp t) (by simp [Op.operands, Call.operands])
      split at h
      · rename_i f ps hx
        rw [hl] at h
        obtain ⟨bx', nx', e, _, hp⟩ := callP_param h
        exact ⟨bx', nx', e, fun st2 q1 q2 => by unfold opM; simp only; rw [← ht, hx]; exact hp st2 q1 q2⟩
      · exact h.elim
    · exact h.elim
  | _ => exact h.elim

theorem ro_congr {bx : Nat → Option Bx} (he : ∀ x ∈ op.operands.toList, ev x = ev2 x) : ro S bx ev op = ro S bx ev2 op := by
  have hc : condAll (op.operands.toList.map ev) = condAll (op.operands.toList.map ev2) := by rw [List.map_congr_left he]
  have hcore : roCore S bx ev op = roCore S bx ev2 op := by
    cases op with
    | slice t x lo hi m =>
      cases m with
      | none =>
        have h1 := he x (by simp [Op.operands])
        cases lo with
        | none => cases hi with
          | none => simp only [roCore, h1, Option.map_none]
          | some b => have h3 := he b (by simp [Op.operands]); simp only [roCore, h1, h3, Option.map_none, Option.map_some]
        | some a =>
          have h2 := he a (by simp [Op.operands])
          cases hi with
          | none => simp only [roCore, h1, h2, Option.map_none, Option.map_some]
          | some b => have h3 := he b (by simp [Op.operands]); simp only [roCore, h1, h2, h3, Option.map_some]
      | some _ => rfl
    | call c =>
      obtain ⟨cal, ⟨al⟩, ⟨tl⟩⟩ := c
      unfold roCore
      simp only
      split
      · rename_i x _; rw [he x (by simp [Op.operands, Call.operands])]
      · rename_i x y; rw [he x (by simp [Op.operands, Call.operands]), he y (by simp [Op.operands, Call.operands])]
      · rename_i x y; rw [he x (by simp [Op.operands, Call.operands]), he y (by simp [Op.operands, Call.operands])]
      · rfl
    | makeFunc fn first cap =>
      have hl : cap.toList.map (fun x => (ev x).strip) = cap.toList.map (fun x => (ev2 x).strip) := List.map_congr_left fun x hx => by rw [he x (by simp [Op.operands]; exact .inr (by simpa using hx))]
      simp only [roCore, hl]
    | load t x => simp only [roCore, he x (by simp [Op.operands])]
    | fieldAddr t x f => simp only [roCore, he x (by simp [Op.operands])]
    | field t x f => simp only [roCore, he x (by simp [Op.operands])]
    | indexAddr t x y => simp only [roCore, he x (by simp [Op.operands]), he y (by simp [Op.operands])]
    | index t x y => simp only [roCore, he x (by simp [Op.operands]), he y (by simp [Op.operands])]
    | extract x _ => simp only [roCore, he x (by simp [Op.operands])]
    | binOp _ _ x y _ => simp only [roCore, he x (by simp [Op.operands]), he y (by simp [Op.operands])]
    | unOp _ _ x => simp only [roCore, he x (by simp [Op.operands])]
    | convert _ _ x => simp only [roCore, he x (by simp [Op.operands])]
    | nilCheck x => simp only [roCore, he x (by simp [Op.operands])]
    | _ => rfl
  unfold ro
  split
  · rename_i x; rw [he x (by simp [Op.operands])]
  · rename_i x; rw [he x (by simp [Op.operands])]
  · rename_i c a b; rw [he c (by simp [Op.operands]), he a (by simp [Op.operands]), he b (by simp [Op.operands])]
  · rw [hcore, hc]

def clsOp (rcv : Nat → Bool) : Op → Nat
  | .move _ | .assign _ | .pick .. | .fieldAddr .. | .field .. | .indexAddr .. | .index .. | .extract .. | .binOp .. | .unOp .. | .convert .. | .slice .. | .nilCheck _ | .build .. | .makeFunc .. => 0
  | .load .. => 1
  | .call c => match c.callee with
    | .builtin .len | .builtin .min | .builtin .max => 0
    | .value (.func f) => if rcv f || rcv (f + 2000000) then 2 else if rcv (f + 1000000) then 0 else 1
    | _ => 2
  | _ => 2
def cls (rcv : Nat → Bool) (o : Oper) : Nat := if o.guard.isSome then max 1 (clsOp rcv o.op) else clsOp rcv o.op
def namesOf (ops : Array Oper) (o : Oper) : List Nat :=
  (o.op.operands.toList.filterMap fun | .tmp t => some t | _ => none) ++ (match o.guard with | some (j, _) => ((ops[j]?).bind (·.dst)).toList | none => [])

theorem ev_congr {st st2 : St} (h : ∀ t ∈ namesOf ops o, st.fr t = st2.fr t) : ∀ x ∈ o.op.operands.toList, st.ev S x = st2.ev S x := fun x hx => by
  cases x with
  | tmp t => exact h t (List.mem_append_left _ (List.mem_filterMap.2 ⟨_, hx, rfl⟩))
  | _ => rfl

theorem ro_bx {bx bx2 : Nat → Option Bx} (h : clsOp S.rcv op = 0) : ro S bx ev op = ro S bx2 ev op := by
  cases op with
  | load => simp [clsOp] at h
  | slice t x lo hi m => cases m <;> rfl
  | _ => rfl

theorem set_eq (st : St) (d : Option Nat) (v : SV) : st.set d v = ⟨fun s => if some s = d then v else st.fr s, st.bx, st.nx, st.kf⟩ := by
  cases d with
  | none => simp [St.set]
  | some d => simp only [St.set, Option.some.injEq]

theorem opP_step {d : Option Nat} (hd : o.dst = d) (h : opP S st o (fun s => s = s')) :
    ∃ v bx' nx', s' = St.set ⟨st.fr, bx', nx', st.kf⟩ d v ∧ (clsOp S.rcv o.op ≤ 1 → bx' = st.bx ∧ nx' = st.nx) ∧
      (∀ st2 : St, (∀ t ∈ namesOf ops o, st.fr t = st2.fr t) → st2.bx = st.bx → st2.nx = st.nx → opP S st2 o (fun s => s = St.set ⟨st2.fr, bx', nx', st2.kf⟩ d v)) ∧
      (clsOp S.rcv o.op = 0 → ∀ st2 : St, (∀ t ∈ namesOf ops o, st.fr t = st2.fr t) → opP S st2 o (fun s => s = St.set st2 d v)) := by
  subst hd
  unfold opP at h
  split at h
  · rename_i vc r hro
    obtain ⟨hv, rfl⟩ := h
    refine ⟨r, st.bx, st.nx, rfl, fun _ => ⟨rfl, rfl⟩, fun st2 hn e1 e2 => ?_, fun h0 st2 hn => ?_⟩
    · unfold opP
      rw [e1, ← ro_congr (ev_congr hn), hro]
      exact ⟨hv, by rw [← e1, ← e2]⟩
    · unfold opP
      rw [← ro_congr (ev_congr hn), ro_bx (bx2 := st.bx) h0, hro]
      exact ⟨hv, rfl⟩
  · rename_i hro
    obtain ⟨hc, hM⟩ := h
    obtain ⟨r, s0, hM1, rfl⟩ := opM_ex hM
    obtain ⟨bx', nx', rfl, -⟩ := opM_param hM1 (ev2 := st.ev S) fun _ _ => rfl
    have hcond : ∀ st2 : St, (∀ t ∈ namesOf ops o, st.fr t = st2.fr t) → condAll (o.op.operands.toList.map (st2.ev S)) := fun st2 hn => by
      rw [← List.map_congr_left (ev_congr (S := S) hn)]; exact hc
    have hcls : clsOp S.rcv o.op ≤ 1 → bx' = st.bx ∧ nx' = st.nx := fun hle => by
      revert hM1 hle
      generalize o.op = op
      intro hM1 hle
      cases op with
      | call c =>
        obtain ⟨cal, ⟨al⟩, ⟨tl⟩⟩ := c
        unfold opM at hM1
        simp only at hM1
        split at hM1
        · simp [clsOp] at hle
        · obtain ⟨b, n, e, hr, _⟩ := callP_param hM1
          simp only [St.mk.injEq, true_and, and_true] at e
          obtain ⟨rfl, rfl⟩ := e
          refine hr ?_
          simp only [clsOp] at hle
          split at hle
          · omega
          · rename_i hne; simpa using hne
        · simp [clsOp] at hle
        · exact hM1.elim
      | build t parts =>
        simp only [opM] at hM1
        split at hM1
        · split at hM1
          · obtain ⟨_, _, e⟩ := hM1
            have e2 := congrArg St.bx e
            have e3 := congrArg St.nx e
            exact ⟨e2.symm, e3.symm⟩
          · exact hM1.elim
        · exact hM1.elim
      | alloc => simp [clsOp] at hle
      | box => simp [clsOp] at hle
      | buildSlice => simp [clsOp] at hle
      | store => simp [clsOp] at hle
      | makeSlice => simp [clsOp] at hle
      | _ => exact hM1.elim
    refine ⟨r, bx', nx', rfl, hcls, fun st2 hn e1 e2 => ?_, fun h0 st2 hn => ?_⟩
    · unfold opP
      rw [e1, ← ro_congr (ev_congr hn), hro]
      refine ⟨hcond st2 hn, ?_⟩
      obtain ⟨b, n, e, hp⟩ := opM_param hM1 (ev2 := st2.ev S) (ev_congr hn)
      simp only [St.mk.injEq, true_and, and_true] at e
      obtain ⟨rfl, rfl⟩ := e
      exact opM_mono (fun r0 s0 ⟨q1, q2⟩ => by rw [q1, q2]) (hp st2 e1 e2)
    · unfold opP
      rw [← ro_congr (ev_congr hn), ro_bx (bx2 := st.bx) h0, hro]
      refine ⟨hcond st2 hn, ?_⟩
      revert hM1 h0 hn
      generalize hoo : o.op = op
      intro hM1 h0 hn
      cases op with
      | build t parts =>
        have hev := ev_congr (S := S) hn
        rw [hoo] at hev
        have hf : ∀ {pl cs}, fillL pl (st.ev S) parts.toList cs = fillL pl (st2.ev S) parts.toList cs := fun {pl cs} => fillL_congr fun p hp => hev p.2 (by simp only [Op.operands]; exact List.mem_map_of_mem hp)
        simp only [opM, hf] at hM1 ⊢
        split at hM1
        · split at hM1
          · obtain ⟨q1, rfl, e⟩ := hM1
            exact ⟨q1, rfl⟩
          · exact hM1.elim
        · exact hM1.elim
      | call c =>
        obtain ⟨cal, ⟨al⟩, ⟨tl⟩⟩ := c
        unfold opM at hM1
        simp only at hM1
        split at hM1
        · simp [clsOp] at h0
        · simp only [clsOp] at h0
          split at h0
          · simp at h0
          · split at h0
            · rename_i hne hpp
              have hev := ev_congr (S := S) hn
              rw [hoo] at hev
              unfold opM
              simp only
              have hh := callP_pur hpp (by simpa using hne) hM1 st2
              rw [List.map_congr_left (g := fun x => stripB (st2.ev S x)) (fun x hx => by rw [hev x (by simp [Op.operands, Call.operands, hx])])] at hh
              exact CallP.mono (fun r0 s0 ⟨q1, q2⟩ => by rw [q1, q2]) hh
            · simp at h0
        · simp [clsOp] at h0
        · exact hM1.elim
      | alloc => simp [clsOp] at h0
      | box => simp [clsOp] at h0
      | buildSlice => simp [clsOp] at h0
      | store => simp [clsOp] at h0
      | makeSlice => simp [clsOp] at h0
      | _ => exact hM1.elim

theorem ex_step (h : Ex S ops st o s') :
    ∃ v bx' nx', s' = St.set ⟨st.fr, bx', nx', st.kf⟩ o.dst v ∧ (cls S.rcv o ≤ 1 → bx' = st.bx ∧ nx' = st.nx) ∧
      (∀ st2 : St, (∀ t ∈ namesOf ops o, st.fr t = st2.fr t) → st2.bx = st.bx → st2.nx = st.nx → Ex S ops st2 o (St.set ⟨st2.fr, bx', nx', st2.kf⟩ o.dst v)) ∧
      (cls S.rcv o = 0 → ∀ st2 : St, (∀ t ∈ namesOf ops o, st.fr t = st2.fr t) → Ex S ops st2 o (St.set st2 o.dst v)) := by
  unfold Ex opG at h
  cases hg : o.guard with
  | none =>
    rw [hg] at h
    obtain ⟨v, bx', nx', h1, h2, h3, h4⟩ := opP_step (ops := ops) rfl h
    have hcl : cls S.rcv o = clsOp S.rcv o.op := by simp [cls, hg]
    refine ⟨v, bx', nx', h1, by rwa [hcl], fun st2 a b c => ?_, fun h0 st2 a => ?_⟩
    · unfold Ex opG; rw [hg]; exact h3 st2 a b c
    · unfold Ex opG; rw [hg]; exact h4 (by rwa [hcl] at h0) st2 a
  | some p =>
    obtain ⟨j, want⟩ := p
    rw [hg] at h
    simp only at h
    have hcl : ¬ cls S.rcv o = 0 := by simp [cls, hg]; try omega
    have hcl1 : cls S.rcv o ≤ 1 → clsOp S.rcv o.op ≤ 1 := by simp [cls, hg]; try omega
    have hgv : ∀ st2 : St, (∀ t ∈ namesOf ops o, st.fr t = st2.fr t) → guardV st ((ops[j]?).bind (·.dst)) want = guardV st2 ((ops[j]?).bind (·.dst)) want := fun st2 hn => by
      unfold guardV
      split
      · rename_i d hd
        rw [hn d (List.mem_append_right _ (by rw [hg]; simp [hd]))]
      · rfl
    split at h
    · rename_i g hgg
      split at h
      · rename_i vc r hro
        obtain ⟨h1, h2, rfl⟩ := h
        refine ⟨_, st.bx, st.nx, rfl, fun _ => ⟨rfl, rfl⟩, fun st2 hn e1 e2 => ?_, fun h0 => absurd h0 hcl⟩
        unfold Ex opG
        rw [hg]
        simp only
        rw [← hgv st2 hn, hgg, e1, ← ro_congr (ev_congr hn), hro]
        exact ⟨by rw [e2]; exact h1, h2, by rw [← e1, ← e2]⟩
      · rename_i vc p r hro
        obtain ⟨h1, h2, rfl⟩ := h
        refine ⟨_, st.bx, st.nx, rfl, fun _ => ⟨rfl, rfl⟩, fun st2 hn e1 e2 => ?_, fun h0 => absurd h0 hcl⟩
        unfold Ex opG
        rw [hg]
        simp only
        rw [← hgv st2 hn, hgg, e1, ← ro_congr (ev_congr hn), hro]
        exact ⟨by rw [e2]; exact h1, h2, by rw [← e1, ← e2]⟩
      · rename_i hne hne2
        rcases h with h | ⟨x, hlx, h1, rfl⟩
        · cases g with
          | true =>
            obtain ⟨v, bx', nx', h1, h2, h3, h4⟩ := opP_step (ops := ops) rfl (h.1 rfl)
            refine ⟨v, bx', nx', h1, fun hc => h2 (hcl1 hc), fun st2 hn e1 e2 => ?_, fun h0 => absurd h0 hcl⟩
            unfold Ex opG
            rw [hg]
            simp only
            rw [← hgv st2 hn, hgg, e1, ← ro_congr (ev_congr hn)]
            split
            · rename_i g' q
              cases q
              split
              · rename_i vc r hro; exact absurd hro (hne vc r)
              · rename_i vc p r hro; exact absurd hro (hne2 vc p r)
              · exact .inl ⟨fun _ => h3 st2 hn e1 e2, fun q => by (cases q)⟩
            · rename_i q; cases q
          | false =>
            have h1 := h.2 rfl
            subst h1
            refine ⟨_, st.bx, st.nx, rfl, fun _ => ⟨rfl, rfl⟩, fun st2 hn e1 e2 => ?_, fun h0 => absurd h0 hcl⟩
            unfold Ex opG
            rw [hg]
            simp only
            rw [← hgv st2 hn, hgg, e1, ← ro_congr (ev_congr hn)]
            split
            · rename_i g' q
              cases q
              split
              · rename_i vc r hro; exact absurd hro (hne vc r)
              · rename_i vc p r hro; exact absurd hro (hne2 vc p r)
              · exact .inl ⟨fun q => by (cases q), fun _ => by rw [← e1, ← e2]⟩
            · rename_i q; cases q
        · refine ⟨_, st.bx, st.nx, rfl, fun _ => ⟨rfl, rfl⟩, fun st2 hn e1 e2 => ?_, fun h0 => absurd h0 hcl⟩
          unfold Ex opG
          rw [hg]
          simp only
          rw [← hgv st2 hn, hgg, e1, ← ro_congr (ev_congr hn)]
          split
          · rename_i g' q
            cases q
            split
            · rename_i vc r hro; exact absurd hro (hne vc r)
            · rename_i vc p r hro; exact absurd hro (hne2 vc p r)
            · refine .inr ⟨x, by rw [e2]; exact hlx, fun ht => ?_, by rw [← e1, ← e2]⟩
              obtain ⟨v, bx', nx', p1, p2, p3, p4⟩ := opP_step (ops := ops) rfl (h1 ht)
              have := p3 st2 hn e1 e2
              rw [set_eq, set_eq] at p1
              simp only [St.mk.injEq, and_true] at p1
              obtain ⟨r1, rfl, rfl⟩ := p1
              have e : St.set st2 o.dst (.b x) = St.set ⟨st2.fr, st.bx, st.nx, st2.kf⟩ o.dst v := by
                rw [set_eq, set_eq, e1, e2]
                simp only [St.mk.injEq, and_true]
                funext s
                by_cases hs : some s = o.dst
                · have := congrFun r1 s
                  rw [if_pos hs, if_pos hs] at this
                  rw [if_pos hs, if_pos hs, this]
                · rw [if_neg hs, if_neg hs]
              rw [e]; exact this
          · rename_i q; cases q
    · exact h.elim

def indep (rcv : Nat → Bool) (ops : Array Oper) (x y : Oper) : Bool :=
  (match x.dst with | some d => !(namesOf ops y).contains d | none => true) && (match y.dst with | some d => !(namesOf ops x).contains d | none => true) &&
  (match x.dst, y.dst with | some d, some e => d != e | _, _ => true) &&
  ((Nat.ble (cls rcv x) 1 && Nat.ble (cls rcv y) 1) || Nat.beq (cls rcv x) 0 || Nat.beq (cls rcv y) 0)

theorem fr_agree {fr kf : Nat → SV} {bx bx' : Nat → Option Bx} {nx nx' : Nat} {d : Option Nat} {v : SV} {l : List Nat} (h : (match d with | some d => !l.contains d | none => true) = true) : ∀ t ∈ l, (St.set ⟨fr, bx, nx, kf⟩ d v).fr t = fr t := fun t ht => by
  rw [set_eq]
  simp only
  cases d with
  | none => simp
  | some d =>
    have : t ≠ d := fun e => by subst e; simp [ht] at h
    simp [this]

theorem ex_swap {x y : Oper} {s1 s2 : St} (hi : indep S.rcv ops x y = true) (h1 : Ex S ops st x s1) (h2 : Ex S ops s1 y s2) : ∃ s3, Ex S ops st y s3 ∧ Ex S ops s3 x s2 := by
  simp only [indep, Bool.and_eq_true, Bool.or_eq_true, Nat.ble_eq, Nat.beq_eq] at hi
  obtain ⟨⟨⟨hxy, hyx⟩, hdd⟩, hc⟩ := hi
  obtain ⟨v1, b1, n1, rfl, k1, p1, z1⟩ := ex_step h1
  obtain ⟨v2, b2, n2, rfl, k2, p2, z2⟩ := ex_step h2
  have ag1 : ∀ t ∈ namesOf ops y, (St.set ⟨st.fr, b1, n1, st.kf⟩ x.dst v1).fr t = st.fr t := fr_agree (nx' := 0) (bx' := st.bx) hxy
  have comm : ∀ b n, St.set ⟨(St.set ⟨st.fr, b1, n1, st.kf⟩ x.dst v1).fr, b, n, st.kf⟩ y.dst v2 = St.set ⟨(St.set ⟨st.fr, b1, n1, st.kf⟩ y.dst v2).fr, b, n, st.kf⟩ x.dst v1 := fun b n => by
    simp only [set_eq, St.mk.injEq, and_true]
    funext s
    by_cases e1 : some s = x.dst
    · by_cases e2 : some s = y.dst
      · exfalso
        rw [← e1, ← e2] at hdd
        simp at hdd
      · simp only [if_pos e1, if_neg e2]
    · simp only [if_neg e1]
  have nn : ∀ b n, (∀ t ∈ namesOf ops x, st.fr t = (St.set ⟨st.fr, b, n, st.kf⟩ y.dst v2).fr t) := fun b n t ht => (fr_agree (nx' := 0) (bx' := st.bx) hyx t ht).symm
  have sb : ∀ fr b n kf d v, (St.set ⟨fr, b, n, kf⟩ d v).bx = b := fun fr b n kf d v => by rw [set_eq]
  have sk : ∀ fr b n kf d v, (St.set ⟨fr, b, n, kf⟩ d v).kf = kf := fun fr b n kf d v => by rw [set_eq]
  have sn : ∀ fr b n kf d v, (St.set ⟨fr, b, n, kf⟩ d v).nx = n := fun fr b n kf d v => by rw [set_eq]
  have sf : ∀ fr b n kf b' n' kf' d v, (St.set ⟨fr, b, n, kf⟩ d v).fr = (St.set ⟨fr, b', n', kf'⟩ d v).fr := fun fr b n kf b' n' kf' d v => by simp only [set_eq]
  rcases hc with (hc | hc) | hc
  · obtain ⟨rfl, rfl⟩ := k1 hc.1
    obtain ⟨q1, q2⟩ := k2 hc.2
    rw [sb] at q1; rw [sn] at q2
    subst q1; subst q2
    refine ⟨_, p2 st ag1 (by rw [sb]) (by rw [sn]), ?_⟩
    have := p1 (St.set ⟨st.fr, st.bx, st.nx, st.kf⟩ y.dst v2) (nn _ _) (by rw [sb]) (by rw [sn])
    rw [sk] at this
    rw [sk, comm]
    exact this
  · obtain ⟨rfl, rfl⟩ := k1 (by omega)
    refine ⟨_, p2 st ag1 (by rw [sb]) (by rw [sn]), ?_⟩
    have := z1 hc (St.set ⟨st.fr, b2, n2, st.kf⟩ y.dst v2) (nn _ _)
    rw [sk, comm]
    rw [sf _ _ _ _ b2 n2 st.kf]
    simp only [set_eq] at this ⊢
    exact this
  · have := z2 hc st ag1
    obtain ⟨q1, q2⟩ := k2 (by omega)
    rw [sb] at q1; rw [sn] at q2
    subst q1; subst q2
    refine ⟨_, this, ?_⟩
    have := p1 (St.set st y.dst v2) (nn st.bx st.nx) (sb st.fr _ _ _ _ _) (sn st.fr _ _ _ _ _)
    rw [show (st.set y.dst v2).kf = st.kf from sk st.fr st.bx st.nx st.kf _ _] at this
    rw [sk, comm, sf _ _ _ _ st.bx st.nx st.kf]
    exact this

def ExL (S : Env) (ops : Array Oper) : List Oper → St → St → Prop
  | [], st, s' => st = s'
  | o :: r, st, s' => ∃ s, Ex S ops st o s ∧ ExL S ops r s s'

theorem opsP_exL {K : St → Prop} : ∀ {l : List Oper} {st : St}, opsP S ops l st K → ∃ s', ExL S ops l st s' ∧ K s'
  | [], st, h => ⟨st, rfl, h⟩
  | o :: r, st, h => by
    obtain ⟨s, h1, h2⟩ := opG_ex h
    obtain ⟨s', h3, h4⟩ := opsP_exL h2
    exact ⟨s', ⟨s, h1, h3⟩, h4⟩

theorem exL_first {o : Oper} {l2 : List Oper} : ∀ {l1 : List Oper} {st s' : St}, (∀ x ∈ l1, indep S.rcv ops x o = true) → ExL S ops (l1 ++ o :: l2) st s' → ∃ s, Ex S ops st o s ∧ ExL S ops (l1 ++ l2) s s'
  | [], st, s', _, h => h
  | x :: l1, st, s', hi, ⟨s, h1, h2⟩ => by
    obtain ⟨s2, h3, h4⟩ := exL_first (fun y hy => hi y (List.mem_cons_of_mem _ hy)) h2
    obtain ⟨s3, h5, h6⟩ := ex_swap (hi x (List.mem_cons_self ..)) h1 h3
    exact ⟨s3, h5, s2, h6, h4⟩

def drawOk (rcv : Nat → Bool) (ops : Array Oper) (m : Nat → Nat) : Bool :=
  (List.range ops.size).all fun i => match ops[i]? with
    | none => false
    | some o => (o.after.all fun e => !Region.binds .any e || Nat.blt e.on i) &&
      (List.range i).all fun j => match ops[j]? with
        | none => false
        | some x => (indep rcv ops x o && true) || ((m i).testBit j)
def marksOk (ops : Array Oper) (m : Nat → Nat) : Bool :=
  (List.range ops.size).all fun i => match ops[i]? with
    | none => false
    | some o => (List.range i).all fun j => !((m i).testBit j) || o.after.any fun e => Region.binds .any e && (Nat.beq e.on j || ((m e.on).testBit j && Nat.blt j e.on))

def isIn (listed : Array Bool) (i : Nat) : Prop := listed.getD i true = true
def Closed (ops : Array Oper) (listed : Array Bool) : Prop := ∀ i o, ops[i]? = some o → isIn listed i → ∀ e ∈ o.after, Region.binds .any e = true → isIn listed e.on

theorem ready_iff {listed : Array Bool} {i : Nat} (hs : listed.size = ops.size) : i ∈ Region.ready .any ops listed ↔ ∃ o, ops[i]? = some o ∧ listed.getD i true = false ∧ ∀ e ∈ o.after, Region.binds .any e = true → listed.getD e.on false = true := by
  unfold Region.ready
  rw [List.mem_filter, List.mem_range]
  constructor
  · rintro ⟨h1, h2⟩
    simp only [Bool.and_eq_true, Bool.not_eq_true'] at h2
    rw [Array.getElem?_eq_getElem h1] at h2
    refine ⟨_, Array.getElem?_eq_getElem h1, h2.1, fun e he hb => ?_⟩
    have := h2.2
    simp only [Option.map_some, Option.getD_some, Array.all_eq_true] at this
    obtain ⟨k, hk, rfl⟩ := Array.mem_iff_getElem.1 he
    have := this k hk
    simpa [hb] using this
  · rintro ⟨o, ho, h1, h2⟩
    have hlt : i < ops.size := by
      rcases Nat.lt_or_ge i ops.size with h | h
      · exact h
      · rw [Array.getElem?_eq_none h] at ho; cases ho
    refine ⟨hlt, ?_⟩
    rw [ho]
    simp only [Option.map_some, Option.getD_some, Bool.and_eq_true, Bool.not_eq_true']
    refine ⟨h1, Array.all_eq_true.2 fun k hk => ?_⟩
    have := h2 _ (Array.getElem_mem hk)
    cases hb : Region.binds .any o.after[k] with
    | true => simp [this hb]
    | false => simp

theorem marks_in {m : Nat → Nat} {listed : Array Bool} (hm : marksOk ops m = true) (hcl : Closed ops listed) (hed : ∀ i o, ops[i]? = some o → ∀ e ∈ o.after, Region.binds .any e = true → e.on < i) (hsz : ∀ k, isIn listed k → k < ops.size → True) :
    ∀ (n i : Nat), i < n → isIn listed i → i < ops.size → ∀ j, j < i → (m i).testBit j = true → isIn listed j := by
  intro n
  induction n with
  | zero => intro i h; omega
  | succ n ih =>
    intro i hn hi hlt j hj hb
    have ho := Array.getElem?_eq_getElem hlt
    have := List.all_eq_true.1 hm i (List.mem_range.2 hlt)
    rw [ho] at this
    have := List.all_eq_true.1 this j (List.mem_range.2 hj)
    simp only [hb, Bool.not_true, Bool.false_or] at this
    obtain ⟨k, hk, hh⟩ := Array.any_eq_true.1 this
    simp only [Bool.and_eq_true, Bool.or_eq_true, Nat.beq_eq] at hh
    obtain ⟨hbind, hh⟩ := hh
    have hmem : ops[i].after[k] ∈ ops[i].after := Array.getElem_mem hk
    have hin := hcl i _ ho hi _ hmem hbind
    have hle := hed i _ ho _ hmem hbind
    rcases hh with hh | hh
    · rw [← hh]; exact hin
    · exact ih _ (by omega) hin (by omega) j (by have := hh.2; simp [Nat.blt] at this; omega) hh.1

theorem any_of {m : Nat → Nat} (hd : drawOk S.rcv ops m = true) (hm : marksOk ops m = true) {K : St → Prop} : ∀ (fuel : Nat) (listed : Array Bool) (rest : List Nat) (st s' : St),
    listed.size = ops.size → rest.Pairwise (· < ·) → (∀ i, i ∈ rest ↔ i < ops.size ∧ listed.getD i true = false) → Closed ops listed → ExL S ops (rest.map fun i => ops.getD i default) st s' → K s' → rest.length ≤ fuel →
    anyP S ops fuel listed st K := by
  have hed : ∀ i o, ops[i]? = some o → ∀ e ∈ o.after, Region.binds .any e = true → e.on < i := fun i o ho e he hb => by
    have hlt : i < ops.size := by
      rcases Nat.lt_or_ge i ops.size with h | h
      · exact h
      · rw [Array.getElem?_eq_none h] at ho; cases ho
    have := List.all_eq_true.1 hd i (List.mem_range.2 hlt)
    rw [ho] at this
    simp only [Bool.and_eq_true] at this
    have := this.1
    obtain ⟨k, hk, rfl⟩ := Array.mem_iff_getElem.1 he
    have := (Array.all_eq_true.1 this) k hk
    simp only [hb, Bool.not_true, Bool.false_or, Nat.blt] at this
    have := Nat.le_of_ble_eq_true this
    omega
  have noready : ∀ (listed : Array Bool) (rest : List Nat), listed.size = ops.size → rest.Pairwise (· < ·) → (∀ i, i ∈ rest ↔ i < ops.size ∧ listed.getD i true = false) → Region.ready .any ops listed = [] → rest = [] := by
    intro listed rest hs hp hr hno
    cases rest with
    | nil => rfl
    | cons i r =>
      exfalso
      obtain ⟨hlt, hl⟩ := (hr i).1 (List.mem_cons_self ..)
      have : i ∈ Region.ready .any ops listed := (ready_iff hs).2 ⟨_, Array.getElem?_eq_getElem hlt, hl, fun e he hb => by
        have hle := hed i _ (Array.getElem?_eq_getElem hlt) e he hb
        cases hq : listed.getD e.on false with
        | true => rfl
        | false =>
          exfalso
          have hq' : listed.getD e.on true = false := by
            have hl2 : e.on < listed.size := by omega
            rw [Array.getD, dif_pos hl2] at hq ⊢
            exact hq
          have hmem := (hr e.on).2 ⟨by omega, hq'⟩
          rcases List.mem_cons.1 hmem with h | h
          · omega
          · have := (List.pairwise_cons.1 hp).1 _ h; omega⟩
      rw [hno] at this
      cases this
  intro fuel
  induction fuel with
  | zero =>
    intro listed rest st s' hs hp hr hcl hx hk hlen
    have hnil : rest = [] := List.eq_nil_of_length_eq_zero (by omega)
    subst hnil
    have hst : st = s' := hx
    subst hst
    refine ⟨?_, hk⟩
    rw [List.eq_nil_iff_forall_not_mem]
    intro i hi
    obtain ⟨o, ho, hl, _⟩ := (ready_iff hs).1 hi
    have hlt : i < ops.size := by
      rcases Nat.lt_or_ge i ops.size with h | h
      · exact h
      · rw [Array.getElem?_eq_none h] at ho; cases ho
    exact absurd ((hr i).2 ⟨hlt, hl⟩) (by simp)
  | succ fuel ih =>
    intro listed rest st s' hs hp hr hcl hx hk hlen
    refine ⟨fun hno => ?_, fun i hi => ?_⟩
    · have := noready listed rest hs hp hr hno
      subst this
      have hst : st = s' := hx
      rw [hst]; exact hk
    · obtain ⟨o, ho, hl, hdep⟩ := (ready_iff hs).1 hi
      have hlt : i < ops.size := by
        rcases Nat.lt_or_ge i ops.size with h | h
        · exact h
        · rw [Array.getElem?_eq_none h] at ho; cases ho
      have hmem := (hr i).2 ⟨hlt, hl⟩
      rw [ho]
      obtain ⟨l1, l2, rfl⟩ := List.append_of_mem hmem
      have hpw := List.pairwise_append.1 hp
      have hoi : ops.getD i default = o := by rw [Array.getD_eq_getD_getElem?, ho]; rfl
      rw [List.map_append, List.map_cons, hoi] at hx
      have hdep' : ∀ e ∈ o.after, Region.binds .any e = true → isIn listed e.on := fun e he hb => by
        have := hdep e he hb
        have h2 := hed i o ho e he hb
        have hl2 : e.on < listed.size := by omega
        unfold isIn
        rw [Array.getD, dif_pos hl2] at this ⊢
        exact this
      have hind : ∀ x ∈ l1.map (fun i => ops.getD i default), indep S.rcv ops x o = true := fun x hxm => by
        obtain ⟨j, hj, rfl⟩ := List.mem_map.1 hxm
        have hji : j < i := hpw.2.2 j hj i (List.mem_cons_self ..)
        obtain ⟨hjlt, hjl⟩ := (hr j).1 (List.mem_append_left _ hj)
        have h1 := List.all_eq_true.1 hd i (List.mem_range.2 hlt)
        rw [ho] at h1
        simp only [Bool.and_eq_true] at h1
        have h2 := List.all_eq_true.1 h1.2 j (List.mem_range.2 hji)
        rw [Array.getElem?_eq_getElem hjlt] at h2
        simp only [Bool.or_eq_true, Bool.and_true] at h2
        rcases h2 with h2 | h2
        · rw [Array.getD_eq_getD_getElem?, Array.getElem?_eq_getElem hjlt]; exact h2
        · exfalso
          have h3 := List.all_eq_true.1 hm i (List.mem_range.2 hlt)
          rw [ho] at h3
          have h4 := List.all_eq_true.1 h3 j (List.mem_range.2 hji)
          simp only [h2, Bool.not_true, Bool.false_or] at h4
          obtain ⟨k, hk', hh⟩ := Array.any_eq_true.1 h4
          simp only [Bool.and_eq_true, Bool.or_eq_true, Nat.beq_eq] at hh
          have hin := hdep' _ (Array.getElem_mem hk') hh.1
          have hle := hed i o ho _ (Array.getElem_mem hk') hh.1
          have : isIn listed j := by
            rcases hh.2 with q | q
            · rw [← q]; exact hin
            · exact marks_in hm hcl hed (fun _ _ _ => trivial) (i + 1) _ (by omega) hin (by omega) j (by have := q.2; simp [Nat.blt] at this; omega) q.1
          unfold isIn at this
          rw [this] at hjl
          cases hjl
      obtain ⟨s1, h1, h2⟩ := exL_first hind hx
      refine ex_opG h1 ?_
      have hget : ∀ k b, (listed.setIfInBounds i true).getD k b = if k = i then true else listed.getD k b := fun k b => by
        simp only [Array.getD_eq_getD_getElem?, Array.getElem?_setIfInBounds]
        by_cases hk : k = i
        · subst hk; simp [hs, hlt]
        · rw [if_neg (fun h => hk h.symm), if_neg hk]
      refine ih _ (l1 ++ l2) s1 s' (by simpa using hs) ?_ (fun k => ?_) (fun k x hx' hin e he hb => ?_) (by rw [List.map_append]; exact h2) hk (by simp at hlen ⊢; omega)
      · refine List.pairwise_append.2 ⟨hpw.1, (List.pairwise_cons.1 hpw.2.1).2, fun a ha b hb => hpw.2.2 a ha b (List.mem_cons_of_mem _ hb)⟩
      · have hk := hr k
        rw [hget]
        by_cases hki : k = i
        · subst hki
          simp only [if_true]
          constructor
          · intro hmm
            exfalso
            rcases List.mem_append.1 hmm with q | q
            · have := hpw.2.2 k q k (List.mem_cons_self ..); omega
            · have := (List.pairwise_cons.1 hpw.2.1).1 k q; omega
          · rintro ⟨_, q⟩; cases q
        · rw [if_neg hki, ← hk]
          simp [hki]
      · unfold isIn at hin ⊢
        rw [hget] at hin ⊢
        by_cases hek : e.on = i
        · rw [if_pos hek]
        · rw [if_neg hek]
          by_cases hki : k = i
          · subst hki
            rw [ho] at hx'
            cases hx'
            exact hdep' e he hb
          · rw [if_neg hki] at hin
            exact hcl k x hx' hin e he hb

theorem anyP_of {l : List Oper} {m : Nat → Nat} (hd : drawOk S.rcv l.toArray m = true) (hm : marksOk l.toArray m = true) {K : St → Prop} (h : opsP S l.toArray l st K) : anyP S l.toArray l.toArray.size (Array.replicate l.toArray.size false) st K := by
  obtain ⟨s', h1, h2⟩ := opsP_exL h
  refine any_of hd hm _ _ (List.range l.length) st s' (by simp) List.pairwise_lt_range (fun i => ?_) (fun i o ho hi => ?_) ?_ h2 (by simp)
  · rw [List.mem_range]
    simp only [List.size_toArray, Array.getD_eq_getD_getElem?, Array.getElem?_replicate]
    constructor
    · intro h; exact ⟨h, by simp [h]⟩
    · exact fun h => h.1
  · exfalso
    have hlt : i < l.toArray.size := by
      rcases Nat.lt_or_ge i l.toArray.size with h | h
      · exact h
      · rw [Array.getElem?_eq_none h] at ho; cases ho
    unfold isIn at hi
    simp only [Array.getD_eq_getD_getElem?, Array.getElem?_replicate, if_pos hlt] at hi
    cases hi
  · have : (List.range l.length).map (fun i => l.toArray.getD i default) = l := by
      apply List.ext_getElem
      · simp
      · intro i h1 h2; simp [h2]
    rw [this]; exact h1
theorem cw_draw {id : Nat} {l : List Oper} {Q : AExit → St → Prop} (hd : drawOk S.rcv l.toArray (fun i => (Region.before l.toArray).getD i 0) = true) (hm : marksOk l.toArray (fun i => (Region.before l.toArray).getD i 0) = true) (h : opsP S l.toArray l st (Q .normal)) : cw S (.region id l.toArray true) Q st := by
  simp only [cw, if_pos]
  exact anyP_of hd hm h
end
end Go.SL

/- SL, part N: how operations and states are rewritten. -/
namespace Go.SL
open Go

structure Sl {α : Type} (x : α) : Type where
def Sl.of {α : Type} (x : α) : Sl x := ⟨⟩
def rk (x : Option (Prop × SV)) (c : Prop) {K : SV → Prop} (_ : Sl K) : Prop :=
  match x with
  | some (vc, r) => c ∧ vc ∧ K r
  | none => False
theorem rk_some {vc c : Prop} {r : SV} {K : SV → Prop} : rk (some (vc, r)) c (Sl.of K) = (c ∧ vc ∧ K r) := rfl
def rg (g : Option Bool) (nx : Nat) (x : Option (Prop × SV)) {K : SV → Prop} (_ : Sl K) {p : Prop} (_ : Sl p) : Prop :=
  match g, x with
  | some g, some (vc, .b r) => r.lt nx ∧ (g = true → vc) ∧ K (.grd g r)
  | some g, some (vc, .grd q r) => r.lt nx ∧ (g = true → vc ∧ q = true) ∧ K (.grd g r)
  | _, _ => p
theorem rg_grd {vc : Prop} {r : BV} {K : SV → Prop} {g u : Bool} {nx : Nat} {p : Prop} {q : Sl p} : rg (some g) nx (some (vc, .grd u r)) (Sl.of K) q = (r.lt nx ∧ (g = true → vc ∧ u = true) ∧ K (.grd g r)) := rfl
theorem rg_some {vc : Prop} {r : BV} {K : SV → Prop} {g : Bool} {nx : Nat} {p : Prop} {q : Sl p} : rg (some g) nx (some (vc, .b r)) (Sl.of K) q = (r.lt nx ∧ (g = true → vc) ∧ K (.grd g r)) := rfl
def rc (x : Option (Prop × SV)) (c : Prop) : Option (Prop × SV) :=
  match x with
  | some (vc, r) => some (c ∧ vc, r)
  | none => none
theorem rc_some {vc c : Prop} {r : SV} : rc (some (vc, r)) c = some (c ∧ vc, r) := rfl
def CallS (S : Env) (st : St) (f : FuncId) (args : List BV) {K : SV → St → Prop} (_ : Sl K) : Prop := CallP S st f args K
def rgm (g : Option Bool) (c : Prop) (S : Env) (st : St) (f : FuncId) (args : List BV) (d : Option Nat) {K : St → Prop} (_ : Sl K) : Prop :=
  match g with
  | some g => ((g = true → c ∧ CallP S st f args fun r st' => K (st'.set d r)) ∧ (g = false → K (st.set d .any))) ∨
      ∃ x : BV, x.lt st.nx ∧ (g = true → c ∧ CallP S st f args fun r st' => st'.set d r = st.set d (.b x)) ∧ K (st.set d (.grd g x))
  | none => False

section
variable {S : Env} {ops : Array Oper} {rest : List Oper} {st : St} {K : St → Prop} {d : Option Nat} {ty : TypeId} {pos : String} {af : Array Edge} {gd : Nat × Bool}

theorem o_nil : opsP S ops [] st K = K st := rfl
theorem o_move {x : Operand} : opsP S ops (⟨d, .move x, ty, pos, af, none⟩ :: rest) st K = opsP S ops rest (st.set d (st.ev S x)) K := by
  simp [opsP, opG, opP, ro]
theorem o_assign {x : Operand} : opsP S ops (⟨d, .assign x, ty, pos, af, none⟩ :: rest) st K = opsP S ops rest (st.set d (st.ev S x)) K := by
  simp [opsP, opG, opP, ro]
theorem o_pick {c x y : Operand} : opsP S ops (⟨d, .pick c x y, ty, pos, af, none⟩ :: rest) st K = rk (roPick (st.ev S c) (st.ev S x) (st.ev S y)) True (Sl.of fun r => opsP S ops rest (st.set d r) K) := by
  simp only [opsP, opG, opP, ro, rk]
  split
  · rename_i h; simp only [h]; simp
  · rename_i h; simp only [h]; simp [opM]

theorem core_none {o : Oper} {K' : St → Prop} (hr : ∀ x, o.op ≠ .move x) (ha : ∀ x, o.op ≠ .assign x) (hp : ∀ c x y, o.op ≠ .pick c x y) (hM : ∀ K, opM S st (st.ev S) o.op K = False) :
    opP S st o K' = rk (roCore S st.bx (st.ev S) o.op) (condAll (o.op.operands.toList.map (st.ev S))) (Sl.of fun r => K' (st.set o.dst r)) := by
  unfold opP ro
  split
  · rename_i h
    split at h
    · rename_i x hx; exact absurd hx (hr x)
    · rename_i x hx; exact absurd hx (ha x)
    · rename_i c x y hx; exact absurd hx (hp c x y)
    · split at h
      · rename_i h2
        simp only [Option.some.injEq, Prod.mk.injEq] at h
        obtain ⟨rfl, rfl⟩ := h
        rw [h2]
        simp only [rk, and_assoc]
      · simp at h
  · rename_i h
    split at h
    · simp at h
    · simp at h
    · rename_i c x y hx; exact absurd hx (hp c x y)
    · split at h
      · simp at h
      · rename_i h2
        rw [h2, hM]
        simp only [rk, and_false]

def roFieldAddr (S : Env) (t : TypeId) (f : Nat) (x : SV) : Option (Prop × SV) :=
  match S.fld t f with
  | some (off, sz, _) => (moveBy off x).map fun y => (sz ≠ 0, y)
  | none => none
def roExtract (i : Nat) : SV → Option (Prop × SV)
  | .tup vs => some (i < vs.length, .b (vs.getD i .any))
  | _ => none
def roNil : SV → Option (Prop × SV)
  | .b (.c (.ptr id off)) => some (True, .b (.c (.ptr id off)))
  | .b (.c (.pel id sz i off)) => some (True, .b (.c (.pel id sz i off)))
  | .b (.c (.ipt sz g off)) => some (True, .b (.c (.ipt sz g off)))
  | _ => none
def roMin : SV → SV → Option (Prop × SV)
  | .b (.c (.p (.val (.int k a)))), .b (.c (.p (.val (.int k' b)))) => some (k = k', .v (.int k (if b < a then b else a)))
  | _, _ => none
def roMax : SV → SV → Option (Prop × SV)
  | .b (.c (.p (.val (.int k a)))), .b (.c (.p (.val (.int k' b)))) => some (k = k', .v (.int k (if b > a then b else a)))
  | _, _ => none
theorem o_load {t : TypeId} {x : Operand} : opsP S ops (⟨d, .load t x, ty, pos, af, none⟩ :: rest) st K = rk (roLoad S t st.bx (st.ev S x).strip) (st.ev S x).cond (Sl.of fun r => opsP S ops rest (st.set d r) K) := by
  simp only [opsP, opG]
  rw [core_none (by simp) (by simp) (by simp) (fun _ => rfl)]
  simp [roCore, Op.operands, condAll]
theorem o_fieldAddr {t : TypeId} {x : Operand} {f : Nat} : opsP S ops (⟨d, .fieldAddr t x f, ty, pos, af, none⟩ :: rest) st K =
    rk (roFieldAddr S t f (st.ev S x).strip) (st.ev S x).cond (Sl.of fun r => opsP S ops rest (st.set d r) K) := by
  simp only [opsP, opG]
  rw [core_none (by simp) (by simp) (by simp) (fun _ => rfl), show roCore S st.bx (st.ev S) (.fieldAddr t x f) = roFieldAddr S t f (st.ev S x).strip from rfl]
  simp [Op.operands, condAll]
theorem o_field {t : TypeId} {x : Operand} {f : Nat} : opsP S ops (⟨d, .field t x f, ty, pos, af, none⟩ :: rest) st K = rk (roField S t f (st.ev S x).strip) (st.ev S x).cond (Sl.of fun r => opsP S ops rest (st.set d r) K) := by
  simp only [opsP, opG]
  rw [core_none (by simp) (by simp) (by simp) (fun _ => rfl)]
  simp [roCore, Op.operands, condAll]
theorem o_indexAddr {t : TypeId} {x i : Operand} : opsP S ops (⟨d, .indexAddr t x i, ty, pos, af, none⟩ :: rest) st K =
    rk (roIndexAddr S t (st.ev S x).strip (st.ev S i).strip) ((st.ev S x).cond ∧ (st.ev S i).cond) (Sl.of fun r => opsP S ops rest (st.set d r) K) := by
  simp only [opsP, opG]
  rw [core_none (by simp) (by simp) (by simp) (fun _ => rfl)]
  simp [roCore, Op.operands, condAll]
theorem o_index {t : TypeId} {x i : Operand} : opsP S ops (⟨d, .index t x i, ty, pos, af, none⟩ :: rest) st K =
    rk (roIndex S t (st.ev S x).strip (st.ev S i).strip) ((st.ev S x).cond ∧ (st.ev S i).cond) (Sl.of fun r => opsP S ops rest (st.set d r) K) := by
  simp only [opsP, opG]
  rw [core_none (by simp) (by simp) (by simp) (fun _ => rfl)]
  simp [roCore, Op.operands, condAll]
theorem o_extract {x : Operand} {i : Nat} : opsP S ops (⟨d, .extract x i, ty, pos, af, none⟩ :: rest) st K =
    rk (roExtract i (st.ev S x).strip) (st.ev S x).cond (Sl.of fun r => opsP S ops rest (st.set d r) K) := by
  simp only [opsP, opG]
  rw [core_none (by simp) (by simp) (by simp) (fun _ => rfl), show roCore S st.bx (st.ev S) (.extract x i) = roExtract i (st.ev S x).strip from rfl]
  simp [Op.operands, condAll]
theorem o_bin {op : BinOp} {t yt : TypeId} {x y : Operand} : opsP S ops (⟨d, .binOp op t x y yt, ty, pos, af, none⟩ :: rest) st K =
    rk (roBin S op t (st.ev S x).strip (st.ev S y).strip) ((st.ev S x).cond ∧ (st.ev S y).cond) (Sl.of fun r => opsP S ops rest (st.set d r) K) := by
  simp only [opsP, opG]
  rw [core_none (by simp) (by simp) (by simp) (fun _ => rfl)]
  simp [roCore, Op.operands, condAll]
theorem o_un {op : UnOp} {t : TypeId} {x : Operand} : opsP S ops (⟨d, .unOp op t x, ty, pos, af, none⟩ :: rest) st K =
    rk (roUn op (st.ev S x).strip) (st.ev S x).cond (Sl.of fun r => opsP S ops rest (st.set d r) K) := by
  simp only [opsP, opG]
  rw [core_none (by simp) (by simp) (by simp) (fun _ => rfl)]
  simp [roCore, Op.operands, condAll]
theorem o_conv {s t : TypeId} {x : Operand} : opsP S ops (⟨d, .convert s t x, ty, pos, af, none⟩ :: rest) st K =
    rk (roConv S s t (st.ev S x).strip) (st.ev S x).cond (Sl.of fun r => opsP S ops rest (st.set d r) K) := by
  simp only [opsP, opG]
  rw [core_none (by simp) (by simp) (by simp) (fun _ => rfl)]
  simp [roCore, Op.operands, condAll]
def condO (S : Env) (st : St) : Option Operand → Prop
  | none => True
  | some x => (st.ev S x).cond
theorem o_slice {t : TypeId} {x : Operand} {lo hi : Option Operand} : opsP S ops (⟨d, .slice t x lo hi none, ty, pos, af, none⟩ :: rest) st K =
    rk (roSlice S t (st.ev S x).strip (lo.map fun x => (st.ev S x).strip) (hi.map fun x => (st.ev S x).strip)) ((st.ev S x).cond ∧ condO S st lo ∧ condO S st hi) (Sl.of fun r => opsP S ops rest (st.set d r) K) := by
  simp only [opsP, opG]
  rw [core_none (by simp) (by simp) (by simp) (fun _ => rfl)]
  cases lo <;> cases hi <;> simp [roCore, Op.operands, condAll, condO]
theorem o_nilCheck {x : Operand} : opsP S ops (⟨d, .nilCheck x, ty, pos, af, none⟩ :: rest) st K =
    rk (roNil (st.ev S x).strip) (st.ev S x).cond (Sl.of fun r => opsP S ops rest (st.set d r) K) := by
  simp only [opsP, opG]
  rw [core_none (by simp) (by simp) (by simp) (fun _ => rfl), show roCore S st.bx (st.ev S) (.nilCheck x) = roNil (st.ev S x).strip from rfl]
  simp [Op.operands, condAll]
theorem o_len {x : Operand} {t : TypeId} : opsP S ops (⟨d, .call ⟨.builtin .len, #[x], #[t]⟩, ty, pos, af, none⟩ :: rest) st K =
    rk (roLen S t (st.ev S x).strip) (st.ev S x).cond (Sl.of fun r => opsP S ops rest (st.set d r) K) := by
  simp only [opsP, opG]
  rw [core_none (by simp) (by simp) (by simp) (fun _ => by simp [opM])]
  simp [roCore, Op.operands, Call.operands, condAll]
theorem o_min {x y : Operand} {ts : Array TypeId} : opsP S ops (⟨d, .call ⟨.builtin .min, #[x, y], ts⟩, ty, pos, af, none⟩ :: rest) st K =
    rk (roMin (st.ev S x).strip (st.ev S y).strip) ((st.ev S x).cond ∧ (st.ev S y).cond) (Sl.of fun r => opsP S ops rest (st.set d r) K) := by
  simp only [opsP, opG]
  rw [core_none (by simp) (by simp) (by simp) (fun _ => by simp [opM]), show roCore S st.bx (st.ev S) (.call ⟨.builtin .min, #[x, y], ts⟩) = roMin (st.ev S x).strip (st.ev S y).strip from rfl]
  simp [Op.operands, Call.operands, condAll]
theorem o_max {x y : Operand} {ts : Array TypeId} : opsP S ops (⟨d, .call ⟨.builtin .max, #[x, y], ts⟩, ty, pos, af, none⟩ :: rest) st K =
    rk (roMax (st.ev S x).strip (st.ev S y).strip) ((st.ev S x).cond ∧ (st.ev S y).cond) (Sl.of fun r => opsP S ops rest (st.set d r) K) := by
  simp only [opsP, opG]
  rw [core_none (by simp) (by simp) (by simp) (fun _ => by simp [opM]), show roCore S st.bx (st.ev S) (.call ⟨.builtin .max, #[x, y], ts⟩) = roMax (st.ev S x).strip (st.ev S y).strip from rfl]
  simp [Op.operands, Call.operands, condAll]

def mk (x : Option (Prop × SV × St)) {K : SV → St → Prop} (_ : Sl K) : Prop :=
  match x with
  | some (vc, r, s) => vc ∧ K r s
  | none => False
theorem mk_some {vc : Prop} {r : SV} {s : St} {K : SV → St → Prop} : mk (some (vc, r, s)) (Sl.of K) = (vc ∧ K r s) := rfl

def mAlloc (S : Env) (st : St) (t : TypeId) : Option (Prop × SV × St) :=
  match S.zero t with
  | some z => some (True, .b (.c (.ptr st.nx 0)), st.newBox (.fix (z.map CV.ofV)))
  | none => none
def mBox (st : St) (x : SV) : Option (Prop × SV × St) :=
  match x with
  | .b v => some (v.one, .b (.c (.ptr st.nx 0)), st.newBox (.fix v.cells))
  | _ => none
def mBuild (S : Env) (st : St) (t : TypeId) (ps : List (Nat × Operand)) : Option (Prop × SV × St) :=
  match S.bld t, S.zero t with
  | some pl, some z => match fillL (placeOf pl) (st.ev S) ps (z.map CV.ofV) with
    | some (vc, cs) => some (vc, .b (.agg cs), st)
    | none => none
  | _, _ => none
def mBuildSlice (S : Env) (st : St) (t : TypeId) (len : Nat) (ps : List (Nat × Operand)) : Option (Prop × SV × St) :=
  match S.el t with
  | some (none, e, s, _) => match S.zero e with
    | some z => match fillL (fun i => some (i * s, s)) (st.ev S) ps ((List.range (len * s)).map fun i => CV.ofV (z.getD (i % z.length) undef)) with
      | some (vc, cs) => some (vc ∧ 0 < s ∧ z.length = s ∧ len * s ≤ 16777216 ∧ 0 ≤ len, .b (.c (.own st.nx len)), st.newBox (.arr e s len fun i j => (cs.getD (i * s + j) .any).toP))
      | none => none
    | none => none
  | _ => none
def mStore (S : Env) (st : St) (t : TypeId) (p x : SV) : Option (Prop × SV × St) :=
  match p, x, S.ti t with
  | .b (.c (.ptr id off)), .b v, some (sz, _) => match st.bx id with
    | some (.fix cs) => some (v.cells.length = sz ∧ off + sz ≤ cs.length ∧ v.one, .any, st.setBox id (.fix (putL cs off v.cells)))
    | _ => none
  | .b (.c (.pel id s i off)), .b v, some (sz, _) => match st.bx id with
    | some (.arr e s' n f) => some (s = s' ∧ i < n ∧ off + sz ≤ s ∧ v.cells.length = sz ∧ v.one ∧ v.lt 0, .any,
        st.setBox id (.arr e s' n fun i' j => if i' = i then (if off ≤ j ∧ j < off + sz then (v.cells.getD (j - off) .any).toP else f i j) else f i' j))
    | _ => none
  | _, _, _ => none
def Env.byt (S : Env) (e : TypeId) : Option Nat := (S.P.info? e).map (·.bytes)
def mMake (S : Env) (st : St) (t : TypeId) (l c : SV) : Option (Prop × SV × St) :=
  match l, c, S.el t with
  | .b (.c (.p (.val (.int _ l)))), .b (.c (.p (.val (.int _ c)))), some (none, e, s, _) => match S.zero e, S.byt e with
    | some z, some by' => some (0 ≤ l ∧ l ≤ c ∧ (by' : Int) * c ≤ 281474976710656 ∧ c ≤ 9223372036854775807 ∧ 0 < s ∧ z.length = s,
        .b (.c (.own st.nx l.toNat)), st.newBox (.arr e s l.toNat fun _ j => .val (z.getD j undef)))
    | _, _ => none
  | _, _, _ => none
def mAppend (S : Env) (st : St) (t t' : TypeId) (x y : SV) : Option (Prop × SV × St) :=
  match S.el t, srcOf st.bx y with
  | some (none, e, s, _), some (vc, sz, m, g) => match S.byt e, S.zero e, x with
    | some by', some z, .b (.c (.p (.val (.slice none 0 0)))) =>
      some (vc ∧ t = t' ∧ (sz = s ∨ m = 0) ∧ 0 < s ∧ z.length = s ∧ m * by' ≤ 140737488355328 ∧ m ≤ maxLen, .b (.c (.own st.nx m)), st.newBox (.arr e s m g))
    | some by', some z, .b (.c (.own id n)) => match st.bx id with
      | some (.arr e' s' n' f) =>
        some (vc ∧ t = t' ∧ e = e' ∧ s = s' ∧ n ≤ n' ∧ (sz = s ∨ m = 0) ∧ 0 < s ∧ z.length = s ∧ (n + m) * by' ≤ 140737488355328 ∧ n + m ≤ maxLen,
          .b (.c (.own st.nx (n + m))), (st.delBox id).newBox (.arr e s (n + m) (appF n f g)))
      | _ => none
    | _, _, _ => none
  | _, _ => none

theorem mk_alloc {t : TypeId} {K : SV → St → Prop} : opM S st (st.ev S) (.alloc t) K = mk (mAlloc S st t) (Sl.of K) := by
  simp only [opM, mAlloc]; split <;> simp_all [mk]
theorem mk_box {t : TypeId} {x : Operand} {K : SV → St → Prop} : opM S st (st.ev S) (.box t x) K = mk (mBox st (st.ev S x).strip) (Sl.of K) := by
  simp only [opM, mBox]; split <;> simp_all [mk]
theorem mk_build {t : TypeId} {ps : Array (Nat × Operand)} {K : SV → St → Prop} : opM S st (st.ev S) (.build t ps) K = mk (mBuild S st t ps.toList) (Sl.of K) := by
  simp only [opM, mBuild]
  split
  · split <;> simp_all [mk]
  · simp_all [mk]
theorem mk_buildSlice {t : TypeId} {n : Nat} {ps : Array (Nat × Operand)} {K : SV → St → Prop} : opM S st (st.ev S) (.buildSlice t n ps) K = mk (mBuildSlice S st t n ps.toList) (Sl.of K) := by
  simp only [opM, mBuildSlice]
  split
  · split
    · split <;> simp_all [mk]
    · simp_all [mk]
  · simp_all [mk]
theorem mk_store {t : TypeId} {p x : Operand} {K : SV → St → Prop} : opM S st (st.ev S) (.store t p x) K = mk (mStore S st t (st.ev S p).strip (st.ev S x).strip) (Sl.of K) := by
  simp only [opM, mStore]
  split
  · split <;> simp_all [mk]
  · split <;> simp_all [mk]
  · simp_all [mk]
theorem mk_make {t : TypeId} {l c : Operand} {K : SV → St → Prop} : opM S st (st.ev S) (.makeSlice t l c) K = mk (mMake S st t (st.ev S l).strip (st.ev S c).strip) (Sl.of K) := by
  simp only [opM, mMake, Env.byt]
  split
  · rename_i e s _ _ _ _
    cases hz : S.zero e with
    | none => simp_all [mk]
    | some z =>
      cases hi : S.P.info? e with
      | none => simp_all [mk]
      | some i => simp_all [mk]
  · simp_all [mk]
theorem mk_append {t t' : TypeId} {x y : Operand} {K : SV → St → Prop} : opM S st (st.ev S) (.call ⟨.builtin .append, #[x, y], #[t, t']⟩) K = mk (mAppend S st t t' (st.ev S x).strip (st.ev S y).strip) (Sl.of K) := by
  simp only [opM, mAppend, Env.byt]
  split
  · rename_i e s ag vc sz m g _ _
    cases hi : S.P.info? e with
    | none => simp_all [mk]
    | some i =>
      cases hz : S.zero e with
      | none => simp_all [mk]
      | some z =>
        simp only [*, Option.map_some]
        split
        · simp_all [mk]
        · split <;> simp_all [mk]
        · simp_all [mk]
  · simp_all [mk]

theorem m_op {o : Oper} {K' : St → Prop} (hro : ro S st.bx (st.ev S) o.op = none) : opP S st o K' = (condAll (o.op.operands.toList.map (st.ev S)) ∧ opM S st (st.ev S) o.op fun r st' => K' (st'.set o.dst r)) := by
  unfold opP; rw [hro]

theorem o_alloc {t : TypeId} : opsP S ops (⟨d, .alloc t, ty, pos, af, none⟩ :: rest) st K =
    mk (mAlloc S st t) (Sl.of fun r st' => opsP S ops rest (st'.set d r) K) := by
  simp only [opsP, opG]; rw [m_op rfl, mk_alloc]; simp [Op.operands, condAll]
theorem o_box {t : TypeId} {x : Operand} : opsP S ops (⟨d, .box t x, ty, pos, af, none⟩ :: rest) st K =
    ((st.ev S x).cond ∧ mk (mBox st (st.ev S x).strip) (Sl.of fun r st' => opsP S ops rest (st'.set d r) K)) := by
  simp only [opsP, opG]; rw [m_op rfl, mk_box]; simp [Op.operands, condAll]
theorem o_build {t : TypeId} {ps : Array (Nat × Operand)} : opsP S ops (⟨d, .build t ps, ty, pos, af, none⟩ :: rest) st K =
    (condAll (ps.toList.map fun p => st.ev S p.2) ∧ mk (mBuild S st t ps.toList) (Sl.of fun r st' => opsP S ops rest (st'.set d r) K)) := by
  simp only [opsP, opG]; rw [m_op rfl, mk_build]; simp [Op.operands]; exact fun _ => Iff.rfl
theorem o_buildSlice {t : TypeId} {n : Nat} {ps : Array (Nat × Operand)} : opsP S ops (⟨d, .buildSlice t n ps, ty, pos, af, none⟩ :: rest) st K =
    (condAll (ps.toList.map fun p => st.ev S p.2) ∧ mk (mBuildSlice S st t n ps.toList) (Sl.of fun r st' => opsP S ops rest (st'.set d r) K)) := by
  simp only [opsP, opG]; rw [m_op rfl, mk_buildSlice]; simp [Op.operands]; exact fun _ => Iff.rfl
theorem o_store {t : TypeId} {x y : Operand} : opsP S ops (⟨d, .store t x y, ty, pos, af, none⟩ :: rest) st K =
    (((st.ev S x).cond ∧ (st.ev S y).cond) ∧ mk (mStore S st t (st.ev S x).strip (st.ev S y).strip) (Sl.of fun r st' => opsP S ops rest (st'.set d r) K)) := by
  simp only [opsP, opG]; rw [m_op rfl, mk_store]; simp [Op.operands, condAll]
theorem o_make {t : TypeId} {x y : Operand} : opsP S ops (⟨d, .makeSlice t x y, ty, pos, af, none⟩ :: rest) st K =
    (((st.ev S x).cond ∧ (st.ev S y).cond) ∧ mk (mMake S st t (st.ev S x).strip (st.ev S y).strip) (Sl.of fun r st' => opsP S ops rest (st'.set d r) K)) := by
  simp only [opsP, opG]; rw [m_op rfl, mk_make]; simp [Op.operands, condAll]
theorem o_append {x y : Operand} {t t' : TypeId} : opsP S ops (⟨d, .call ⟨.builtin .append, #[x, y], #[t, t']⟩, ty, pos, af, none⟩ :: rest) st K =
    (((st.ev S x).cond ∧ (st.ev S y).cond) ∧ mk (mAppend S st t t' (st.ev S x).strip (st.ev S y).strip) (Sl.of fun r st' => opsP S ops rest (st'.set d r) K)) := by
  simp only [opsP, opG]; rw [m_op rfl, mk_append]; simp [Op.operands, Call.operands, condAll]
theorem o_call {f : FuncId} {args : Array Operand} {ts : Array TypeId} : opsP S ops (⟨d, .call ⟨.value (.func f), args, ts⟩, ty, pos, af, none⟩ :: rest) st K =
    (condAll (args.toList.map (st.ev S)) ∧ CallS S st f (args.toList.map fun x => stripB (st.ev S x)) (Sl.of fun r st' => opsP S ops rest (st'.set d r) K)) := by
  simp only [opsP, opG]
  rw [m_op (by simp [ro, roCore])]
  simp [Op.operands, Call.operands, condAll, opM, St.ev, SV.cond, CallS]

end

/-! Under a guard -/
section
variable {S : Env} {ops : Array Oper} {rest : List Oper} {st : St} {K : St → Prop} {d : Option Nat} {ty : TypeId} {pos : String} {af : Array Edge} {j : Nat} {want : Bool} {bx : Nat → Option Bx} {ev : Operand → SV}
theorem core_rc {op : Op} (hr : ∀ x, op ≠ .move x) (ha : ∀ x, op ≠ .assign x) (hp : ∀ c x y, op ≠ .pick c x y) : ro S bx ev op = rc (roCore S bx ev op) (condAll (op.operands.toList.map ev)) := by
  unfold ro rc
  split
  · rename_i x; exact absurd rfl (hr x)
  · rename_i x; exact absurd rfl (ha x)
  · rename_i c x y; exact absurd rfl (hp c x y)
  · rfl
theorem ro_move {x : Operand} : ro S bx ev (.move x) = some (True, ev x) := rfl
theorem ro_assign {x : Operand} : ro S bx ev (.assign x) = some (True, ev x) := rfl
theorem ro_pick {c x y : Operand} : ro S bx ev (.pick c x y) = roPick (ev c) (ev x) (ev y) := rfl
theorem ro_load {t : TypeId} {x : Operand} : ro S bx ev (.load t x) = rc (roLoad S t bx (ev x).strip) (ev x).cond := by
  rw [core_rc (by simp) (by simp) (by simp)]; simp [roCore, Op.operands, condAll]
theorem ro_fieldAddr {t : TypeId} {x : Operand} {f : Nat} : ro S bx ev (.fieldAddr t x f) = rc (roFieldAddr S t f (ev x).strip) (ev x).cond := by
  rw [core_rc (by simp) (by simp) (by simp)]; simp [roCore, roFieldAddr, Op.operands, condAll]; rfl
theorem ro_field {t : TypeId} {x : Operand} {f : Nat} : ro S bx ev (.field t x f) = rc (roField S t f (ev x).strip) (ev x).cond := by
  rw [core_rc (by simp) (by simp) (by simp)]; simp [roCore, Op.operands, condAll]
theorem ro_indexAddr {t : TypeId} {x i : Operand} : ro S bx ev (.indexAddr t x i) = rc (roIndexAddr S t (ev x).strip (ev i).strip) ((ev x).cond ∧ (ev i).cond) := by
  rw [core_rc (by simp) (by simp) (by simp)]; simp [roCore, Op.operands, condAll]
theorem ro_index {t : TypeId} {x i : Operand} : ro S bx ev (.index t x i) = rc (roIndex S t (ev x).strip (ev i).strip) ((ev x).cond ∧ (ev i).cond) := by
  rw [core_rc (by simp) (by simp) (by simp)]; simp [roCore, Op.operands, condAll]
theorem ro_extract {x : Operand} {i : Nat} : ro S bx ev (.extract x i) = rc (roExtract i (ev x).strip) (ev x).cond := by
  rw [core_rc (by simp) (by simp) (by simp)]; simp [roCore, roExtract, Op.operands, condAll]; rfl
theorem ro_bin {op : BinOp} {t yt : TypeId} {x y : Operand} : ro S bx ev (.binOp op t x y yt) = rc (roBin S op t (ev x).strip (ev y).strip) ((ev x).cond ∧ (ev y).cond) := by
  rw [core_rc (by simp) (by simp) (by simp)]; simp [roCore, Op.operands, condAll]
theorem ro_un {op : UnOp} {t : TypeId} {x : Operand} : ro S bx ev (.unOp op t x) = rc (roUn op (ev x).strip) (ev x).cond := by
  rw [core_rc (by simp) (by simp) (by simp)]; simp [roCore, Op.operands, condAll]
theorem ro_conv {s t : TypeId} {x : Operand} : ro S bx ev (.convert s t x) = rc (roConv S s t (ev x).strip) (ev x).cond := by
  rw [core_rc (by simp) (by simp) (by simp)]; simp [roCore, Op.operands, condAll]
theorem ro_nilCheck {x : Operand} : ro S bx ev (.nilCheck x) = rc (roNil (ev x).strip) (ev x).cond := by
  rw [core_rc (by simp) (by simp) (by simp)]; simp [roCore, roNil, Op.operands, condAll]; rfl
theorem ro_len {x : Operand} {t : TypeId} : ro S bx ev (.call ⟨.builtin .len, #[x], #[t]⟩) = rc (roLen S t (ev x).strip) (ev x).cond := by
  rw [core_rc (by simp) (by simp) (by simp)]; simp [roCore, Op.operands, Call.operands, condAll]

theorem g_ro {op : Op} : opsP S ops (⟨d, op, ty, pos, af, some (j, want)⟩ :: rest) st K =
    rg (guardV st ((ops[j]?).bind (·.dst)) want) st.nx (ro S st.bx (st.ev S) op) (Sl.of fun r => opsP S ops rest (st.set d r) K) (Sl.of (opsP S ops (⟨d, op, ty, pos, af, some (j, want)⟩ :: rest) st K)) := by
  unfold rg
  split
  · rename_i g vc r h1 h2
    simp only [opsP, opG]
    rw [h1]
    simp only [h2]
  · rename_i g vc u r h1 h2
    simp only [opsP, opG]
    rw [h1]
    simp only [h2]
  · rfl
theorem g_call {f : FuncId} {args : Array Operand} {ts : Array TypeId} : opsP S ops (⟨d, .call ⟨.value (.func f), args, ts⟩, ty, pos, af, some (j, want)⟩ :: rest) st K =
    rgm (guardV st ((ops[j]?).bind (·.dst)) want) (condAll (args.toList.map (st.ev S))) S st f (args.toList.map fun x => stripB (st.ev S x)) d (Sl.of fun st' => opsP S ops rest st' K) := by
  simp only [opsP, opG]
  cases guardV st ((ops[j]?).bind (·.dst)) want with
  | none => rfl
  | some g =>
    simp only [rgm]
    rw [show ro S st.bx (st.ev S) (.call ⟨.value (.func f), args, ts⟩) = none by simp [ro, roCore]]
    have hm : ∀ K' : St → Prop, opP S st ⟨d, .call ⟨.value (.func f), args, ts⟩, ty, pos, af, some (j, want)⟩ K' =
        (condAll (args.toList.map (st.ev S)) ∧ CallP S st f (args.toList.map fun x => stripB (st.ev S x)) fun r st' => K' (st'.set d r)) := fun K' => by
      rw [m_op (by simp [ro, roCore])]
      simp [Op.operands, Call.operands, condAll, opM, St.ev, SV.cond]
    simp only [hm]
end
def rgB (g : Option Bool) (nx : Nat) (x : Option (Prop × SV × St)) (c : Prop) {K : SV → Prop} (_ : Sl K) {p : Prop} (_ : Sl p) : Prop :=
  match g, x with
  | some g, some (vc, .b r, _) => (r.lt nx ∧ (g = true → c ∧ vc) ∧ K (.grd g r)) ∨ p
  | _, _ => p
theorem rgB_some {vc c : Prop} {r : BV} {K : SV → Prop} {g : Bool} {nx : Nat} {p : Prop} {q : Sl p} {s : St} (h : r.lt nx ∧ (g = true → c ∧ vc) ∧ K (.grd g r)) : rgB (some g) nx (some (vc, .b r, s)) c (Sl.of K) q := .inl h
section
variable {S : Env} {ops : Array Oper} {rest : List Oper} {st : St} {K : St → Prop} {d : Option Nat} {ty : TypeId} {pos : String} {af : Array Edge} {j : Nat} {want : Bool}
theorem mBuild_st {t : TypeId} {ps : List (Nat × Operand)} {vc : Prop} {r : SV} {s : St} (h : mBuild S st t ps = some (vc, r, s)) : s = st := by
  unfold mBuild at h
  split at h
  · split at h
    · simp only [Option.some.injEq, Prod.mk.injEq] at h; exact h.2.2.symm
    · cases h
  · cases h
theorem g_build {t : TypeId} {ps : Array (Nat × Operand)} : opsP S ops (⟨d, .build t ps, ty, pos, af, some (j, want)⟩ :: rest) st K =
    rgB (guardV st ((ops[j]?).bind (·.dst)) want) st.nx (mBuild S st t ps.toList) (condAll (ps.toList.map fun p => st.ev S p.2)) (Sl.of fun r => opsP S ops rest (st.set d r) K) (Sl.of (opsP S ops (⟨d, .build t ps, ty, pos, af, some (j, want)⟩ :: rest) st K)) := by
  unfold rgB
  split
  · rename_i g vc r s h1 h2
    have hs := mBuild_st h2
    subst hs
    refine propext ⟨fun h => .inr h, fun h => ?_⟩
    rcases h with h | h
    · simp only [opsP, opG]
      rw [h1]
      have hro : ro S s.bx (s.ev S) (.build t ps) = none := rfl
      simp only [hro]
      refine .inr ⟨r, h.1, fun hg => ?_, h.2.2⟩
      rw [m_op hro]
      refine ⟨?_, ?_⟩
      · have := (h.2.1 hg).1
        simp only [Op.operands, List.map_map]
        exact this
      · show opM S s (s.ev S) (.build t ps) _
        rw [mk_build, h2]
        exact ⟨(h.2.1 hg).2, rfl⟩
    · exact h
  · rfl
end

section
variable {S : Env} {ops : Array Oper} {rest : List Oper} {st : St} {K : St → Prop} {d : Option Nat} {ty : TypeId} {pos : String} {af : Array Edge} {gd : Nat × Bool}
/-! States -/
theorem ev_tmp {t : Nat} : st.ev S (.tmp t) = st.fr t := rfl
theorem ev_const {v : Value} : st.ev S (.const v) = .b (.c (.p (.val v))) := rfl
theorem ev_func {f : Nat} : st.ev S (.func f) = .v (.func (.func f) #[] #[]) := rfl
theorem ev_global {g : Nat} : st.ev S (.global g) = (match S.gl g with | some (n, f) => .b (.c (.ipt n f 0)) | none => .any) := rfl
theorem set_none {v : SV} : st.set none v = st := rfl
theorem fr_set {k s : Nat} {v : SV} : (st.set (some k) v).fr s = if s = k then v else st.fr s := rfl
theorem bx_set {k : Option Nat} {v : SV} : (st.set k v).bx = st.bx := by cases k <;> rfl
theorem nx_set {k : Option Nat} {v : SV} : (st.set k v).nx = st.nx := by cases k <;> rfl
theorem fr_newBox {x : Bx} : (st.newBox x).fr = st.fr := rfl
theorem bx_newBox {x : Bx} {i : Nat} : (st.newBox x).bx i = if i = st.nx then some x else st.bx i := rfl
theorem nx_newBox {x : Bx} : (st.newBox x).nx = st.nx + 1 := rfl
theorem fr_setBox {x : Bx} {i : Nat} : (st.setBox i x).fr = st.fr := rfl
theorem bx_setBox {x : Bx} {i j : Nat} : (st.setBox i x).bx j = if j = i then some x else st.bx j := rfl
theorem nx_setBox {x : Bx} {i : Nat} : (st.setBox i x).nx = st.nx := rfl
theorem fr_delBox {i : Nat} : (st.delBox i).fr = st.fr := rfl
theorem bx_delBox {i j : Nat} : (st.delBox i).bx j = if j = i then none else st.bx j := rfl
theorem nx_delBox {i : Nat} : (st.delBox i).nx = st.nx := rfl
theorem fr_st0 {args : List BV} : (st0 args).fr = frArgs args 0 := rfl
theorem bx_st0 {args : List BV} {i : Nat} : (st0 args).bx i = none := rfl
theorem nx_st0 {args : List BV} : (st0 args).nx = 0 := rfl
theorem fr_st1 {cs : List PV} {args : List BV} {s : Nat} : (st1 cs args).fr s = if s = 0 then .b (.c (.ptr 0 0)) else frArgs args 1 s := rfl
theorem bx_st1 {cs : List PV} {args : List BV} {i : Nat} : (st1 cs args).bx i = if i = 0 then some (.fix (cs.map CV.p)) else none := rfl
theorem nx_st1 {cs : List PV} {args : List BV} : (st1 cs args).nx = 1 := rfl
theorem frArgs_nil {k s : Nat} : frArgs [] k s = .any := rfl
theorem frArgs_cons {x : BV} {r : List BV} {k s : Nat} : frArgs (x :: r) k s = if s = k then .b x else frArgs r (k + 1) s := rfl
theorem frOf_nil {s : Nat} : frOf [] s = .any := rfl
theorem frOf_cons {k s : Nat} {v : SV} {r : List (Nat × SV)} : frOf ((k, v) :: r) s = if s = k then v else frOf r s := rfl
theorem bxOf_nil {s : Nat} : bxOf [] s = none := rfl
theorem bxOf_cons {k s : Nat} {v : Bx} {r : List (Nat × Bx)} : bxOf ((k, v) :: r) s = if s = k then some v else bxOf r s := rfl
theorem strip_b {x : BV} : (SV.b x).strip = .b x := rfl
theorem strip_grd {p : Bool} {x : BV} : (SV.grd p x).strip = .b x := rfl
theorem strip_tup {x : List BV} : (SV.tup x).strip = .tup x := rfl
theorem cond_b {x : BV} : (SV.b x).cond = True := rfl
theorem cond_grd {p : Bool} {x : BV} : (SV.grd p x).cond = (p = true) := rfl
theorem cond_tup {x : List BV} : (SV.tup x).cond = True := rfl
theorem stripB_b {x : BV} : stripB (.b x) = x := rfl
theorem stripB_grd {p : Bool} {x : BV} : stripB (.grd p x) = x := rfl
theorem condAll_nil : condAll [] = True := rfl
theorem condAll_cons {x : SV} {r : List SV} : condAll (x :: r) = (x.cond ∧ condAll r) := rfl
theorem condO_none : condO S st none = True := rfl
theorem condO_some {x : Operand} : condO S st (some x) = (st.ev S x).cond := rfl
theorem thenQ_normal {n : St → Prop} {Q : AExit → St → Prop} : thenQ n Q .normal st = n st := rfl
theorem thenQ_ret {n : St → Prop} {Q : AExit → St → Prop} : thenQ n Q .ret st = Q .ret st := rfl
theorem thenQ_exit {n : St → Prop} {Q : AExit → St → Prop} {id : Nat} : thenQ n Q (.exit id) st = Q (.exit id) st := rfl
theorem blockQ_normal {id : Nat} {Q : AExit → St → Prop} : blockQ id Q .normal st = Q .normal st := rfl
theorem blockQ_ret {id : Nat} {Q : AExit → St → Prop} : blockQ id Q .ret st = Q .ret st := rfl
theorem blockQ_exit {id id' : Nat} {Q : AExit → St → Prop} : blockQ id Q (.exit id') st = if id' = id then Q .normal st else Q (.exit id') st := rfl
theorem retQ_ret {rs : List ResultVar} {R : SV → Prop} : retQ S rs R .ret st = retP S rs R st := rfl
theorem retQ_normal {rs : List ResultVar} {R : SV → Prop} : retQ S rs R .normal st = retP S rs R st := rfl
theorem recQ_ret {rs : List ResultVar} {R : SV → List PV → Prop} : recQ S rs R .ret st = recP S rs R st := rfl
theorem recQ_normal {rs : List ResultVar} {R : SV → List PV → Prop} : recQ S rs R .normal st = recP S rs R st := rfl
end

section
variable {S : Env} {st : St} {Q : AExit → St → Prop}
theorem cw_step {id : Nat} {l : List Oper} {y : Code} (h : ∀ K : St → Prop, (∀ s, cw S y Q s → K s) → opsP S l.toArray l st K) : cw S (.seq (.region id l.toArray false) y) Q st :=
  cw_seq (cw_region (h _ fun _ h => h))
theorem cw_last {id : Nat} {l : List Oper} (h : ∀ K : St → Prop, (∀ s, Q .normal s → K s) → opsP S l.toArray l st K) : cw S (.region id l.toArray false) Q st :=
  cw_region (h _ fun _ h => h)
theorem cw_stepD {id : Nat} {l : List Oper} {y : Code} (hd : drawOk S.rcv l.toArray (fun i => (Region.before l.toArray).getD i 0) = true) (hm : marksOk l.toArray (fun i => (Region.before l.toArray).getD i 0) = true)
    (h : ∀ K : St → Prop, (∀ s, cw S y Q s → K s) → opsP S l.toArray l st K) : cw S (.seq (.region id l.toArray true) y) Q st :=
  cw_seq (cw_draw hd hm (h _ fun _ h => h))
theorem cw_lastD {id : Nat} {l : List Oper} (hd : drawOk S.rcv l.toArray (fun i => (Region.before l.toArray).getD i 0) = true) (hm : marksOk l.toArray (fun i => (Region.before l.toArray).getD i 0) = true)
    (h : ∀ K : St → Prop, (∀ s, Q .normal s → K s) → opsP S l.toArray l st K) : cw S (.region id l.toArray true) Q st :=
  cw_draw hd hm (h _ fun _ h => h)
theorem cw_assoc {x y z : Code} (h : cw S (.seq x (.seq y z)) Q st) : cw S (.seq (.seq x y) z) Q st :=
  cw_mono x (fun e s hs => by cases e <;> exact hs) h
theorem cw_if {c : Operand} {x y z : Code} {t : Bool} (hc : st.ev S c = .t t) (h1 : t = true → cw S (.seq x z) Q st) (h2 : t = false → cw S (.seq y z) Q st) : cw S (.seq (.cond c x y) z) Q st :=
  cw_cond hc h1 h2
theorem cw_skips {z : Code} (h : cw S z Q st) : cw S (.seq .skip z) Q st := .inr h
theorem cw_labels {z : Code} {l : Nat} (h : cw S z Q st) : cw S (.seq (.label l) z) Q st := .inr h
theorem cw_rets {z : Code} (h : Q .ret st) : cw S (.seq .ret z) Q st := h
theorem cw_exits {z : Code} {id : Nat} (h : Q (.exit id) st) : cw S (.seq (.exit id) z) Q st := h
theorem cw_blocks {z x : Code} {id : Nat} (h : ∀ K : St → Prop, (∀ s, cw S z Q s → K s) → cw S x (blockQ id (thenQ K Q)) st) : cw S (.seq (.block id x) z) Q st :=
  cw_seq (h _ fun _ h => h)
end

def argsLt : List BV → Prop
  | [] => True
  | x :: r => x.lt 0 ∧ argsLt r
theorem argsLt_mem : ∀ {l : List BV}, argsLt l → ∀ x ∈ l, BV.lt 0 x
  | _ :: _, h, _, .head _ => h.1
  | _ :: _, h, _, .tail _ hm => argsLt_mem h.2 _ hm
theorem argsLe_refl : ∀ (l : List BV), argsLe l l
  | [] => trivial
  | _ :: r => ⟨fun _ _ _ _ h => h, argsLe_refl r⟩
section
variable {S : Env} {st : St} {f : FuncId} {args args' : List BV} {K : SV → St → Prop}
theorem call_eq {X : SV} (h : Pure S f args (fun r => r = X)) (hl : argsLt args) (hk : K X st) : CallS S st f args (Sl.of K) :=
  .pure args _ h (argsLe_refl _) (argsLt_mem hl) hk
theorem call_as {X : SV} (hk : K X st) (ha : args = args') (hl : argsLt args') (h : Pure S f args' (fun r => r = X)) : CallS S st f args (Sl.of K) :=
  .pure args' _ h (ha ▸ argsLe_refl _) (argsLt_mem hl) hk
theorem gcall_eq {X : BV} {g : Bool} {c : Prop} {d : Option Nat} {K : St → Prop} (h : g = true → Pure S f args (fun r => r = .b X)) (hl : argsLt args) (hx : X.lt st.nx) (hc : g = true → c) (hk : K (st.set d (.grd g X))) : rgm (some g) c S st f args d (Sl.of K) :=
  .inr ⟨X, hx, fun hg => ⟨hc hg, .pure args _ (h hg) (argsLe_refl _) (argsLt_mem hl) rfl⟩, hk⟩
end

attribute [go_sem] List.getElem?_toArray Option.bind_some Option.map_some Option.map_none Option.getD_some Option.getD_none true_and and_true List.drop_succ_cons List.drop_zero List.drop_nil List.take_succ_cons List.take_zero List.take_nil
  List.getD_cons_zero List.getD_cons_succ List.getD_nil List.length_cons List.length_nil List.map_cons List.map_nil List.cons_append List.nil_append List.append_nil List.getElem?_cons_zero List.getElem?_cons_succ argsLt cond_true cond_false
def cellsLt (nx : Nat) : List CV → Prop
  | [] => True
  | x :: r => CV.lt nx x ∧ cellsLt nx r
theorem cellsLt_iff {nx : Nat} : ∀ {l : List CV}, cellsLt nx l ↔ ∀ c ∈ l, CV.lt nx c
  | [] => by simp [cellsLt]
  | x :: r => by simp [cellsLt, cellsLt_iff (l := r)]
def bvsLt (nx : Nat) : List BV → Prop
  | [] => True
  | x :: r => BV.lt nx x ∧ bvsLt nx r
theorem bvsLt_iff {nx : Nat} : ∀ {l : List BV}, bvsLt nx l ↔ ∀ c ∈ l, BV.lt nx c
  | [] => by simp [bvsLt]
  | x :: r => by simp [bvsLt, bvsLt_iff (l := r)]
section
variable {nx : Nat}
theorem lt_agg {cs : List CV} : BV.lt nx (.agg cs) = cellsLt nx cs := propext cellsLt_iff.symm
theorem lt_ag {l : List PV} : BV.lt nx (.agg (l.map CV.p)) = True := by
  simp [BV.lt, CV.lt]
theorem lt_cmap {l : List PV} : cellsLt nx (l.map CV.p) = True := by
  rw [cellsLt_iff]; simp [CV.lt]
theorem lt_c {x : CV} : BV.lt nx (.c x) = CV.lt nx x := rfl
theorem lt_cp {x : PV} : CV.lt nx (.p x) = True := rfl
theorem lt_ptr {i o : Nat} : CV.lt nx (.ptr i o) = (i < nx) := rfl
theorem lt_pel {i s o n : Nat} : CV.lt nx (.pel i s n o) = (i < nx) := rfl
theorem lt_own {i n : Nat} : CV.lt nx (.own i n) = (i < nx) := rfl
theorem lt_ipt {s o : Nat} {g : Nat → PV} : CV.lt nx (.ipt s g o) = True := rfl
theorem lt_nil : cellsLt nx [] = True := rfl
theorem lt_cons {x : CV} {r : List CV} : cellsLt nx (x :: r) = (CV.lt nx x ∧ cellsLt nx r) := rfl
theorem lts_nil : bvsLt nx [] = True := rfl
theorem lts_cons {x : BV} {r : List BV} : bvsLt nx (x :: r) = (BV.lt nx x ∧ bvsLt nx r) := rfl
theorem lt_sb {x : BV} : SV.lt nx (.b x) = BV.lt nx x := rfl
theorem lt_stup {x : List BV} : SV.lt nx (.tup x) = bvsLt nx x := propext bvsLt_iff.symm
theorem lt_sgrd {x : BV} {p : Bool} : SV.lt nx (.grd p x) = BV.lt nx x := rfl
theorem lt_sany : SV.lt nx .any = True := rfl
theorem lt_bfix {l : List CV} : Bx.lt nx (.fix l) = cellsLt nx l := propext cellsLt_iff.symm
theorem lt_barr {e s n : Nat} {f : Nat → Nat → PV} : Bx.lt nx (.arr e s n f) = True := rfl
end
attribute [go_sem] lt_agg lt_cmap lt_c lt_cp lt_ptr lt_pel lt_own lt_ipt lt_nil lt_cons lts_nil lts_cons lt_sb lt_stup lt_sgrd lt_sany lt_bfix lt_barr
attribute [go_sem ↓] lt_ag
attribute [go_sem ↓] g_ro
attribute [go_sem ↓ 1100] g_call g_build
attribute [go_sem] ro_move ro_assign ro_pick ro_load ro_fieldAddr ro_field ro_indexAddr ro_index ro_extract ro_bin ro_un ro_conv ro_nilCheck ro_len
attribute [go_sem] rk_some rg_some rg_grd mk_some rc_some
attribute [go_sem ↓] o_nil o_move o_assign o_pick o_load o_fieldAddr o_field o_indexAddr o_index o_extract o_bin o_un o_conv o_slice o_nilCheck o_len o_min o_max
  o_alloc o_box o_build o_buildSlice o_store o_make o_append o_call
attribute [go_sem] ev_tmp ev_const ev_func ev_global set_none fr_set bx_set nx_set fr_newBox bx_newBox nx_newBox fr_setBox bx_setBox nx_setBox fr_delBox bx_delBox nx_delBox
  fr_st0 bx_st0 nx_st0 fr_st1 bx_st1 nx_st1 frArgs_nil frArgs_cons frOf_nil frOf_cons bxOf_nil bxOf_cons strip_b strip_grd strip_tup cond_b cond_grd cond_tup stripB_b stripB_grd condAll_nil condAll_cons condO_none condO_some
  thenQ_normal thenQ_ret thenQ_exit blockQ_normal blockQ_ret blockQ_exit retQ_ret retQ_normal recQ_ret recQ_normal
attribute [go_sem] valsOf roPick roLoad moveBy roField roIndexAddr roIndex roBin ibin roUn roConv roLen roFieldAddr roExtract roNil roMin roMax roSlice bound? mAlloc mBox mBuild mBuildSlice mStore mMake mAppend fillL placeOf putL srcOf BV.cells BV.one CV.one CV.ofV CV.toP guardV
  retP resAll resP recP lendB lendC lendAB lendAC
end Go.SL

/- SL, part O: numbers without their wraps; lists of records as slices. -/
namespace Go.SL
open Go
open Go.RowKit (wrap64)

theorem w64 {n : Int} (h1 : -9223372036854775808 ≤ n) (h2 : n ≤ 9223372036854775807) : wrap64 n = n := IntWalk.wrap64_in n ⟨h1, h2⟩
theorem w64' {n : Int} (h1 : -9223372036854775808 ≤ n) (h2 : n ≤ 9223372036854775807) : IntKind.i64.wrap n = n := IntWalk.i64_in n ⟨h1, h2⟩
theorem wu16 {n : Int} (h1 : 0 ≤ n) (h2 : n ≤ 65535) : IntKind.u16.wrap n = n := IntWalk.u16_in n ⟨h1, h2⟩
theorem wu64 {n : Int} (h1 : 0 ≤ n) (h2 : n ≤ 18446744073709551615) : IntKind.u64.wrap n = n := by
  simp only [IntKind.wrap, IntKind.bits, IntKind.signed]
  simp
  omega
theorem tdiv_le {n k : Int} : ((n.tdiv k).natAbs) ≤ n.natAbs := by
  rw [Int.natAbs_tdiv]; exact Nat.div_le_self _ _
theorem wtdiv {n k : Int} (h1 : -9223372036854775808 ≤ n) (h2 : n ≤ 9223372036854775807) (hk : 2 ≤ k) : IntKind.i64.wrap (n.tdiv k) = n.tdiv k := by
  have h := @tdiv_le n k
  refine w64' (by omega) ?_
  by_cases h0 : n = -9223372036854775808
  · subst h0
    have : (-9223372036854775808 : Int).tdiv k ≤ 0 := by
      rw [Int.neg_tdiv]
      have := Int.tdiv_nonneg (a := 9223372036854775808) (b := k) (by omega) (by omega)
      omega
    omega
  · omega
theorem i64_wrap (n : Int) : -9223372036854775808 ≤ IntKind.i64.wrap n ∧ IntKind.i64.wrap n ≤ 9223372036854775807 := by
  simp only [IntKind.wrap, IntKind.bits, IntKind.signed]
  simp
  split <;> omega
theorem tdivP {a b : Int} (h : 0 ≤ a) : a.tdiv b = a / b := Int.tdiv_eq_ediv_of_nonneg h
theorem tmodP {a b : Int} (h : 0 ≤ a) : a.tmod b = a % b := Int.tmod_eq_emod_of_nonneg h

def fnOf {α : Type} [Inhabited α] (enc : α → List PV) (xs : List α) : Nat → Nat → PV := fun i j => (enc (xs.getD i default)).getD j .any

theorem PV.le_refl (x : PV) : PV.le x x := fun _ _ _ h => h
theorem nil_le {sz : Nat} {f : Nat → Nat → PV} : PV.le (.val (.slice none 0 0)) (.lst sz 0 f) := fun _ _ u h => by
  have : u = .slice none 0 0 := h
  subst this
  exact ⟨none, 0, rfl, Nat.le_refl _, fun h => absurd h (Nat.lt_irrefl 0)⟩
theorem lst_le {sz n : Nat} {f g : Nat → Nat → PV} (h : ∀ i, i < n → ∀ j, j < sz → f i j = g i j) : PV.le (.lst sz n f) (.lst sz n g) := fun _ _ u hu => by
  obtain ⟨a, c, e, hn, hb⟩ := hu
  refine ⟨a, c, e, hn, fun h0 => ?_⟩
  obtain ⟨b, o, ha, hok, hc⟩ := hb h0
  refine ⟨b, o, ha, hok, fun i hi j hj => ?_⟩
  rw [← h i hi j hj]
  exact hc i hi j hj
theorem lst_le0 {sz sz' : Nat} {f g : Nat → Nat → PV} : PV.le (.lst sz 0 f) (.lst sz' 0 g) := fun _ _ u hu => by
  obtain ⟨a, c, e, hn, _⟩ := hu
  exact ⟨a, c, e, hn, fun h => absurd h (Nat.lt_irrefl 0)⟩

theorem one_int {k : IntKind} {n : Int} : (Value.int k n).oneCell' = true := rfl
theorem one_bool {b : Bool} : (Value.bool b).oneCell' = true := rfl
theorem one_string {s : ByteArray} : (Value.string s).oneCell' = true := rfl
theorem one_slice {o n : Nat} : (Value.slice none o n).oneCell' = true := rfl
attribute [go_sem] one_int one_bool one_string one_slice
theorem fnOf_app {α : Type} [Inhabited α] {enc : α → List PV} {xs : List α} {i j : Nat} : fnOf enc xs i j = (enc (xs.getD i default)).getD j .any := rfl
theorem maxLen_eq : maxLen = 9223372036854775807 := by decide
attribute [go_sem] maxLen_eq
theorem bif_and {a b : Bool} : (bif a then b else false) = (a && b) := by cases a <;> rfl
theorem bif_or {a b : Bool} : (bif a then true else b) = (a || b) := by cases a <;> rfl
attribute [go_sem] bif_and bif_or
theorem arr_push {α : Type} [Inhabited α] {enc : α → List PV} {xs : List α} {x : α} {s : Nat} {g : Nat → Nat → PV} (hg : ∀ j, j < s → g 0 j = (enc x).getD j .any) :
    ∀ i, i < xs.length + 1 → ∀ j, j < s → PV.le (appF xs.length (fnOf enc xs) g i j) (fnOf enc (xs ++ [x]) i j) := fun i hi j hj => by
  have : appF xs.length (fnOf enc xs) g i j = fnOf enc (xs ++ [x]) i j := by
    unfold appF fnOf
    split
    · rename_i h; simp only [List.getD_eq_getElem?_getD, List.getElem?_append_left h]
    · rename_i h
      have : i = xs.length := by omega
      subst this
      rw [Nat.sub_self, hg j hj]
      simp
  rw [this]; exact PV.le_refl _
attribute [go_sem] fnOf_app
end Go.SL

/- SL, part Q: ifs whose branches meet; loops. -/
namespace Go.SL
open Go

def atN (s1 : St) : AExit → St → Prop
  | .normal, s => s = s1
  | _, _ => False
theorem atN_intro {s : St} : atN s .normal s := rfl
def St.ite (t : Bool) (s1 s2 : St) : St :=
  { fr := fun k => if t = true then s1.fr k else s2.fr k, bx := fun i => if t = true then s1.bx i else s2.bx i, nx := if t = true then s1.nx else s2.nx, kf := fun k => if t = true then s1.kf k else s2.kf k }
def falls : Code → Bool
  | .skip => true
  | .region .. => true
  | .seq x y => falls x && falls y
  | .cond _ x y => falls x && falls y
  | .label _ => true
  | _ => false

section
variable {S : Env} {st : St} {Q : AExit → St → Prop}
theorem cw_ite {c : Operand} {x y z : Code} {t : Bool} {s1 s2 : St} (hf : (falls x && falls y) = true) (hc : st.ev S c = .t t) (h1 : t = true → cw S x (atN s1) st) (h2 : t = false → cw S y (atN s2) st)
    (h : cw S z Q (St.ite t s1 s2)) : cw S (.seq (.cond c x y) z) Q st := by
  refine cw_seq (cw_cond hc (fun ht => ?_) fun ht => ?_)
  · subst ht
    refine cw_mono x (fun e s hs => ?_) (h1 rfl)
    cases e with
    | normal => have : s = s1 := hs; subst this; exact h
    | _ => exact hs.elim
  · subst ht
    refine cw_mono y (fun e s hs => ?_) (h2 rfl)
    cases e with
    | normal => have : s = s2 := hs; subst this; exact h
    | _ => exact hs.elim
theorem cw_iteN {c : Operand} {x y : Code} {t : Bool} {s1 s2 : St} (hf : (falls x && falls y) = true) (hc : st.ev S c = .t t) (h1 : t = true → cw S x (atN s1) st) (h2 : t = false → cw S y (atN s2) st)
    (h : Q .normal (St.ite t s1 s2)) : cw S (.cond c x y) Q st := by
  refine cw_cond hc (fun ht => ?_) fun ht => ?_
  · subst ht
    refine cw_mono x (fun e s hs => ?_) (h1 rfl)
    cases e with
    | normal => have : s = s1 := hs; subst this; exact h
    | _ => exact hs.elim
  · subst ht
    refine cw_mono y (fun e s hs => ?_) (h2 rfl)
    cases e with
    | normal => have : s = s2 := hs; subst this; exact h
    | _ => exact hs.elim

variable {t : Bool} {s1 s2 : St}
theorem fr_ite {k : Nat} : (St.ite t s1 s2).fr k = if t = true then s1.fr k else s2.fr k := rfl
theorem bx_ite {k : Nat} : (St.ite t s1 s2).bx k = if t = true then s1.bx k else s2.bx k := rfl
theorem nx_ite : (St.ite t s1 s2).nx = if t = true then s1.nx else s2.nx := rfl
variable {p : Prop} [Decidable p]
theorem ite_sb {x y : BV} : (if p then SV.b x else SV.b y) = SV.b (if p then x else y) := by split <;> rfl
theorem ite_c {x y : CV} : (if p then BV.c x else BV.c y) = BV.c (if p then x else y) := by split <;> rfl
theorem ite_agg {x y : List CV} : (if p then BV.agg x else BV.agg y) = BV.agg (if p then x else y) := by split <;> rfl
theorem ite_cons {x y : CV} {l r : List CV} : (if p then x :: l else y :: r) = (if p then x else y) :: (if p then l else r) := by split <;> rfl
theorem ite_p {x y : PV} : (if p then CV.p x else CV.p y) = CV.p (if p then x else y) := by split <;> rfl
theorem ite_val {x y : Value} : (if p then PV.val x else PV.val y) = PV.val (if p then x else y) := by split <;> rfl
theorem ite_int {k : IntKind} {x y : Int} : (if p then Value.int k x else Value.int k y) = Value.int k (if p then x else y) := by split <;> rfl
theorem ite_bool {x y : Bool} : (if p then Value.bool x else Value.bool y) = Value.bool (if p then x else y) := by split <;> rfl
theorem ite_lst {sz n m : Nat} {f g : Nat → Nat → PV} : (if p then PV.lst sz n f else PV.lst sz m g) = PV.lst sz (if p then n else m) (if p then f else g) := by split <;> rfl
theorem ite_own {i n m : Nat} : (if p then CV.own i n else CV.own i m) = CV.own i (if p then n else m) := by split <;> rfl
theorem ite_some {x y : Bx} : (if p then some x else some y) = some (if p then x else y) := by split <;> rfl
theorem ite_fix {x y : List CV} : (if p then Bx.fix x else Bx.fix y) = Bx.fix (if p then x else y) := by split <;> rfl
theorem ite_arr {e s n m : Nat} {f g : Nat → Nat → PV} : (if p then Bx.arr e s n f else Bx.arr e s m g) = Bx.arr e s (if p then n else m) (if p then f else g) := by split <;> rfl
theorem ite_same {α : Type} {x : α} : (if p then x else x) = x := by split <;> rfl
end

theorem iteT {p : Prop} [Decidable p] {a b : Bool} : ((if p then a else b) = true) = ((p → a = true) ∧ (¬p → b = true)) := by split <;> simp_all
theorem iteF {p : Prop} [Decidable p] {a b : Bool} : ((if p then a else b) = false) = ((p → a = false) ∧ (¬p → b = false)) := by split <;> simp_all

theorem wk_loop {X : Type} {F : X → St} {I : X → Prop} {m : X → Nat} {k : Nat} {st : St} (x' : X) (hle : Le st (F x')) (hI : I x') (hm : m x' < k) : Wk (fun s => ∃ x', s = F x' ∧ I x' ∧ m x' < k) st :=
  ⟨F x', hle, x', rfl, hI, hm⟩

theorem call_lends {S : Env} {st : St} {f : FuncId} {args args' : List BV} {K : SV → St → Prop} {X : SV} (hk : K X st) (ha : argsLe (args.map (lendAB st.bx)) args') (hl : argsLt args') (hf : X.flat) (h : Pure S f args' (fun r => r = X)) (hp : S.rcv (f + 1000000) = false := by rfl) : CallS S st f args (Sl.of K) :=
  .lend args' _ h ha (argsLt_mem hl) hf hk hp

theorem argsLe_nil : argsLe [] [] = True := rfl
theorem argsLe_cons {x y : BV} {r s : List BV} : argsLe (x :: r) (y :: s) = (BV.le x y ∧ argsLe r s) := rfl
theorem bvle_refl {x : BV} : BV.le x x := fun _ _ _ _ h => h
theorem bvle_p {x y : PV} (h : PV.le x y) : BV.le (.c (.p x)) (.c (.p y)) := fun _ ok w u hu => h ok w u hu

theorem cw_stepW {S : Env} {st : St} {Q : AExit → St → Prop} {id : Nat} {l : List Oper} {y : Code} (h : ∀ K : St → Prop, (∀ s, cw S y Q s → K s) → (∀ s s', Le s s' → cw S y Q s' → K s) → opsP S l.toArray l st K) : cw S (.seq (.region id l.toArray false) y) Q st := by
  refine cw_mono (S := S) (.region id l.toArray false) (Q := thenQ (fun st => Wk (cw S y Q) st ∨ cw S y Q st) Q) (fun _ _ h => h) (cw_region ?_)
  exact h _ (fun s hs => .inr hs) fun s s' hl hs => .inl ⟨s', hl, hs⟩

/-! Weaker results -/
def BLe (x y : BV) : Prop := BV.lt 0 y ∧ ∀ ok w u, DenB noRho ok w x u → DenB noRho ok w y u
def SLe (x y : SV) : Prop := SV.lt 0 y ∧ ∀ ok w u, DenS noRho ok w x u → DenS noRho ok w y u
def BLeL : List BV → List BV → Prop
  | [], [] => True
  | x :: l, y :: r => BLe x y ∧ BLeL l r
  | _, _ => False
theorem pure_le {S : Env} {f : FuncId} {args : List BV} {X : SV} (h : Pure S f args fun r => SLe r X) : Pure S f args fun r => r = X :=
  ⟨h.1, fun ok w vs h1 h2 h3 h4 => (h.2 ok w vs h1 h2 h3 h4).mono fun _ _ ⟨v, r, he, hR, _, hb, hd⟩ => ⟨v, X, he, rfl, hR.1, hb, hR.2 _ _ _ hd⟩⟩
theorem sle_b {x y : BV} (h : BLe x y) : SLe (.b x) (.b y) := h
theorem ble_rfl {x : BV} (h : BV.lt 0 x) : BLe x x := ⟨h, fun _ _ _ h => h⟩
theorem ble_c {x y : PV} (h : PV.le x y) : BLe (.c (.p x)) (.c (.p y)) := ⟨trivial, fun ok w u hu => h ok w u hu⟩
theorem bleL_den {ok : Nat → Prop} {w : World} : ∀ {l r : List BV}, BLeL l r → l.length = r.length ∧ ∀ {u : Nat → Value}, (∀ j, DenB noRho ok w (l.getD j .any) (u j)) → ∀ j, DenB noRho ok w (r.getD j .any) (u j)
  | [], [], _ => ⟨rfl, fun h => h⟩
  | x :: l, y :: r, ⟨h1, h2⟩ => by
    obtain ⟨q1, q2⟩ := bleL_den (ok := ok) (w := w) h2
    refine ⟨by simp [q1], fun {u} hu j => ?_⟩
    cases j with
    | zero => exact h1.2 ok w _ (hu 0)
    | succ j => exact q2 (u := fun k => u (k + 1)) (fun k => hu (k + 1)) j
theorem bleL_lt : ∀ {l r : List BV}, BLeL l r → ∀ v ∈ r, BV.lt 0 v
  | [], [], _, v, hv => by cases hv
  | x :: l, y :: r, h, v, hv => by
    rcases List.mem_cons.1 hv with e | e
    · rw [e]; exact h.1.1
    · exact bleL_lt h.2 v e
theorem sle_tup {l r : List BV} (h : BLeL l r) : SLe (.tup l) (.tup r) :=
  ⟨bleL_lt h, fun ok w u ⟨us, hu, hs, hd⟩ => ⟨us, hu, by rw [hs, (bleL_den (ok := ok) (w := w) h).1], (bleL_den h).2 hd⟩⟩
def CLeL : List CV → List CV → Prop
  | [], [] => True
  | .p x :: l, .p y :: r => (x = y ∨ PV.le x y) ∧ CLeL l r
  | _, _ => False
theorem cleL_nil : CLeL [] [] = True := rfl
theorem cleL_cons {x y : PV} {l r : List CV} : CLeL (.p x :: l) (.p y :: r) = ((x = y ∨ PV.le x y) ∧ CLeL l r) := rfl
theorem cleL_den {ok : Nat → Prop} {w : World} : ∀ {l r : List CV}, CLeL l r → l.length = r.length ∧ (∀ c ∈ r, CV.lt 0 c) ∧ ∀ {u : Nat → Value}, (∀ j, DenC noRho ok w (l.getD j .any) (u j)) → ∀ j, DenC noRho ok w (r.getD j .any) (u j)
  | [], [], _ => ⟨rfl, by simp, fun h => h⟩
  | .p x :: l, .p y :: r, h => by
    rw [cleL_cons] at h
    obtain ⟨h1, h2⟩ := h
    obtain ⟨q1, q0, q2⟩ := cleL_den (ok := ok) (w := w) h2
    refine ⟨by simp [q1], fun c hc => ?_, fun {u} hu j => ?_⟩
    · rcases List.mem_cons.1 hc with e | e
      · rw [e]; trivial
      · exact q0 c e
    · cases j with
      | zero =>
        rcases h1 with e | e
        · rw [← e]; exact hu 0
        · exact e _ _ _ (hu 0)
      | succ j => exact q2 (u := fun k => u (k + 1)) (fun k => hu (k + 1)) j
theorem ble_agg {l r : List CV} (h : CLeL l r) : BLe (.agg l) (.agg r) := by
  refine ⟨(cleL_den (ok := fun _ => True) (w := default) h).2.1, fun ok w u ⟨us, hu, hs, h1, hd⟩ => ?_⟩
  obtain ⟨q1, _, q2⟩ := cleL_den (ok := ok) (w := w) h
  exact ⟨us, hu, by rw [hs, q1], h1, q2 hd⟩
theorem int_eq {k : IntKind} {a b : Int} (h : a = b) : SV.b (.c (.p (.val (.int k a)))) = SV.b (.c (.p (.val (.int k b)))) := by rw [h]
/-! Weaker states, given slot by slot -/
def mkSt (l : List (Nat × SV)) (b : List (Nat × Bx)) (nx : Nat) : St := ⟨frOf l, bxOf b, nx, fun _ => .any⟩
theorem fr_mkSt {l : List (Nat × SV)} {b : List (Nat × Bx)} {nx s : Nat} : (mkSt l b nx).fr s = frOf l s := rfl
theorem bx_mkSt {l : List (Nat × SV)} {b : List (Nat × Bx)} {nx s : Nat} : (mkSt l b nx).bx s = bxOf b s := rfl
theorem nx_mkSt {l : List (Nat × SV)} {b : List (Nat × Bx)} {nx : Nat} : (mkSt l b nx).nx = nx := rfl
def rOf : List (Nat × Option Nat) → Nat → Option Nat
  | [], _ => some 0
  | (k, v) :: r, i => if i = k then v else rOf r i
theorem rOf_nil {i : Nat} : rOf [] i = some 0 := rfl
theorem rOf_cons {k i : Nat} {v : Option Nat} {r : List (Nat × Option Nat)} : rOf ((k, v) :: r) i = if i = k then v else rOf r i := rfl
def leFr (r : Nat → Option Nat) (st : St) (bx' : Nat → Option Bx) (nx : Nat) : List (Nat × SV) → Prop
  | [] => True
  | (k, v) :: l => (leS r st.bx bx' (st.fr k) v ∧ v.lt nx) ∧ leFr r st bx' nx l
def leBs (r : Nat → Option Nat) (st : St) (bx' : Nat → Option Bx) (nx : Nat) : List (Nat × Bx) → Prop
  | [] => True
  | (i, x) :: l => (leBox r st.bx bx' i x ∧ i < nx ∧ x.lt nx) ∧ leBs r st bx' nx l
theorem frOf_mem {s : Nat} : ∀ {l : List (Nat × SV)}, frOf l s = .any ∨ (s, frOf l s) ∈ l
  | [] => .inl rfl
  | (k, v) :: l => by
    rw [frOf_cons]
    split
    · rename_i h; subst h; exact .inr (List.mem_cons_self ..)
    · rcases frOf_mem (s := s) (l := l) with h | h
      · exact .inl h
      · exact .inr (List.mem_cons_of_mem _ h)
theorem bxOf_mem {s : Nat} {x : Bx} : ∀ {l : List (Nat × Bx)}, bxOf l s = some x → (s, x) ∈ l
  | [], h => by cases h
  | (k, v) :: l, h => by
    rw [bxOf_cons] at h
    split at h
    · rename_i e; subst e; cases h; exact List.mem_cons_self ..
    · exact List.mem_cons_of_mem _ (bxOf_mem h)
theorem leFr_mem {r : Nat → Option Nat} {st : St} {bx' : Nat → Option Bx} {nx : Nat} : ∀ {l : List (Nat × SV)}, leFr r st bx' nx l → ∀ {k v}, (k, v) ∈ l → leS r st.bx bx' (st.fr k) v ∧ v.lt nx
  | (_, _) :: _, h, _, _, .head _ => h.1
  | (_, _) :: _, h, _, _, .tail _ hm => leFr_mem h.2 hm
theorem leBs_mem {r : Nat → Option Nat} {st : St} {bx' : Nat → Option Bx} {nx : Nat} : ∀ {l : List (Nat × Bx)}, leBs r st bx' nx l → ∀ {k v}, (k, v) ∈ l → leBox r st.bx bx' k v ∧ k < nx ∧ v.lt nx
  | (_, _) :: _, h, _, _, .head _ => h.1
  | (_, _) :: _, h, _, _, .tail _ hm => leBs_mem h.2 hm
def injR (r : Nat → Option Nat) : List Nat → Bool
  | [] => true
  | i :: l => (l.all fun j => i == j || r i == none || r i != r j) && injR r l
theorem injR_spec {r : Nat → Option Nat} : ∀ {l : List Nat}, injR r l = true → ∀ i j k, i ∈ l → j ∈ l → r i = some k → r j = some k → i = j
  | a :: l, h, i, j, k, hi, hj, h1, h2 => by
    simp only [injR, Bool.and_eq_true, List.all_eq_true, Bool.or_eq_true, beq_iff_eq, bne_iff_ne] at h
    obtain ⟨ha, hl⟩ := h
    rcases List.mem_cons.1 hi with e1 | e1 <;> rcases List.mem_cons.1 hj with e2 | e2
    · rw [e1, e2]
    · subst e1
      rcases ha j e2 with (q | q) | q
      · exact q
      · rw [q] at h1; cases h1
      · exact absurd (h1.trans h2.symm) q
    · subst e2
      rcases ha i e1 with (q | q) | q
      · exact q.symm
      · rw [q] at h2; cases h2
      · exact absurd (h2.trans h1.symm) q
    · exact injR_spec hl i j k e1 e2 h1 h2

theorem le_of {st : St} {l : List (Nat × SV)} {b : List (Nat × Bx)} {nx : Nat} (r : List (Nat × Option Nat)) (h0 : rOf r 0 = some 0) (hnx : 0 < nx) (hinj : injR (rOf r) (b.map (·.1)) = true)
    (hfr : leFr (rOf r) st (bxOf b) nx l) (hb : leBs (rOf r) st (bxOf b) nx b) : Le st (mkSt l b nx) := by
  have key : ∀ i, bxOf b i ≠ none → i ∈ b.map (·.1) := fun i hi => by
    cases hx : bxOf b i with
    | none => exact absurd hx hi
    | some x => exact List.mem_map.2 ⟨_, bxOf_mem hx, rfl⟩
  refine ⟨⟨rOf r, h0, fun _ => hnx, fun i j k hi hj h1 h2 => injR_spec hinj i j k (key i hi) (key j hj) h1 h2, fun s => ?_, fun i x hx => (leBs_mem hb (bxOf_mem hx)).1, fun s => by show leS _ _ _ _ .any; unfold leS; split <;> trivial⟩, fun s => ?_, fun i x hx => (leBs_mem hb (bxOf_mem hx)).2, fun _ => trivial⟩
  · show leS _ _ _ _ (frOf l s)
    rcases frOf_mem (s := s) (l := l) with h | h
    · rw [h]; unfold leS; split <;> trivial
    · exact (leFr_mem hfr h).1
  · show SV.lt nx (frOf l s)
    rcases frOf_mem (s := s) (l := l) with h | h
    · rw [h]; trivial
    · exact (leFr_mem hfr h).2

section
variable {r : Nat → Option Nat} {bx bx' : Nat → Option Bx} {st : St} {nx : Nat}
theorem leFr_nil : leFr r st bx' nx [] = True := rfl
theorem leFr_cons {k : Nat} {v : SV} {l : List (Nat × SV)} : leFr r st bx' nx ((k, v) :: l) = ((leS r st.bx bx' (st.fr k) v ∧ v.lt nx) ∧ leFr r st bx' nx l) := rfl
theorem leBs_nil : leBs r st bx' nx [] = True := rfl
theorem leBs_cons {k : Nat} {v : Bx} {l : List (Nat × Bx)} : leBs r st bx' nx ((k, v) :: l) = ((leBox r st.bx bx' k v ∧ k < nx ∧ v.lt nx) ∧ leBs r st bx' nx l) := rfl
theorem leS_b {x y : BV} : leS r bx bx' (.b x) (.b y) = leB r bx bx' x y := rfl
theorem leS_any {x : SV} : leS r bx bx' x .any = True := by cases x <;> rfl
theorem leB_c {x y : CV} : leB r bx bx' (.c x) (.c y) = leC r bx bx' x y := by
  cases y with
  | p y => cases y with
    | any => cases x <;> rfl
    | _ => rfl
  | _ => rfl
theorem leB_agg {x y : List CV} : leB r bx bx' (.agg x) (.agg y) = leL r bx bx' x y := rfl
theorem leL_nil : leL r bx bx' [] [] = True := rfl
theorem leL_cons {x y : CV} {l l' : List CV} : leL r bx bx' (x :: l) (y :: l') = (leC r bx bx' x y ∧ leL r bx bx' l l') := rfl
theorem leC_any {x : CV} : leC r bx bx' x (.p .any) = True := by cases x <;> rfl
theorem leC_val {x : PV} {v : Value} : leC r bx bx' (.p x) (.p (.val v)) = (x = .val v ∨ PV.le x (.val v)) := rfl
theorem leC_lst {x : PV} {sz n : Nat} {f : Nat → Nat → PV} : leC r bx bx' (.p x) (.p (.lst sz n f)) = (x = .lst sz n f ∨ PV.le x (.lst sz n f)) := rfl
theorem leC_nil {x : PV} {i n : Nat} : leC r bx bx' (.p x) (.own i n) = (x = .val (.slice none 0 0) ∧ n = 0 ∧ r i = none) := rfl
theorem leC_ptr {i o i' o' : Nat} : leC r bx bx' (.ptr i o) (.ptr i' o') = (r i' = some i ∧ o = o') := rfl
theorem leC_pel {i s k o i' s' k' o' : Nat} : leC r bx bx' (.pel i s k o) (.pel i' s' k' o') = (r i' = some i ∧ s = s' ∧ k = k' ∧ o = o') := rfl
theorem leC_own {i n i' n' : Nat} : leC r bx bx' (.own i n) (.own i' n') = (r i' = some i ∧ n = n') := rfl
def noTo (r : Nat → Option Nat) (id : Nat) : List (Nat × Bx) → Prop
  | [] => True
  | (i, _) :: l => r i ≠ some id ∧ noTo r id l
theorem noTo_nil {id : Nat} : noTo r id [] = True := rfl
theorem noTo_cons {id i : Nat} {x : Bx} {l : List (Nat × Bx)} : noTo r id ((i, x) :: l) = (r i ≠ some id ∧ noTo r id l) := rfl
theorem noTo_spec {id : Nat} : ∀ {b : List (Nat × Bx)}, noTo r id b → ∀ id', bxOf b id' ≠ none → r id' ≠ some id
  | [], _, id', h => (h rfl).elim
  | (i, x) :: l, h, id', hb => by
    rw [bxOf_cons] at hb
    by_cases e : id' = i
    · subst e; exact h.1
    · rw [if_neg e] at hb; exact noTo_spec h.2 id' hb
theorem spec_noTo {id : Nat} : ∀ {b : List (Nat × Bx)}, (∀ id', bxOf b id' ≠ none → r id' ≠ some id) → noTo r id b
  | [], _ => trivial
  | (i, x) :: l, h => by
    refine ⟨h i (by rw [bxOf_cons, if_pos rfl]; simp), spec_noTo fun id' hb => ?_⟩
    refine h id' ?_
    rw [bxOf_cons]
    split
    · simp
    · exact hb
def froz (y : Option Bx) (n sz n' : Nat) (f' : Nat → Nat → PV) (p : Prop) : Prop := match y with
  | some (.arr _ s m f) => s = sz ∧ n = n' ∧ n ≤ m ∧ (∀ i, i < n → ∀ j, j < sz → PV.le (f i j) (f' i j)) ∧ p
  | _ => False
theorem leC_froz {i n sz n' : Nat} {f' : Nat → Nat → PV} {b : List (Nat × Bx)} : leC r bx (bxOf b) (.own i n) (.p (.lst sz n' f')) = froz (bx i) n sz n' f' (noTo r i b) := by
  apply propext
  unfold froz
  constructor
  · rintro ⟨e, m, f, h1, h2, h3, h4, h5⟩
    rw [h1]
    exact ⟨rfl, h2, h3, h4, spec_noTo h5⟩
  · intro h
    split at h
    · rename_i hb
      obtain ⟨rfl, h2, h3, h4, h5⟩ := h
      exact ⟨_, _, _, hb, h2, h3, h4, noTo_spec h5⟩
    · exact h.elim
theorem froz_some {e s m n sz n' : Nat} {f f' : Nat → Nat → PV} {p : Prop} : froz (some (.arr e s m f)) n sz n' f' p = (s = sz ∧ n = n' ∧ n ≤ m ∧ (∀ i, i < n → ∀ j, j < sz → PV.le (f i j) (f' i j)) ∧ p) := rfl
theorem leC_ipt {s o s' o' : Nat} {g g' : Nat → PV} : leC r bx bx' (.ipt s g o) (.ipt s' g' o') = (s = s' ∧ o = o' ∧ (g = g' ∨ ∀ j, j < s → PV.le (g j) (g' j))) := rfl
theorem leX_fix {l l' : List CV} : leX r bx bx' (.fix l) (.fix l') = leL r bx bx' l l' := rfl
theorem leX_arr {e s n e' s' n' : Nat} {f f' : Nat → Nat → PV} : leX r bx bx' (.arr e s n f) (.arr e' s' n' f') = (e = e' ∧ s = s' ∧ n = n' ∧ (f = f' ∨ ∀ i, i < n → ∀ j, j < s → PV.le (f i j) (f' i j))) := rfl
def leBy (bx bx' : Nat → Option Bx) (r : Nat → Option Nat) (y : Option Bx) (x : Bx) : Prop := match y with
  | some y => leX r bx bx' y x
  | none => False
def leBr (r : Nat → Option Nat) (bx bx' : Nat → Option Bx) (k : Option Nat) (x : Bx) : Prop := match k with
  | some k => leBy bx bx' r (bx k) x
  | none => match x with
    | .arr _ s n _ => n = 0 ∧ 0 < s
    | _ => False
theorem leBox_eq {i : Nat} {x : Bx} : leBox r bx bx' i x = leBr r bx bx' (r i) x := by
  unfold leBox leBr
  cases r i with
  | some k =>
    simp only [leBy]
    cases hk : bx k with
    | some y => simp
    | none => simp
  | none =>
    cases x with
    | fix => simp
    | arr e s n f =>
      simp only [Bx.arr.injEq]
      exact propext ⟨fun ⟨_, _, _, ⟨_, h1, h2, _⟩, h3⟩ => ⟨h2, h1 ▸ h3⟩, fun ⟨h1, h2⟩ => ⟨e, s, f, ⟨rfl, rfl, h1, rfl⟩, h2⟩⟩
theorem leBr_some {k : Nat} {x : Bx} : leBr r bx bx' (some k) x = leBy bx bx' r (bx k) x := rfl
theorem leBr_none {e s n : Nat} {f : Nat → Nat → PV} : leBr r bx bx' none (.arr e s n f) = (n = 0 ∧ 0 < s) := rfl
theorem leBy_some {y x : Bx} : leBy bx bx' r (some y) x = leX r bx bx' y x := rfl
end
theorem allLt_nil {nx : Nat} : (∀ x : BV, x ∈ ([] : List BV) → BV.lt nx x) = True := by simp
theorem allLt_cons {nx : Nat} {a : BV} {l : List BV} : (∀ x : BV, x ∈ a :: l → BV.lt nx x) = (BV.lt nx a ∧ ∀ x : BV, x ∈ l → BV.lt nx x) := by simp
attribute [go_sem] allLt_nil allLt_cons
attribute [go_sem] fr_ite bx_ite nx_ite ite_sb ite_c ite_agg ite_cons ite_p ite_val ite_int ite_bool ite_lst ite_own ite_some ite_fix ite_arr
attribute [go_sem ↓] ite_same
attribute [go_sem] fr_mkSt bx_mkSt nx_mkSt rOf_nil rOf_cons leFr_nil leFr_cons leBs_nil leBs_cons leS_b leS_any leB_c leB_agg leL_nil leL_cons leC_any leC_val leC_lst leC_nil leC_ptr leC_pel leC_own leC_froz froz_some noTo_nil noTo_cons leC_ipt leX_fix leX_arr leBox_eq leBr_some leBr_none leBy_some
end Go.SL

/- SL, part R: operations with effects under a guard. -/
namespace Go.SL
open Go

section
variable {S : Env} {ops : Array Oper} {rest : List Oper} {st : St} {K : St → Prop} {d : Option Nat} {ty : TypeId} {pos : String} {af : Array Edge} {j : Nat} {want g : Bool} {op : Go.Op}
theorem rgs_split {nx : Nat} {K1 : SV → Prop} {y : Option (Prop × SV)} (x : BV) (hy : y = none) (hro : ro S st.bx (st.ev S) op = none) (hx : x.lt st.nx) (hg : guardV st ((ops[j]?).bind (·.dst)) want = some g)
    (h1 : g = true → opsP S ops (⟨d, op, ty, pos, af, none⟩ :: rest) st K) (h2 : g = false → opsP S ops rest (st.set d (.grd g x)) K) :
    rg (some g) nx y (Sl.of K1) (Sl.of (opsP S ops (⟨d, op, ty, pos, af, some (j, want)⟩ :: rest) st K)) := by
  have key : opsP S ops (⟨d, op, ty, pos, af, some (j, want)⟩ :: rest) st K := by
    simp only [opsP, opG, hg, hro]
    cases g with
    | true => exact .inl ⟨fun _ => by have := h1 rfl; simpa only [opsP, opG, opP, hro] using this, fun h => by cases h⟩
    | false => exact .inr ⟨x, hx, (fun h => by cases h), h2 rfl⟩
  subst hy
  exact key
variable {f : FuncId} {args args' : List BV} {c : Prop} {X : BV}
theorem gcall_lend (hg : g = true) (hc : c) (h : Pure S f args' (fun r => r = .b X)) (ha : argsLe (args.map (lendAB st.bx)) args') (hl : argsLt args') (hf : X.flat) (hk : K (st.set d (.b X))) (hp : S.rcv (f + 1000000) = false := by rfl) : rgm (some g) c S st f args d (Sl.of K) :=
  .inl ⟨fun _ => ⟨hc, .lend args' _ h ha (argsLt_mem hl) hf hk hp⟩, fun h => by rw [hg] at h; cases h⟩
theorem gcall_off (X : BV) (hg : g = false) (hx : X.lt st.nx) (hk : K (st.set d (.grd g X))) : rgm (some g) c S st f args d (Sl.of K) :=
  .inr ⟨X, hx, (fun h => by rw [hg] at h; cases h), hk⟩
end
theorem St.ite_t {s1 s2 : St} : St.ite true s1 s2 = s1 := rfl
theorem St.ite_f {s1 s2 : St} : St.ite false s1 s2 = s2 := rfl
section
variable {S : Env} {st : St} {f : FuncId} {K : SV → St → Prop} {Q : AExit → St → Prop}
theorem exit_by {P : St → Prop} {c : Code} (h : ∀ s, cw S c Q s → P s) (h2 : cw S c Q st) : P st := h _ h2
theorem cw_stepV {id : Nat} {l : List Oper} {y : Code} (h : ∀ K : St → Prop, (∀ s s', Le s s' → cw S y Q s' → K s) → opsP S l.toArray l st K) : cw S (.seq (.region id l.toArray false) y) Q st :=
  cw_stepW fun K _ hW => h K hW
theorem cw_ifT {c : Operand} {x y z : Code} {t : Bool} (hc : st.ev S c = .t t) (ht : t = true) (h : cw S (.seq x z) Q st) : cw S (.seq (.cond c x y) z) Q st := cw_if hc (fun _ => h) (fun h => by rw [ht] at h; cases h)
theorem cw_ifF {c : Operand} {x y z : Code} {t : Bool} (hc : st.ev S c = .t t) (ht : t = false) (h : cw S (.seq y z) Q st) : cw S (.seq (.cond c x y) z) Q st := cw_if hc (fun h => by rw [ht] at h; cases h) (fun _ => h)
theorem cw_condT {c : Operand} {x y : Code} {t : Bool} (hc : st.ev S c = .t t) (ht : t = true) (h : cw S x Q st) : cw S (.cond c x y) Q st := cw_cond hc (fun _ => h) (fun h => by rw [ht] at h; cases h)
theorem cw_condF {c : Operand} {x y : Code} {t : Bool} (hc : st.ev S c = .t t) (ht : t = false) (h : cw S y Q st) : cw S (.cond c x y) Q st := cw_cond hc (fun h => by rw [ht] at h; cases h) (fun _ => h)
end
def bAnd (k : IntKind) (a b : Int) : Int := k.wrap (BitVec.ofInt k.bits a &&& BitVec.ofInt k.bits b).toNat
def bOr (k : IntKind) (a b : Int) : Int := k.wrap (BitVec.ofInt k.bits a ||| BitVec.ofInt k.bits b).toNat
def bXor (k : IntKind) (a b : Int) : Int := k.wrap (BitVec.ofInt k.bits a ^^^ BitVec.ofInt k.bits b).toNat
theorem bAnd_eq {k : IntKind} {a b : Int} : k.wrap (BitVec.ofInt k.bits a &&& BitVec.ofInt k.bits b).toNat = bAnd k a b := rfl
theorem bOr_eq {k : IntKind} {a b : Int} : k.wrap (BitVec.ofInt k.bits a ||| BitVec.ofInt k.bits b).toNat = bOr k a b := rfl
theorem bXor_eq {k : IntKind} {a b : Int} : k.wrap (BitVec.ofInt k.bits a ^^^ BitVec.ofInt k.bits b).toNat = bXor k a b := rfl
attribute [go_sem ↓] bAnd_eq bOr_eq bXor_eq
theorem ite_fn2 {p : Prop} [Decidable p] {f g : Nat → Nat → PV} {i j : Nat} : (if p then f else g) i j = if p then f i j else g i j := by split <;> rfl
attribute [go_sem] ite_fn2
end Go.SL

/- SL, part S: regions whose orders are drawn, where a store meets a load of another kind of memory. -/
namespace Go.SL
open Go

def kOk (c : Nat) : SV → Prop
  | .b (.c (.ptr id _)) => c = 1 ∨ c = 4 + id
  | .b (.c (.pel _ _ _ _)) => c = 2
  | .b (.c (.ipt _ _ _)) => c = 3
  | _ => False
def kindsOk : List (Nat × Nat) → St → Prop
  | [], _ => True
  | (t, c) :: r, s => kOk c (s.fr t) ∧ kindsOk r s
def lbOf : List (Nat × Nat) → Nat
  | [] => 0
  | (_, c) :: r => max (c - 3) (lbOf r)
def kdOf : List (Nat × Nat) → Nat → Nat
  | [], _ => 0
  | (t, c) :: r, s => if s = t then c else kdOf r s
theorem kd_lb {t : Nat} : ∀ {l : List (Nat × Nat)}, kdOf l t - 3 ≤ lbOf l
  | [] => Nat.zero_le _
  | (k, c) :: r => by
    unfold kdOf lbOf
    split
    · omega
    · have := kd_lb (t := t) (l := r)
      omega
theorem kindsOk_of {s : St} {t : Nat} : ∀ {l : List (Nat × Nat)}, kindsOk l s → kdOf l t ≠ 0 → kOk (kdOf l t) (s.fr t)
  | [], _, h => absurd rfl h
  | (k, c) :: r, h, hn => by
    unfold kdOf at hn ⊢
    split
    · rename_i e; subst e; exact h.1
    · rename_i e
      rw [if_neg e] at hn
      exact kindsOk_of h.2 hn

section
variable {S : Env} {ops : Array Oper} {st s1 s2 s' : St}
theorem ex_fr {o : Oper} {t : Nat} (h : Ex S ops st o s') (hd : o.dst ≠ some t) : s'.fr t = st.fr t := by
  obtain ⟨v1, b1, n1, rfl, _⟩ := ex_step h
  rw [set_eq]
  simp only
  rw [if_neg fun e => hd e.symm]
theorem exL_fr {t : Nat} : ∀ {l : List Oper} {st s' : St}, ExL S ops l st s' → (∀ o ∈ l, o.dst ≠ some t) → s'.fr t = st.fr t
  | [], _, _, h, _ => by rw [show _ = _ from h]
  | o :: r, st, s', ⟨s, h1, h2⟩, hd => (exL_fr h2 fun x hx => hd x (List.mem_cons_of_mem _ hx)).trans (ex_fr h1 (hd o (List.mem_cons_self ..)))

theorem swap_load_store {x y : Oper} {d p q : Nat} {t t' : TypeId} {vop : Operand} (hx : x.op = .load t (.tmp q)) (hxd : x.dst = some d) (hxg : x.guard = none)
    (hy : y.op = .store t' (.tmp p) vop) (hyd : y.dst = none) (hyg : y.guard = none) (hdp : d ≠ p) (hdv : vop ≠ .tmp d) {c c' : Nat} (hp : kOk c (st.fr p)) (hq : kOk c' (st.fr q)) (hc : c = 2 ∧ (c' = 1 ∨ c' = 3))
    (h1 : Ex S ops st x s1) (h2 : Ex S ops s1 y s2) : ∃ s3, Ex S ops st y s3 ∧ Ex S ops s3 x s2 := by
  obtain ⟨rfl, hc⟩ := hc
  obtain ⟨idp, szp, ip, offp, hpv⟩ : ∃ id sz i off, st.fr p = .b (.c (.pel id sz i off)) := by
    unfold kOk at hp
    split at hp
    · omega
    · exact ⟨_, _, _, _, by assumption⟩
    · cases hp
    · cases hp
  have e1 : s1 = st.set (some d) (s1.fr d) ∧ s1.bx = st.bx ∧ s1.nx = st.nx := by
    obtain ⟨v, b, n, rfl, hb, _⟩ := ex_step h1
    have : cls S.rcv x ≤ 1 := by simp [cls, clsOp, hx]
    obtain ⟨rfl, rfl⟩ := hb this
    rw [hxd]
    refine ⟨?_, bx_set, nx_set⟩
    simp [St.set]
  have hev : ∀ z : Operand, z ≠ .tmp d → s1.ev S z = st.ev S z := fun z hz => by
    rw [e1.1]
    cases z with
    | tmp k => simp only [St.ev, St.set]; rw [if_neg (fun e => hz (by rw [e]))]
    | _ => rfl
  have hvp : s1.ev S (.tmp p) = st.ev S (.tmp p) := hev _ (fun e => hdp (by cases e; rfl))
  have hvv := hev vop hdv
  have hro : ∀ b ev, ro S b ev (.store t' (.tmp p) vop) = none := fun _ _ => rfl
  unfold Ex opG at h2
  rw [hyg] at h2
  simp only [opP, hy, hro, hyd] at h2
  obtain ⟨hcond, h2⟩ := h2
  simp only [Op.operands] at hcond
  have hev1 : (st.ev S (.tmp p)).strip = .b (.c (.pel idp szp ip offp)) := by simp [St.ev, hpv, SV.strip]
  simp only [opM, hvp, hvv, hev1, e1.2.1] at h2
  split at h2
  · rename_i q1 _ _; cases q1
  · rename_i id s i off v sz ag q1 q2 q3
    cases q1
    split at h2
    · rename_i e s' n f hb
      obtain ⟨hvc, h2⟩ := h2
      refine ⟨st.setBox idp (.arr e s' n fun i' j => if i' = ip then (if offp ≤ j ∧ j < offp + sz then (v.cells.getD (j - offp) .any).toP else f ip j) else f i' j), ?_, ?_⟩
      · unfold Ex opG
        rw [hyg]
        simp only [opP, hy, hro, hyd]
        refine ⟨?_, ?_⟩
        · simp only [Op.operands]
          simpa only [Op.operands, List.map_cons, List.map_nil, hvp, hvv] using hcond
        · simp only [opM, hev1, q2, q3, hb]
          exact ⟨hvc, rfl⟩
      · subst h2
        unfold Ex opG at h1 ⊢
        rw [hxg] at h1 ⊢
        simp only [opP, hx, ro_load] at h1 ⊢
        have hload : ∀ r, rc (roLoad S t st.bx (st.ev S (.tmp q)).strip) (st.ev S (.tmp q)).cond = some r → rc (roLoad S t (st.setBox idp (.arr e s' n fun i' j => if i' = ip then (if offp ≤ j ∧ j < offp + sz then (v.cells.getD (j - offp) .any).toP else f ip j) else f i' j)).bx (st.ev S (.tmp q)).strip) (st.ev S (.tmp q)).cond = some r := fun r hr => by
          unfold kOk at hq
          simp only [St.ev] at hr ⊢
          split at hq
          · rename_i id2 off2 hqv
            rw [hqv] at hr ⊢
            simp only [SV.strip, SV.cond, roLoad, St.setBox] at hr ⊢
            by_cases hid : id2 = idp
            · subst hid
              rw [hb] at hr
              simp [rc] at hr
            · rw [if_neg hid]; exact hr
          · subst hq; omega
          · rename_i hqv
            rw [hqv] at hr ⊢
            exact hr
          · exact hq.elim
        cases hr : rc (roLoad S t st.bx (st.ev S (.tmp q)).strip) (st.ev S (.tmp q)).cond with
        | none => rw [hr] at h1; simp only [opM] at h1; exact h1.2.elim
        | some r =>
          rw [hr] at h1
          have := hload r hr
          rw [show (St.ev S (st.setBox idp (.arr e s' n fun i' j => if i' = ip then (if offp ≤ j ∧ j < offp + sz then (v.cells.getD (j - offp) .any).toP else f ip j) else f i' j)) (.tmp q)) = st.ev S (.tmp q) from rfl, this]
          refine ⟨h1.1, ?_⟩
          rw [← h1.2, hxd]
          rfl
    · exact h2.elim
  · exact h2.elim

theorem swap_load_store2 {x y : Oper} {d p q : Nat} {t t' : TypeId} {vop : Operand} (hx : x.op = .load t (.tmp q)) (hxd : x.dst = some d) (hxg : x.guard = none)
    (hy : y.op = .store t' (.tmp p) vop) (hyd : y.dst = none) (hyg : y.guard = none) (hdp : d ≠ p) (hdv : vop ≠ .tmp d) {c c' : Nat} (hp : kOk c (st.fr p)) (hq : kOk c' (st.fr q)) (hc : 4 ≤ c ∧ 4 ≤ c' ∧ c ≠ c')
    (h1 : Ex S ops st x s1) (h2 : Ex S ops s1 y s2) : ∃ s3, Ex S ops st y s3 ∧ Ex S ops s3 x s2 := by
  obtain ⟨hc1, hc2, hc3⟩ := hc
  obtain ⟨idp, offp, hpv, rfl⟩ : ∃ id off, st.fr p = .b (.c (.ptr id off)) ∧ c = 4 + id := by
    unfold kOk at hp
    split at hp
    · exact ⟨_, _, by assumption, by omega⟩
    · omega
    · omega
    · cases hp
  obtain ⟨idq, offq, hqv, rfl⟩ : ∃ id off, st.fr q = .b (.c (.ptr id off)) ∧ c' = 4 + id := by
    unfold kOk at hq
    split at hq
    · exact ⟨_, _, by assumption, by omega⟩
    · omega
    · omega
    · cases hq
  have e1 : s1 = st.set (some d) (s1.fr d) ∧ s1.bx = st.bx ∧ s1.nx = st.nx := by
    obtain ⟨v, b, n, rfl, hb, _⟩ := ex_step h1
    have : cls S.rcv x ≤ 1 := by simp [cls, clsOp, hx]
    obtain ⟨rfl, rfl⟩ := hb this
    rw [hxd]
    refine ⟨?_, bx_set, nx_set⟩
    simp [St.set]
  have hev : ∀ z : Operand, z ≠ .tmp d → s1.ev S z = st.ev S z := fun z hz => by
    rw [e1.1]
    cases z with
    | tmp k => simp only [St.ev, St.set]; rw [if_neg (fun e => hz (by rw [e]))]
    | _ => rfl
  have hvp : s1.ev S (.tmp p) = st.ev S (.tmp p) := hev _ (fun e => hdp (by cases e; rfl))
  have hvv := hev vop hdv
  have hro : ∀ b ev, ro S b ev (.store t' (.tmp p) vop) = none := fun _ _ => rfl
  unfold Ex opG at h2
  rw [hyg] at h2
  simp only [opP, hy, hro, hyd] at h2
  obtain ⟨hcond, h2⟩ := h2
  simp only [Op.operands] at hcond
  have hev1 : (st.ev S (.tmp p)).strip = .b (.c (.ptr idp offp)) := by simp [St.ev, hpv, SV.strip]
  simp only [opM, hvp, hvv, hev1, e1.2.1] at h2
  split at h2
  · rename_i id off v sz ag q1 q2 q3
    cases q1
    split at h2
    · rename_i cs hb
      obtain ⟨hvc, h2⟩ := h2
      refine ⟨st.setBox idp (.fix (putL cs offp v.cells)), ?_, ?_⟩
      · unfold Ex opG
        rw [hyg]
        simp only [opP, hy, hro, hyd]
        refine ⟨?_, ?_⟩
        · simp only [Op.operands]
          simpa only [Op.operands, List.map_cons, List.map_nil, hvp, hvv] using hcond
        · simp only [opM, hev1, q2, q3, hb]
          exact ⟨hvc, rfl⟩
      · subst h2
        unfold Ex opG at h1 ⊢
        rw [hxg] at h1 ⊢
        simp only [opP, hx, ro_load] at h1 ⊢
        have hload : ∀ r, rc (roLoad S t st.bx (st.ev S (.tmp q)).strip) (st.ev S (.tmp q)).cond = some r → rc (roLoad S t (st.setBox idp (.fix (putL cs offp v.cells))).bx (st.ev S (.tmp q)).strip) (st.ev S (.tmp q)).cond = some r := fun r hr => by
          simp only [St.ev] at hr ⊢
          rw [hqv] at hr ⊢
          simp only [SV.strip, SV.cond, roLoad, St.setBox] at hr ⊢
          rw [if_neg (by omega)]; exact hr
        cases hr : rc (roLoad S t st.bx (st.ev S (.tmp q)).strip) (st.ev S (.tmp q)).cond with
        | none => rw [hr] at h1; simp only [opM] at h1; exact h1.2.elim
        | some r =>
          rw [hr] at h1
          have := hload r hr
          rw [show (St.ev S (st.setBox idp (.fix (putL cs offp v.cells))) (.tmp q)) = st.ev S (.tmp q) from rfl, this]
          refine ⟨h1.1, ?_⟩
          rw [← h1.2, hxd]
          rfl
    · exact h2.elim
  · rename_i q1 _ _; cases q1
  · exact h2.elim

def WfN (lb : Nat) (st : St) : Prop := (∀ i, st.nx ≤ i → st.bx i = none) ∧ lb ≤ st.nx
theorem WfN.set {lb : Nat} {st : St} (h : WfN lb st) (d : Option Nat) (v : SV) : WfN lb (st.set d v) :=
  ⟨fun i hi => by rw [bx_set]; rw [nx_set] at hi; exact h.1 i hi, by rw [nx_set]; exact h.2⟩
theorem WfN.newBox {lb : Nat} {st : St} (h : WfN lb st) (x : Bx) : WfN lb (st.newBox x) := ⟨fun i hi => by
  simp only [St.newBox] at hi ⊢
  rw [if_neg (by omega)]; exact h.1 i (by omega), Nat.le_succ_of_le h.2⟩
theorem WfN.delBox {lb : Nat} {st : St} (h : WfN lb st) (id : Nat) : WfN lb (st.delBox id) := ⟨fun i hi => by
  simp only [St.delBox] at hi ⊢
  split
  · rfl
  · exact h.1 i hi, h.2⟩
theorem WfN.setBox {lb : Nat} {st : St} (h : WfN lb st) {id : Nat} {y : Bx} (hb : st.bx id = some y) (x : Bx) : WfN lb (st.setBox id x) := ⟨fun i hi => by
  simp only [St.setBox] at hi ⊢
  split
  · rename_i e
    subst e
    rw [h.1 i hi] at hb; cases hb
  · exact h.1 i hi, h.2⟩
theorem callP_wf {lb : Nat} {f : FuncId} {args : List BV} {K : SV → St → Prop} (h : CallP S st f args K) (w : WfN lb st) : ∃ r s', K r s' ∧ WfN lb s' := by
  cases h with
  | pure args' X h ha hl hk => exact ⟨_, _, hk, w⟩
  | lend args' X h ha hl hf hk => exact ⟨_, _, hk, w⟩
  | recv id off cs0 cs rest args' X Y h he hb hoff hcs ha hl hr hy hk => exact ⟨_, _, hk, w.setBox hb _⟩
  | recvEl id sz i e n g cs rest args' X Y h he hb hi hsz hcs ha hl hr hy hk => exact ⟨_, _, hk, w.setBox hb _⟩
  | inl X bx' nx' h hr hw hk hn => exact ⟨_, _, hk, hw, Nat.le_trans w.2 hn⟩
  | own args' e sz n g h ha hl hr hk => exact ⟨_, _, hk, w.newBox _⟩
theorem opM_wf {lb : Nat} {ev : Operand → SV} {op : Op} {K : SV → St → Prop} (h : opM S st ev op K) (w : WfN lb st) : ∃ r s', K r s' ∧ WfN lb s' := by
  cases op with
  | build t parts =>
    simp only [opM] at h
    split at h
    · split at h
      · exact ⟨_, _, h.2, w⟩
      · exact h.elim
    · exact h.elim
  | alloc t =>
    simp only [opM] at h
    split at h
    · exact ⟨_, _, h, w.newBox _⟩
    · exact h.elim
  | box t x =>
    simp only [opM] at h
    split at h
    · exact ⟨_, _, h.2, w.newBox _⟩
    · exact h.elim
  | buildSlice t len parts =>
    simp only [opM] at h
    split at h
    · split at h
      · split at h
        · exact ⟨_, _, h.2, w.newBox _⟩
        · exact h.elim
      · exact h.elim
    · exact h.elim
  | store t p x =>
    simp only [opM] at h
    split at h
    · split at h
      · rename_i hb
        exact ⟨_, _, h.2, w.setBox hb _⟩
      · exact h.elim
    · split at h
      · rename_i hb
        exact ⟨_, _, h.2, w.setBox hb _⟩
      · exact h.elim
    · exact h.elim
  | makeSlice t l c =>
    simp only [opM] at h
    split at h
    · split at h
      · exact ⟨_, _, h.2, w.newBox _⟩
      · exact h.elim
    · exact h.elim
  | call c =>
    simp only [opM] at h
    split at h
    · split at h
      · split at h
        · exact ⟨_, _, h.2, w.newBox _⟩
        · split at h
          · exact ⟨_, _, h.2, (w.delBox _).newBox _⟩
          · exact h.elim
        · exact h.elim
      · exact h.elim
    · exact callP_wf h w
    · split at h
      · exact callP_wf h w
      · exact h.elim
    · exact h.elim
  | _ => exact h.elim
theorem opP_wf {lb : Nat} {o : Oper} {K : St → Prop} (h : opP S st o K) (w : WfN lb st) : ∃ s', K s' ∧ WfN lb s' := by
  unfold opP at h
  split at h
  · exact ⟨_, h.2, w.set _ _⟩
  · obtain ⟨r, s', hk, hw⟩ := opM_wf h.2 w
    exact ⟨_, hk, hw.set _ _⟩
theorem ex_wf {lb : Nat} {o : Oper} (h : Ex S ops st o s') (w : WfN lb st) : WfN lb s' := by
  unfold Ex opG at h
  split at h
  · obtain ⟨s, rfl, hw⟩ := opP_wf h w
    exact hw
  · split at h
    · rename_i g hg
      split at h
      · rw [← h.2.2]; exact w.set _ _
      · rw [← h.2.2]; exact w.set _ _
      · rcases h with h | ⟨x, _, _, h⟩
        · cases g with
          | true =>
            obtain ⟨s, rfl, hw⟩ := opP_wf (h.1 rfl) w
            exact hw
          | false => rw [← h.2 rfl]; exact w.set _ _
        · rw [← h]; exact w.set _ _
    · exact h.elim

def isAlloc (rcv : Nat → Bool) (o : Oper) : Bool := o.guard.isNone && match o.op with
  | .alloc _ => true
  | .box _ _ => true
  | .buildSlice _ _ _ => true
  | .makeSlice _ _ _ => true
  | .call c => match c.callee with
    | .value (.func f) => !rcv f && rcv (f + 2000000)
    | _ => false
  | _ => false
theorem alloc_bx {o : Oper} (ha : isAlloc S.rcv o = true) (h : Ex S ops st o s') : ∀ i, i ≠ st.nx → s'.bx i = st.bx i := by
  intro i hi
  simp only [isAlloc, Bool.and_eq_true, Option.isNone_iff_eq_none] at ha
  obtain ⟨hg, ha⟩ := ha
  unfold Ex opG at h
  rw [hg] at h
  simp only [opP] at h
  split at ha
  · rename_i t ho
    rw [ho] at h
    simp only [show ro S st.bx (st.ev S) (.alloc t) = none from rfl, opM] at h
    split at h
    · rw [← h.2]; simp [St.newBox, bx_set, hi]
    · exact h.2.elim
  · rename_i t x ho
    rw [ho] at h
    simp only [show ro S st.bx (st.ev S) (.box t x) = none from rfl, opM] at h
    split at h
    · rw [← h.2.2]; simp [St.newBox, bx_set, hi]
    · exact h.2.elim
  · rename_i t l ps ho
    rw [ho] at h
    simp only [show ro S st.bx (st.ev S) (.buildSlice t l ps) = none from rfl, opM] at h
    split at h
    · split at h
      · split at h
        · rw [← h.2.2]; simp [St.newBox, bx_set, hi]
        · exact h.2.elim
      · exact h.2.elim
    · exact h.2.elim
  · rename_i t l c ho
    rw [ho] at h
    simp only [show ro S st.bx (st.ev S) (.makeSlice t l c) = none from rfl, opM] at h
    split at h
    · split at h
      · rw [← h.2.2]; simp [St.newBox, bx_set, hi]
      · exact h.2.elim
    · exact h.2.elim
  · rename_i c ho
    obtain ⟨cal, ⟨al⟩, ⟨tl⟩⟩ := c
    simp only at ha
    split at ha
    · rename_i f
      rw [ho] at h
      simp only [Bool.and_eq_true, Bool.not_eq_true'] at ha
      have hro : ro S st.bx (st.ev S) (.call ⟨.value (.func f), ⟨al⟩, ⟨tl⟩⟩) = none := by simp [ro, roCore]
      rw [hro] at h
      have h2 := h.2
      unfold opM at h2
      simp only at h2
      cases h2 with
      | pure args' X h ha2 hl hk => rw [← hk, bx_set]
      | lend args' X h ha2 hl hf hk hp => rw [← hk, bx_set]
      | recv id off cs0 cs rest args' X Y h he hb hoff hcs ha2 hl hr hy hk => rw [ha.1] at hr; cases hr
      | recvEl id sz i e n g cs rest args' X Y h he hb hi hsz hcs ha2 hl hr hy hk => rw [ha.1] at hr; cases hr
      | inl X bx' nx' h hr hw hk hn => rw [ha.1] at hr; cases hr
      | own args' e sz n g h ha2 hl hr hk => rw [← hk, bx_set]; simp [St.newBox, hi]
    · cases ha
  · cases ha
def isLoad (o : Oper) : Bool := o.guard.isNone && match o.op with
  | .load _ _ => true
  | _ => false
def indepLA (rcv : Nat → Bool) (ops : Array Oper) (x y : Oper) : Bool :=
  (match x.dst with | some d => !(namesOf ops y).contains d | none => true) && (match y.dst with | some d => !(namesOf ops x).contains d | none => true) &&
  (match x.dst, y.dst with | some d, some e => d != e | _, _ => true) && isLoad x && isAlloc rcv y
theorem load_bx {t : TypeId} {b b' : Nat → Option Bx} {v : SV} {r : Prop × SV} (h : roLoad S t b v = some r) (hb : ∀ i y, b i = some y → b' i = some y) : roLoad S t b' v = some r := by
  unfold roLoad at h ⊢
  split
  · rename_i id off
    simp only at h
    split at h
    · rename_i h1 h2; rw [hb _ _ h1, h2]; exact h
    · rename_i h1 h2; rw [hb _ _ h1, h2]; exact h
    · cases h
  · rename_i id sz i off
    simp only at h
    split at h
    · rename_i h1 h2; rw [hb _ _ h1, h2]; exact h
    · rename_i h1 h2; rw [hb _ _ h1, h2]; exact h
    · cases h
  · exact h
  · simp_all
theorem swap_load_alloc {lb : Nat} {x y : Oper} (hi : indepLA S.rcv ops x y = true) (w : WfN lb st) (h1 : Ex S ops st x s1) (h2 : Ex S ops s1 y s2) : ∃ s3, Ex S ops st y s3 ∧ Ex S ops s3 x s2 := by
  simp only [indepLA, Bool.and_eq_true] at hi
  obtain ⟨⟨⟨⟨hxy, hyx⟩, hdd⟩, hl⟩, ha⟩ := hi
  have hab := alloc_bx ha h2
  simp only [isLoad, Bool.and_eq_true, Option.isNone_iff_eq_none] at hl
  obtain ⟨hxg, hl⟩ := hl
  split at hl
  case h_2 => cases hl
  rename_i t q hxo
  obtain ⟨v1, b1, n1, e1, k1, p1, z1⟩ := ex_step h1
  have hc1 : cls S.rcv x ≤ 1 := by simp [cls, clsOp, hxo]
  obtain ⟨rfl, rfl⟩ := k1 hc1
  obtain ⟨v2, b2, n2, e2, k2, p2, z2⟩ := ex_step h2
  have hs1 : s1.bx = st.bx ∧ s1.nx = st.nx := by rw [e1]; exact ⟨bx_set, nx_set⟩
  have ag1 : ∀ t ∈ namesOf ops y, s1.fr t = st.fr t := by
    rw [e1]; exact fr_agree (nx' := 0) (bx' := st.bx) hxy
  have q2 := p2 st ag1 hs1.1.symm hs1.2.symm
  refine ⟨_, q2, ?_⟩
  have comm : s2 = St.set (St.set ⟨st.fr, b2, n2, st.kf⟩ y.dst v2) x.dst v1 := by
    rw [e2, e1]
    simp only [set_eq, St.mk.injEq, and_true]
    funext s
    by_cases c1 : some s = x.dst
    · by_cases c2 : some s = y.dst
      · rw [← c1, ← c2] at hdd
        simp at hdd
      · rw [if_neg c2, if_pos c1, if_pos c1]
    · by_cases c2 : some s = y.dst
      · rw [if_pos c2, if_neg c1, if_pos c2]
      · rw [if_neg c2, if_neg c1, if_neg c1, if_neg c2]
  have hbx : ∀ i y', st.bx i = some y' → b2 i = some y' := fun i y' hi => by
    have hne : i ≠ s1.nx := by
      rw [hs1.2]
      intro e
      have := w.1 i (by omega)
      rw [this] at hi; cases hi
    have := hab i hne
    rw [e2, bx_set, hs1.1] at this
    exact this.trans hi
  have ag2 : ∀ t ∈ namesOf ops x, (St.set ⟨st.fr, b2, n2, st.kf⟩ y.dst v2).fr t = st.fr t := fr_agree (nx' := 0) (bx' := st.bx) hyx
  have hevq : (St.set ⟨st.fr, b2, n2, st.kf⟩ y.dst v2).ev S q = st.ev S q :=
    (ev_congr (S := S) (ops := ops) (o := x) (fun t ht => (ag2 t ht).symm) q (by rw [hxo]; simp [Op.operands])).symm
  unfold Ex opG at h1 ⊢
  rw [hxg] at h1 ⊢
  simp only [opP, hxo, ro_load] at h1 ⊢
  rw [hevq, bx_set]
  cases hr : roLoad S t st.bx (st.ev S q).strip with
  | none => rw [hr] at h1; simp only [rc, opM] at h1; exact h1.2.elim
  | some r =>
    rw [hr] at h1
    rw [load_bx hr hbx]
    obtain ⟨r1, r2⟩ := r
    simp only [rc] at h1 ⊢
    refine ⟨h1.1, ?_⟩
    rw [comm]
    have hv : ∀ d, x.dst = some d → r2 = v1 := fun d hd => by
      have := congrArg (fun s : St => s.fr d) (h1.2.trans e1)
      simpa [hd, St.set] using this
    cases hd : x.dst with
    | none => rfl
    | some d => rw [hv d hd]

def dynB (kl : List (Nat × Nat)) (ops : Array Oper) (mi : Nat) (j i : Nat) (x y : Oper) : Bool :=
  match x.op, y.op, x.dst with
  | .load _ (.tmp q), .store _ (.tmp p) vop, some d =>
    x.guard.isNone && y.guard.isNone && y.dst.isNone && d != p && d != q && (match vop with | .tmp e => e != d | _ => true) && ((Nat.beq (kdOf kl p) 2 && (Nat.beq (kdOf kl q) 1 || Nat.beq (kdOf kl q) 3)) || (Nat.ble 4 (kdOf kl p) && Nat.ble 4 (kdOf kl q) && kdOf kl p != kdOf kl q)) &&
      (List.range ops.size).all fun k => Nat.ble k j || (match ops[k]? with
        | some z => z.dst != some q && (z.dst != some p || (Nat.blt k i && mi.testBit k))
        | none => true)
  | _, _, _ => false
def dynC (rcv : Nat → Bool) (kl : List (Nat × Nat)) (ops : Array Oper) (x y : Oper) : Bool :=
  (match x.dst with | some d => !(namesOf ops y).contains d | none => true) && (match y.dst with | some d => !(namesOf ops x).contains d | none => true) &&
  (match x.dst, y.dst with | some d, some e => d != e | _, _ => true) && isAlloc rcv x && (match y.op with
  | .load _ (.tmp q) => y.guard.isNone && Nat.ble 4 (kdOf kl q) && (List.range ops.size).all fun k => match ops[k]? with
    | some z => z.dst != some q
    | none => true
  | _ => false)
theorem swap_alloc_load {kl : List (Nat × Nat)} {x y : Oper} {t : TypeId} {q id off : Nat} (hi : dynC S.rcv kl ops x y = true) (hyo : y.op = .load t (.tmp q)) (hyg : y.guard = none) (hq : st.fr q = .b (.c (.ptr id off))) (hid : id < st.nx)
    (h1 : Ex S ops st x s1) (h2 : Ex S ops s1 y s2) : ∃ s3, Ex S ops st y s3 ∧ Ex S ops s3 x s2 := by
  simp only [dynC, Bool.and_eq_true] at hi
  obtain ⟨⟨⟨⟨hxy, hyx⟩, hdd⟩, ha⟩, _⟩ := hi
  have hab := alloc_bx ha h1
  obtain ⟨v1, b1, n1, e1, k1, p1, z1⟩ := ex_step h1
  obtain ⟨v2, b2, n2, e2, k2, p2, z2⟩ := ex_step h2
  have hc2 : cls S.rcv y ≤ 1 := by simp [cls, clsOp, hyo, hyg]
  obtain ⟨rfl, rfl⟩ := k2 hc2
  have hfrq : s1.fr q = st.fr q := by
    rw [e1]
    refine fr_agree (nx' := 0) (bx' := st.bx) hxy q ?_
    simp [namesOf, hyo, Op.operands]
  have hload : rc (roLoad S t s1.bx (s1.ev S (.tmp q)).strip) (s1.ev S (.tmp q)).cond = rc (roLoad S t st.bx (st.ev S (.tmp q)).strip) (st.ev S (.tmp q)).cond := by
    simp only [St.ev, hfrq, hq, SV.strip, SV.cond, roLoad, hab id (by omega)]
  have hy : Ex S ops st y (st.set y.dst v2) := by
    unfold Ex opG at h2 ⊢
    rw [hyg] at h2 ⊢
    simp only [opP, hyo, ro_load] at h2 ⊢
    rw [hload] at h2
    cases hr : rc (roLoad S t st.bx (st.ev S (.tmp q)).strip) (st.ev S (.tmp q)).cond with
    | none => rw [hr] at h2; simp only [opM] at h2; exact h2.2.elim
    | some r =>
      rw [hr] at h2
      refine ⟨h2.1, ?_⟩
      have h3 : s1.set y.dst r.2 = St.set ⟨s1.fr, s1.bx, s1.nx, s1.kf⟩ y.dst v2 := h2.2.trans e2
      rw [set_eq, set_eq] at h3
      simp only [St.mk.injEq, and_true] at h3
      rw [set_eq, set_eq]
      simp only [St.mk.injEq, and_true]
      funext s
      have := congrFun h3 s
      by_cases c1 : some s = y.dst
      · rw [if_pos c1, if_pos c1] at this
        rw [if_pos c1, if_pos c1, this]
      · rw [if_neg c1, if_neg c1]
  refine ⟨_, hy, ?_⟩
  have ag : ∀ t ∈ namesOf ops x, st.fr t = (st.set y.dst v2).fr t := fun t ht => (fr_agree (fr := st.fr) (kf := st.kf) (nx' := 0) (bx' := st.bx) (bx := st.bx) (nx := st.nx) hyx t ht).symm
  have := p1 (st.set y.dst v2) ag bx_set nx_set
  have comm : s2 = St.set ⟨(st.set y.dst v2).fr, b1, n1, (st.set y.dst v2).kf⟩ x.dst v1 := by
    rw [e2, e1]
    simp only [set_eq, St.mk.injEq, and_true]
    funext s
    by_cases c1 : some s = x.dst
    · by_cases c2 : some s = y.dst
      · rw [← c1, ← c2] at hdd
        simp at hdd
      · rw [if_neg c2, if_pos c1, if_pos c1]
    · by_cases c2 : some s = y.dst
      · rw [if_pos c2, if_neg c1, if_pos c2]
      · rw [if_neg c2, if_neg c1, if_neg c1, if_neg c2]
  rw [comm]
  exact this

def drawOk2 (rcv : Nat → Bool) (ops : Array Oper) (m : Nat → Nat) (kl : List (Nat × Nat)) : Bool :=
  (List.range ops.size).all fun i => match ops[i]? with
    | none => false
    | some o => (o.after.all fun e => !Region.binds .any e || Nat.blt e.on i) &&
      (List.range i).all fun j => match ops[j]? with
        | none => false
        | some x => (indep rcv ops x o || indepLA rcv ops x o || dynB kl ops (m i) j i x o || dynC rcv kl ops x o) || ((m i).testBit j)

theorem exL_first2 {m : Nat → Nat} {kl : List (Nat × Nat)} {i : Nat} {o : Oper} {l2 : List Nat} (hd : drawOk2 S.rcv ops m kl = true) (ho : ops[i]? = some o) (hlt : i < ops.size) : ∀ (l1 : List Nat) {st s' : St}, (l1 ++ i :: l2).Pairwise (· < ·) →
    (∀ k ∈ l1 ++ i :: l2, k < ops.size) → (∀ j ∈ l1, (m i).testBit j = false) → ExL S ops (l1.map (fun i => ops.getD i default) ++ o :: l2.map (fun i => ops.getD i default)) st s' → kindsOk kl s' → WfN (lbOf kl) st →
    ∃ s, Ex S ops st o s ∧ ExL S ops (l1.map (fun i => ops.getD i default) ++ l2.map (fun i => ops.getD i default)) s s'
  | [], _, _, _, _, _, h, _, _ => h
  | j :: l1, st, s', hp, hall, ht, ⟨s, h1, h2⟩, hk, hwf => by
    have hpc := List.pairwise_cons.1 hp
    obtain ⟨s2, h3, h4⟩ := exL_first2 hd ho hlt l1 hpc.2 (fun k hk => hall k (List.mem_cons_of_mem _ hk)) (fun k hk => ht k (List.mem_cons_of_mem _ hk)) h2 hk (ex_wf h1 hwf)
    have hji : j < i := hpc.1 i (List.mem_append_right _ (List.mem_cons_self ..))
    have hjlt : j < ops.size := hall j (List.mem_cons_self ..)
    have hx : ops[j]? = some (ops.getD j default) := by rw [Array.getD_eq_getD_getElem?, Array.getElem?_eq_getElem hjlt]; rfl
    have d1 := List.all_eq_true.1 hd i (List.mem_range.2 hlt)
    rw [ho] at d1
    simp only [Bool.and_eq_true] at d1
    have d2 := List.all_eq_true.1 d1.2 j (List.mem_range.2 hji)
    rw [hx] at d2
    simp only [Bool.or_eq_true, ht j (List.mem_cons_self ..), Bool.false_eq_true, or_false] at d2
    have key : ∃ s3, Ex S ops st o s3 ∧ Ex S ops s3 (ops.getD j default) s2 := by
      rcases d2 with ((d2 | d2) | d2) | d2
      · exact ex_swap d2 h1 h3
      · exact swap_load_alloc d2 hwf h1 h3
      · unfold dynB at d2
        split at d2
        · rename_i _ t q t' p vop d hxo hyo hxd
          simp only [Bool.and_eq_true, Nat.beq_eq, Nat.ble_eq, Bool.or_eq_true, bne_iff_ne, Option.isNone_iff_eq_none] at d2
          obtain ⟨⟨⟨⟨⟨⟨⟨g1, g2⟩, g3⟩, g4⟩, g5⟩, g6⟩, g7⟩, g9⟩ := d2
          have hw : ∀ k, j < k → k < ops.size → (ops.getD k default).dst ≠ some q ∧ ((ops.getD k default).dst ≠ some p ∨ (k < i ∧ (m i).testBit k = true)) := fun k hk1 hk2 => by
            have := List.all_eq_true.1 g9 k (List.mem_range.2 hk2)
            rw [show ops[k]? = some (ops.getD k default) by rw [Array.getD_eq_getD_getElem?, Array.getElem?_eq_getElem hk2]; rfl] at this
            simp only [Bool.or_eq_true, Nat.ble_eq, Bool.and_eq_true, bne_iff_ne] at this
            rcases this with h | h
            · omega
            · refine ⟨h.1, h.2.imp id fun h => ⟨?_, h.2⟩⟩
              have := h.1
              simp [Nat.blt] at this
              omega
          have hq1 : s'.fr q = s.fr q := exL_fr h2 fun z hz => by
            rcases List.mem_append.1 hz with hz | hz
            · obtain ⟨k, hk1, rfl⟩ := List.mem_map.1 hz
              exact (hw k (hpc.1 k (List.mem_append_left _ hk1)) (hall k (List.mem_cons_of_mem _ (List.mem_append_left _ hk1)))).1
            · rcases List.mem_cons.1 hz with hz | hz
              · subst hz; rw [g3]; simp
              · obtain ⟨k, hk1, rfl⟩ := List.mem_map.1 hz
                exact (hw k (hpc.1 k (List.mem_append_right _ (List.mem_cons_of_mem _ hk1))) (hall k (List.mem_cons_of_mem _ (List.mem_append_right _ (List.mem_cons_of_mem _ hk1))))).1
          have hp1 : s'.fr p = s.fr p := exL_fr h2 fun z hz => by
            rcases List.mem_append.1 hz with hz | hz
            · obtain ⟨k, hk1, rfl⟩ := List.mem_map.1 hz
              rcases (hw k (hpc.1 k (List.mem_append_left _ hk1)) (hall k (List.mem_cons_of_mem _ (List.mem_append_left _ hk1)))).2 with h | h
              · exact h
              · rw [ht k (List.mem_cons_of_mem _ hk1)] at h; cases h.2
            · rcases List.mem_cons.1 hz with hz | hz
              · subst hz; rw [g3]; simp
              · obtain ⟨k, hk1, rfl⟩ := List.mem_map.1 hz
                rcases (hw k (hpc.1 k (List.mem_append_right _ (List.mem_cons_of_mem _ hk1))) (hall k (List.mem_cons_of_mem _ (List.mem_append_right _ (List.mem_cons_of_mem _ hk1))))).2 with h | h
                · exact h
                · have := (List.pairwise_cons.1 (List.pairwise_append.1 hpc.2).2.1).1 k hk1
                  omega
          have hp2 : s.fr p = st.fr p := ex_fr h1 (by rw [hxd]; simpa using g4)
          have hq2 : s.fr q = st.fr q := ex_fr h1 (by rw [hxd]; simpa using g5)
          have hpk := kindsOk_of hk (t := p) (by omega)
          have hqk := kindsOk_of hk (t := q) (by omega)
          rw [hp1, hp2] at hpk
          rw [hq1, hq2] at hqk
          have g6' : vop ≠ .tmp d := fun e => by subst e; simp at g6
          rcases g7 with g7 | g7
          · rw [g7.1] at hpk
            exact swap_load_store hxo hxd g1 hyo g3 g2 (by simpa using g4) g6' hpk hqk ⟨rfl, g7.2⟩ h1 h3
          · exact swap_load_store2 hxo hxd g1 hyo g3 g2 (by simpa using g4) g6' hpk hqk ⟨g7.1.1, g7.1.2, g7.2⟩ h1 h3
        · cases d2
      · have d3 := d2
        simp only [dynC, Bool.and_eq_true] at d3
        obtain ⟨⟨⟨⟨_, _⟩, _⟩, _⟩, d3⟩ := d3
        split at d3
        · rename_i t q hyo
          simp only [Bool.and_eq_true, Option.isNone_iff_eq_none, Nat.ble_eq] at d3
          obtain ⟨⟨hyg, hkd⟩, hall2⟩ := d3
          have hz : ∀ k, k < ops.size → (ops.getD k default).dst ≠ some q := fun k hk2 => by
            have := List.all_eq_true.1 hall2 k (List.mem_range.2 hk2)
            rw [show ops[k]? = some (ops.getD k default) by rw [Array.getD_eq_getD_getElem?, Array.getElem?_eq_getElem hk2]; rfl] at this
            simpa using this
          have hoi : o = ops.getD i default := by rw [Array.getD_eq_getD_getElem?, ho]; rfl
          have hq1 : s'.fr q = s.fr q := exL_fr h2 fun z hz2 => by
            rcases List.mem_append.1 hz2 with hz2 | hz2
            · obtain ⟨k, hk1, rfl⟩ := List.mem_map.1 hz2
              exact hz k (hall k (List.mem_cons_of_mem _ (List.mem_append_left _ hk1)))
            · rcases List.mem_cons.1 hz2 with hz2 | hz2
              · subst hz2; rw [hoi]; exact hz i hlt
              · obtain ⟨k, hk1, rfl⟩ := List.mem_map.1 hz2
                exact hz k (hall k (List.mem_cons_of_mem _ (List.mem_append_right _ (List.mem_cons_of_mem _ hk1))))
          have hq2 : s.fr q = st.fr q := ex_fr h1 (hz j hjlt)
          have hqk := kindsOk_of hk (t := q) (by omega)
          rw [hq1, hq2] at hqk
          unfold kOk at hqk
          split at hqk
          · rename_i id off hfr
            have hlb := kd_lb (t := q) (l := kl)
            exact swap_alloc_load d2 hyo hyg hfr (by have := hwf.2; omega) h1 h3
          · omega
          · omega
          · exact hqk.elim
        · cases d3
    obtain ⟨s3, h5, h6⟩ := key
    exact ⟨s3, h5, s2, h6, h4⟩

theorem any_of2 {m : Nat → Nat} {kl : List (Nat × Nat)} (hd : drawOk2 S.rcv ops m kl = true) (hm : marksOk ops m = true) {K : St → Prop} : ∀ (fuel : Nat) (listed : Array Bool) (rest : List Nat) (st s' : St),
    listed.size = ops.size → rest.Pairwise (· < ·) → (∀ i, i ∈ rest ↔ i < ops.size ∧ listed.getD i true = false) → Closed ops listed → ExL S ops (rest.map fun i => ops.getD i default) st s' → K s' → kindsOk kl s' → WfN (lbOf kl) st → rest.length ≤ fuel →
    anyP S ops fuel listed st K := by
  have hed : ∀ i o, ops[i]? = some o → ∀ e ∈ o.after, Region.binds .any e = true → e.on < i := fun i o ho e he hb => by
    have hlt : i < ops.size := by
      rcases Nat.lt_or_ge i ops.size with h | h
      · exact h
      · rw [Array.getElem?_eq_none h] at ho; cases ho
    have := List.all_eq_true.1 hd i (List.mem_range.2 hlt)
    rw [ho] at this
    simp only [Bool.and_eq_true] at this
    have := this.1
    obtain ⟨k, hk, rfl⟩ := Array.mem_iff_getElem.1 he
    have := (Array.all_eq_true.1 this) k hk
    simp only [hb, Bool.not_true, Bool.false_or, Nat.blt] at this
    have := Nat.le_of_ble_eq_true this
    omega
  have noready : ∀ (listed : Array Bool) (rest : List Nat), listed.size = ops.size → rest.Pairwise (· < ·) → (∀ i, i ∈ rest ↔ i < ops.size ∧ listed.getD i true = false) → Region.ready .any ops listed = [] → rest = [] := by
    intro listed rest hs hp hr hno
    cases rest with
    | nil => rfl
    | cons i r =>
      exfalso
      obtain ⟨hlt, hl⟩ := (hr i).1 (List.mem_cons_self ..)
      have : i ∈ Region.ready .any ops listed := (ready_iff hs).2 ⟨_, Array.getElem?_eq_getElem hlt, hl, fun e he hb => by
        have hle := hed i _ (Array.getElem?_eq_getElem hlt) e he hb
        cases hq : listed.getD e.on false with
        | true => rfl
        | false =>
          exfalso
          have hq' : listed.getD e.on true = false := by
            have hl2 : e.on < listed.size := by omega
            rw [Array.getD, dif_pos hl2] at hq ⊢
            exact hq
          have hmem := (hr e.on).2 ⟨by omega, hq'⟩
          rcases List.mem_cons.1 hmem with h | h
          · omega
          · have := (List.pairwise_cons.1 hp).1 _ h; omega⟩
      rw [hno] at this
      cases this
  intro fuel
  induction fuel with
  | zero =>
    intro listed rest st s' hs hp hr hcl hx hk hkl hwf hlen
    have hnil : rest = [] := List.eq_nil_of_length_eq_zero (by omega)
    subst hnil
    have hst : st = s' := hx
    subst hst
    refine ⟨?_, hk⟩
    rw [List.eq_nil_iff_forall_not_mem]
    intro i hi
    obtain ⟨o, ho, hl, _⟩ := (ready_iff hs).1 hi
    have hlt : i < ops.size := by
      rcases Nat.lt_or_ge i ops.size with h | h
      · exact h
      · rw [Array.getElem?_eq_none h] at ho; cases ho
    exact absurd ((hr i).2 ⟨hlt, hl⟩) (by simp)
  | succ fuel ih =>
    intro listed rest st s' hs hp hr hcl hx hk hkl hwf hlen
    refine ⟨fun hno => ?_, fun i hi => ?_⟩
    · have := noready listed rest hs hp hr hno
      subst this
      have hst : st = s' := hx
      rw [hst]; exact hk
    · obtain ⟨o, ho, hl, hdep⟩ := (ready_iff hs).1 hi
      have hlt : i < ops.size := by
        rcases Nat.lt_or_ge i ops.size with h | h
        · exact h
        · rw [Array.getElem?_eq_none h] at ho; cases ho
      have hmem := (hr i).2 ⟨hlt, hl⟩
      rw [ho]
      obtain ⟨l1, l2, rfl⟩ := List.append_of_mem hmem
      have hpw := List.pairwise_append.1 hp
      have hoi : ops.getD i default = o := by rw [Array.getD_eq_getD_getElem?, ho]; rfl
      rw [List.map_append, List.map_cons, hoi] at hx
      have hdep' : ∀ e ∈ o.after, Region.binds .any e = true → isIn listed e.on := fun e he hb => by
        have := hdep e he hb
        have h2 := hed i o ho e he hb
        have hl2 : e.on < listed.size := by omega
        unfold isIn
        rw [Array.getD, dif_pos hl2] at this ⊢
        exact this
      have hind : ∀ j ∈ l1, (m i).testBit j = false := fun j hj => by
        have hji : j < i := hpw.2.2 j hj i (List.mem_cons_self ..)
        obtain ⟨hjlt, hjl⟩ := (hr j).1 (List.mem_append_left _ hj)
        cases h2 : (m i).testBit j with
        | false => rfl
        | true =>
          exfalso
          have h3 := List.all_eq_true.1 hm i (List.mem_range.2 hlt)
          rw [ho] at h3
          have h4 := List.all_eq_true.1 h3 j (List.mem_range.2 hji)
          simp only [h2, Bool.not_true, Bool.false_or] at h4
          obtain ⟨k, hk', hh⟩ := Array.any_eq_true.1 h4
          simp only [Bool.and_eq_true, Bool.or_eq_true, Nat.beq_eq] at hh
          have hin := hdep' _ (Array.getElem_mem hk') hh.1
          have hle := hed i o ho _ (Array.getElem_mem hk') hh.1
          have : isIn listed j := by
            rcases hh.2 with q | q
            · rw [← q]; exact hin
            · exact marks_in hm hcl hed (fun _ _ _ => trivial) (i + 1) _ (by omega) hin (by omega) j (by have := q.2; simp [Nat.blt] at this; omega) q.1
          unfold isIn at this
          rw [this] at hjl
          cases hjl
      have hall : ∀ k ∈ l1 ++ i :: l2, k < ops.size := fun k hk2 => ((hr k).1 hk2).1
      obtain ⟨s1, h1, h2⟩ := exL_first2 hd ho hlt l1 hp hall hind hx hkl hwf
      refine ex_opG h1 ?_
      have hget : ∀ k b, (listed.setIfInBounds i true).getD k b = if k = i then true else listed.getD k b := fun k b => by
        simp only [Array.getD_eq_getD_getElem?, Array.getElem?_setIfInBounds]
        by_cases hk : k = i
        · subst hk; simp [hs, hlt]
        · rw [if_neg (fun h => hk h.symm), if_neg hk]
      refine ih _ (l1 ++ l2) s1 s' (by simpa using hs) ?_ (fun k => ?_) (fun k x hx' hin e he hb => ?_) (by rw [List.map_append]; exact h2) hk hkl (ex_wf h1 hwf) (by simp at hlen ⊢; omega)
      · refine List.pairwise_append.2 ⟨hpw.1, (List.pairwise_cons.1 hpw.2.1).2, fun a ha b hb => hpw.2.2 a ha b (List.mem_cons_of_mem _ hb)⟩
      · have hk := hr k
        rw [hget]
        by_cases hki : k = i
        · subst hki
          simp only [if_true]
          constructor
          · intro hmm
            exfalso
            rcases List.mem_append.1 hmm with q | q
            · have := hpw.2.2 k q k (List.mem_cons_self ..); omega
            · have := (List.pairwise_cons.1 hpw.2.1).1 k q; omega
          · rintro ⟨_, q⟩; cases q
        · rw [if_neg hki, ← hk]
          simp [hki]
      · unfold isIn at hin ⊢
        rw [hget] at hin ⊢
        by_cases hek : e.on = i
        · rw [if_pos hek]
        · rw [if_neg hek]
          by_cases hki : k = i
          · subst hki
            rw [ho] at hx'
            cases hx'
            exact hdep' e he hb
          · rw [if_neg hki] at hin
            exact hcl k x hx' hin e he hb

theorem anyP_of2 {l : List Oper} {m : Nat → Nat} {kl : List (Nat × Nat)} (hd : drawOk2 S.rcv l.toArray m kl = true) (hm : marksOk l.toArray m = true) {K : St → Prop} (hwf : WfN (lbOf kl) st) (h : opsP S l.toArray l st fun s => kindsOk kl s ∧ K s) : anyP S l.toArray l.toArray.size (Array.replicate l.toArray.size false) st K := by
  obtain ⟨s', h1, h2⟩ := opsP_exL h
  refine any_of2 hd hm _ _ (List.range l.length) st s' (by simp) List.pairwise_lt_range (fun i => ?_) (fun i o ho hi => ?_) ?_ h2.2 h2.1 hwf (by simp)
  · rw [List.mem_range]
    simp only [List.size_toArray, Array.getD_eq_getD_getElem?, Array.getElem?_replicate]
    constructor
    · intro h; exact ⟨h, by simp [h]⟩
    · exact fun h => h.1
  · exfalso
    have hlt : i < l.toArray.size := by
      rcases Nat.lt_or_ge i l.toArray.size with h | h
      · exact h
      · rw [Array.getElem?_eq_none h] at ho; cases ho
    unfold isIn at hi
    simp only [Array.getD_eq_getD_getElem?, Array.getElem?_replicate, if_pos hlt] at hi
    cases hi
  · have : (List.range l.length).map (fun i => l.toArray.getD i default) = l := by
      apply List.ext_getElem
      · simp
      · intro i h1 h2; simp [h2]
    rw [this]; exact h1

theorem cw_stepDK {id : Nat} {l : List Oper} {y : Code} {Q : AExit → St → Prop} (kl : List (Nat × Nat)) (hd : drawOk2 S.rcv l.toArray (fun i => (Region.before l.toArray).getD i 0) kl = true) (hm : marksOk l.toArray (fun i => (Region.before l.toArray).getD i 0) = true)
    (hwf : WfN (lbOf kl) st) (h : ∀ K : St → Prop, (∀ s, kindsOk kl s → cw S y Q s → K s) → opsP S l.toArray l st K) : cw S (.seq (.region id l.toArray true) y) Q st := by
  refine cw_seq ?_
  simp only [cw, if_pos]
  exact anyP_of2 hd hm hwf (h _ fun s h1 h2 => ⟨h1, h2⟩)
theorem cw_lastDK {id : Nat} {l : List Oper} {Q : AExit → St → Prop} (kl : List (Nat × Nat)) (hd : drawOk2 S.rcv l.toArray (fun i => (Region.before l.toArray).getD i 0) kl = true) (hm : marksOk l.toArray (fun i => (Region.before l.toArray).getD i 0) = true)
    (hwf : WfN (lbOf kl) st) (h : ∀ K : St → Prop, (∀ s, kindsOk kl s → Q .normal s → K s) → opsP S l.toArray l st K) : cw S (.region id l.toArray true) Q st := by
  simp only [cw, if_pos]
  exact anyP_of2 hd hm hwf (h _ fun s h1 h2 => ⟨h1, h2⟩)
theorem cw_ifM {c : Operand} {x y z : Code} {t : Bool} {Q : AExit → St → Prop} (s0 : St) (hc : st.ev S c = .t t) (h1 : t = true → cw S x (thenQ (Wk fun s => s = s0) Q) st) (h2 : t = false → cw S y (thenQ (Wk fun s => s = s0) Q) st) (h : cw S z Q s0) : cw S (.seq (.cond c x y) z) Q st :=
  cw_cut (fun s => s = s0) (cw_cond hc h1 h2) (fun s hs => hs ▸ h)
theorem cw_blocksV {z x : Code} {id : Nat} {Q : AExit → St → Prop} (h : ∀ K : St → Prop, (∀ s s', Le s s' → cw S z Q s' → K s) → cw S x (blockQ id (thenQ K Q)) st) : cw S (.seq (.block id x) z) Q st := by
  refine cw_mono (S := S) (.block id x) (Q := thenQ (fun st => Wk (cw S z Q) st ∨ cw S z Q st) Q) (fun _ _ h => h) (cw_block ?_)
  exact h _ fun s s' hl hs => .inl ⟨s', hl, hs⟩
theorem kO_ptr {c i o : Nat} : kOk c (.b (.c (.ptr i o))) = (c = 1 ∨ c = 4 + i) := rfl
theorem kO_pel {c i s k o : Nat} : kOk c (.b (.c (.pel i s k o))) = (c = 2) := rfl
theorem kO_ipt {c s o : Nat} {g : Nat → PV} : kOk c (.b (.c (.ipt s g o))) = (c = 3) := rfl
theorem kO_nil {s : St} : kindsOk [] s = True := rfl
theorem kO_cons {s : St} {t c : Nat} {r : List (Nat × Nat)} : kindsOk ((t, c) :: r) s = (kOk c (s.fr t) ∧ kindsOk r s) := rfl
end
attribute [go_sem] lbOf kO_ptr kO_pel kO_ipt kO_nil kO_cons
end Go.SL

/- SL, part T: small drawn regions by all their orders, with a cut behind. -/
namespace Go.SL
open Go

inductive Tr where
  | leaf
  | nil
  | br (i : Nat) (t r : Tr)
def treeP (S : Env) (ops : Array Oper) (L : List Oper) : Tr → St → (St → Prop) → Prop
  | .leaf, st, K => K st
  | .nil, _, _ => True
  | .br i t r, st, K => opsP S ops [L.getD i default] st (fun s => treeP S ops L t s K) ∧ treeP S ops L r st K
def altsOf : Tr → List Nat
  | .br i _ r => i :: altsOf r
  | _ => []
def depthT : Tr → Nat
  | .br _ t r => max (depthT t + 1) (depthT r)
  | _ => 0
section
variable {S : Env} {l : List Oper}
theorem treeP_leaf {ops : Array Oper} {L : List Oper} {st : St} {K : St → Prop} : treeP S ops L .leaf st K = K st := rfl
theorem treeP_nil {ops : Array Oper} {L : List Oper} {st : St} {K : St → Prop} : treeP S ops L .nil st K = True := rfl
theorem treeP_br {ops : Array Oper} {L : List Oper} {st : St} {K : St → Prop} {i : Nat} {t r : Tr} : treeP S ops L (.br i t r) st K = (opsP S ops [L.getD i default] st (fun s => treeP S ops L t s K) ∧ treeP S ops L r st K) := rfl
end
theorem gd_zero {x : Oper} {r : List Oper} : (x :: r).getD 0 default = x := rfl
theorem gd_succ {x : Oper} {r : List Oper} {i : Nat} : (x :: r).getD (i + 1) default = r.getD i default := rfl
attribute [go_sem] treeP_leaf treeP_nil treeP_br gd_zero gd_succ
end Go.SL

/- SL, part U: function values with captured variables; functions that are walked in place, with the caller's boxes. -/
namespace Go.SL
open Go

def roMake (f : FuncId) (l : List SV) : Option (Prop × SV) :=
  match ptrsOf l with
  | some ps => some (True, .b (.c (.clo f ps)))
  | none => none
def cloS (S : Env) (st : St) (v : SV) (args : List BV) {K : SV → St → Prop} (_ : Sl K) : Prop :=
  match cloArgs v with
  | some (f, xs) => CallP S st f (args ++ xs) K
  | none => False

section
variable {S : Env} {ops : Array Oper} {rest : List Oper} {st : St} {K : St → Prop} {d : Option Nat} {ty : TypeId} {pos : String} {af : Array Edge}
theorem cloS_eq {f : FuncId} {ps : List (Nat × Nat)} {args : List BV} {K : SV → St → Prop} :
    cloS S st (.b (.c (.clo f ps))) args (Sl.of K) = CallS S st f (args ++ ps.map fun p => .c (.ptr p.1 p.2)) (Sl.of K) := rfl
theorem cloS_fn {f n : Nat} {sz : Nat → Nat} {g : Nat → Nat → PV} {args : List BV} {K : SV → St → Prop} :
    cloS S st (.b (.c (.p (.fn f n sz g)))) args (Sl.of K) = CallS S st f (args ++ (List.range n).map fun i => .c (.ipt (sz i) (g i) 0)) (Sl.of K) := rfl
theorem cloS_val {f : FuncId} {args : List BV} {K : SV → St → Prop} :
    cloS S st (.b (.c (.p (.val (.func (.func f) #[] #[]))))) args (Sl.of K) = CallS S st f args (Sl.of K) := by
  unfold cloS cloArgs
  simp only [and_self, if_true, List.append_nil]
  rfl
theorem o_makeFunc {f : FuncId} {cap : Array Operand} : opsP S ops (⟨d, .makeFunc (.func f) #[] cap, ty, pos, af, none⟩ :: rest) st K =
    rk (roMake f (cap.toList.map fun x => (st.ev S x).strip)) (condAll (cap.toList.map (st.ev S))) (Sl.of fun r => opsP S ops rest (st.set d r) K) := by
  simp only [opsP, opG]
  rw [core_none (by simp) (by simp) (by simp) (fun _ => rfl)]
  have e : roCore S st.bx (st.ev S) (.makeFunc (.func f) #[] cap) = roMake f (cap.toList.map fun x => (st.ev S x).strip) := by
    simp only [roCore, roMake]
    split
    · rename_i h1 h2 h3; cases h1; rw [h3]
    · rename_i h; split
      · rename_i ps hp; exact absurd hp (h f ps rfl rfl)
      · rfl
  rw [e]
  simp [Op.operands]
theorem o_clo {t : Tmp} {args : Array Operand} {ts : Array TypeId} : opsP S ops (⟨d, .call ⟨.value (.tmp t), args, ts⟩, ty, pos, af, none⟩ :: rest) st K =
    (((st.fr t).cond ∧ condAll (args.toList.map (st.ev S))) ∧ cloS S st (st.fr t).strip (args.toList.map fun x => stripB (st.ev S x)) (Sl.of fun r st' => opsP S ops rest (st'.set d r) K)) := by
  simp only [opsP, opG]
  rw [m_op (by simp [ro, roCore])]
  simp only [Op.operands, Call.operands, opM, cloS]
  have e : condAll ((#[Operand.tmp t] ++ args).toList.map (st.ev S)) = ((st.fr t).cond ∧ condAll (args.toList.map (st.ev S))) := by simp [condAll, St.ev]
  rw [e]
  rfl
theorem ptrs_nil : ptrsOf [] = some [] := rfl
theorem ptrs_cons {id off : Nat} {r : List SV} : ptrsOf (.b (.c (.ptr id off)) :: r) = (ptrsOf r).map fun l => (id, off) :: l := rfl
theorem lt_clo {nx : Nat} {f : Nat} {ps : List (Nat × Nat)} : CV.lt nx (.clo f ps) = (ps.all fun p => Nat.blt p.1 nx) := by
  simp [CV.lt]
end

/-! A function walked in place -/
def bxIns (n : Nat) (x : Bx) (b : Nat → Option Bx) : Nat → Option Bx := fun i => if i = n then some x else b i
def bxDel (n : Nat) (b : Nat → Option Bx) : Nat → Option Bx := fun i => if i = n then none else b i
theorem bxf_set {st : St} {d : Option Nat} {v : SV} : (st.set d v).bx = st.bx := by cases d <;> rfl
theorem bxf_newBox {st : St} {x : Bx} : (st.newBox x).bx = bxIns st.nx x st.bx := rfl
theorem bxf_setBox {st : St} {id : Nat} {x : Bx} : (st.setBox id x).bx = bxIns id x st.bx := rfl
theorem bxf_delBox {st : St} {id : Nat} : (st.delBox id).bx = bxDel id st.bx := rfl
theorem kf_set {st : St} {d : Option Nat} {v : SV} : (st.set d v).kf = st.kf := by cases d <;> rfl
theorem kf_newBox {st : St} {x : Bx} : (st.newBox x).kf = st.kf := rfl
theorem kf_setBox {st : St} {id : Nat} {x : Bx} : (st.setBox id x).kf = st.kf := rfl
theorem kf_delBox {st : St} {id : Nat} : (st.delBox id).kf = st.kf := rfl
theorem bx_ins {n i : Nat} {x : Bx} {b : Nat → Option Bx} : bxIns n x b i = if i = n then some x else b i := rfl
theorem bx_del {n i : Nat} {b : Nat → Option Bx} : bxDel n b i = if i = n then none else b i := rfl

def stI (args : List BV) (bx : Nat → Option Bx) (nx : Nat) (kf : Nat → SV) : St := ⟨frArgs args 0, bx, nx, kf⟩
def St.turn (st : St) (bx : Nat → Option Bx) (nx : Nat) : St := ⟨st.fr, bx, nx, st.kf⟩
theorem fr_stI {args : List BV} {bx : Nat → Option Bx} {nx : Nat} {kf : Nat → SV} {s : Nat} : (stI args bx nx kf).fr s = frArgs args 0 s := rfl
theorem bx_stI {args : List BV} {bx : Nat → Option Bx} {nx : Nat} {kf : Nat → SV} : (stI args bx nx kf).bx = bx := rfl
theorem nx_stI {args : List BV} {bx : Nat → Option Bx} {nx : Nat} {kf : Nat → SV} : (stI args bx nx kf).nx = nx := rfl
theorem kf_stI {args : List BV} {bx : Nat → Option Bx} {nx : Nat} {kf : Nat → SV} : (stI args bx nx kf).kf = kf := rfl
theorem fr_turn {st : St} {bx : Nat → Option Bx} {nx : Nat} {s : Nat} : (st.turn bx nx).fr s = st.fr s := rfl
theorem bx_turn {st : St} {bx : Nat → Option Bx} {nx : Nat} : (st.turn bx nx).bx = bx := rfl
theorem nx_turn {st : St} {bx : Nat → Option Bx} {nx : Nat} : (st.turn bx nx).nx = nx := rfl
theorem kf_turn {st : St} {bx : Nat → Option Bx} {nx : Nat} : (st.turn bx nx).kf = st.kf := rfl

def resI (S : Env) (st : St) : ResultVar → Option (Prop × BV)
  | .tmp t => match st.fr t with
    | .b x => some (True, x)
    | _ => none
  | .cell p t => match roLoad S t st.bx (st.fr p) with
    | some (vc, .b x) => some (vc, x)
    | _ => none
def resIAll (S : Env) (st : St) : List ResultVar → Option (Prop × List BV)
  | [] => some (True, [])
  | r :: l => match resI S st r, resIAll S st l with
    | some (p, x), some (q, xs) => some (p ∧ q, x :: xs)
    | _, _ => none
def resX : List BV → SV
  | [x] => .b x
  | l => .tup l
def inlP (S : Env) (rs : List ResultVar) (X : SV) (bx' : Nat → Option Bx) (nx' : Nat) (kf : Nat → SV) (st : St) : Prop :=
  match resIAll S st rs with
  | some (p, xs) => p ∧ resX xs = X ∧ st.bx = bx' ∧ st.nx = nx' ∧ st.kf = kf ∧ X.lt nx'
  | none => False
def inlQ (S : Env) (rs : List ResultVar) (X : SV) (bx' : Nat → Option Bx) (nx' : Nat) (kf : Nat → SV) : AExit → St → Prop
  | .ret, st => inlP S rs X bx' nx' kf st
  | .normal, st => inlP S rs X bx' nx' kf st
  | _, _ => False
theorem inlQ_ret {S : Env} {rs : List ResultVar} {X : SV} {bx' : Nat → Option Bx} {nx' : Nat} {kf : Nat → SV} {st : St} : inlQ S rs X bx' nx' kf .ret st = inlP S rs X bx' nx' kf st := rfl
theorem inlQ_normal {S : Env} {rs : List ResultVar} {X : SV} {bx' : Nat → Option Bx} {nx' : Nat} {kf : Nat → SV} {st : St} : inlQ S rs X bx' nx' kf .normal st = inlP S rs X bx' nx' kf st := rfl

section
variable {S : Env} {E : Ent} {st : St} {ρ : Rho} {a : Act} {w : World}
theorem resI_den {r : ResultVar} {p : Prop} {x : BV} (h : resI S st r = some (p, x)) (hp : p) (g : Gam S E st ρ a w) : ∃ v, runRes S.P a.tmps w r v ∧ DenB ρ (okA E st.bx ρ w) w x v := by
  unfold resI at h
  split at h
  · rename_i t
    have hs := g.slt t
    split at h
    · rename_i y hy
      rw [hy] at hs
      simp only [Option.some.injEq, Prod.mk.injEq] at h
      obtain ⟨_, rfl⟩ := h
      exact ⟨_, rfl, hs⟩
    · simp at h
  · rename_i q t
    split at h
    · rename_i vc y hl
      simp only [Option.some.injEq, Prod.mk.injEq] at h
      obtain ⟨rfl, rfl⟩ := h
      obtain ⟨v, hr, hv, _⟩ := yld_load hl hp g (g.slt q)
      refine ⟨v, ?_, hv⟩
      unfold runRes rvSem
      simp only [Instr.loadAt, Sem.run_bind] at hr ⊢
      cases hq : a.tmps.getD q undef <;> simp only [hq, Instr.sureAddr, run_stuck, Result.andThen_halt, reduceCtorEq] at hr
      rename_i ad
      cases ad with
      | none => simp [Instr.sureAddr] at hr
      | some ad => simpa [asAddr, Instr.sureAddr] using hr
    · simp at h
theorem resIAll_den (g : Gam S E st ρ a w) : ∀ {rs : List ResultVar} {p : Prop} {xs : List BV},
    resIAll S st rs = some (p, xs) → p → ∃ vs : List Value, (rs.mapM (rvSem a.tmps)).run S.P w = .ok vs w ∧ vs.length = xs.length ∧ ∀ j, DenB ρ (okA E st.bx ρ w) w (xs.getD j .any) (vs.getD j undef)
  | [], p, xs, h, _ => by
    simp only [resIAll, Option.some.injEq, Prod.mk.injEq] at h
    obtain ⟨_, rfl⟩ := h
    exact ⟨[], by simp, rfl, fun j => by simp [DenB, DenC, DenP]⟩
  | r :: rs, p, xs, h, hp => by
    simp only [resIAll] at h
    split at h
    · rename_i p1 x1 p2 xs2 h1 h2
      simp only [Option.some.injEq, Prod.mk.injEq] at h
      obtain ⟨rfl, rfl⟩ := h
      obtain ⟨v, hv, hd⟩ := resI_den h1 hp.1 g
      obtain ⟨vs, hvs, hl, hds⟩ := resIAll_den g h2 hp.2
      refine ⟨v :: vs, ?_, by simp [hl], fun j => ?_⟩
      · unfold runRes at hv
        rw [List.mapM_cons]
        simp only [Sem.run_bind, hv, Result.andThen_ok, hvs, Sem.run_pure]
      · cases j with
        | zero => exact hd
        | succ j => exact hds j
    · simp at h
theorem resX_den {fn : Func} {xs : List BV} {vs : List Value} {ok : Nat → Prop} (hvs : (fn.results.toList.mapM (rvSem a.tmps)).run S.P w = .ok vs w) (hl : vs.length = xs.length)
    (hd : ∀ j, DenB ρ ok w (xs.getD j .any) (vs.getD j undef)) : ∃ v, (results fn a.tmps).run S.P w = .ok v w ∧ DenS ρ ok w (resX xs) v := by
  refine ⟨_, run_results hvs, ?_⟩
  match vs, xs, hl with
  | [], [], _ => exact ⟨#[], rfl, rfl, fun j => by simpa using hd j⟩
  | [v], [x], _ => exact hd 0
  | v :: v2 :: vs, x :: x2 :: xs, hl => exact ⟨(v :: v2 :: vs).toArray, rfl, by simpa using hl, fun j => by
      have e : (v :: v2 :: vs).toArray.getD j undef = (v :: v2 :: vs).getD j undef := by simp [List.getD_eq_getElem?_getD]
      rw [e]; exact hd j⟩

theorem inl_of {f : FuncId} {fn : Func} {c : Code} {rs : List ResultVar} {args : List BV} {X : SV} {bx bx' : Nat → Option Bx} {nx nx' : Nat} (hf : S.P.funcs[f]? = some fn) (hb : fn.body = some c) (hrs : fn.results.toList = rs)
    (hname : (fn.name == "runtime.NumGoroutine") = false) (hm : S.P.follows .mixedOrders = true) (hN : codeOk fn.ntmps c = true) (hlen : args.length ≤ fn.ntmps) (hl : ∀ x ∈ args, BV.lt nx x)
    (h : ∀ kf, cw S c (inlQ S rs X bx' nx' kf) (stI args bx nx kf)) : InlP S bx nx f args X bx' nx' := by
  subst hrs
  refine ⟨⟨fn, hf, hname, by rw [hb]; rfl⟩, fun E st ρ a w vs hbx hnx g hsz hden => ?_⟩
  refine calls_of_wp hf hb ?_
  subst hbx
  subst hnx
  let E2 : Ent := { w0 := E.w0, ok0 := E.ok0, rx := E.rx, N := fn.ntmps, kp := fun s => if s % 2 = 0 then a.tmps.getD (s / 2) undef else E.kp (s / 2) }
  let kf : Nat → SV := fun s => if s % 2 = 0 then st.fr (s / 2) else st.kf (s / 2)
  have g2 : Gam S E2 (stI args st.bx st.nx kf) ρ { tmps := vs ++ Array.replicate (fn.ntmps - vs.size) undef, defers := [] } w := by
    refine ⟨rfl, by simp [E2]; omega, ⟨g.frm.os, g.frm.tape, g.frm.output, g.frm.size, g.frm.block, g.frm.rxb⟩, fun s => ?_, g.wfb, g.bxs, g.new, g.inj, g.rx0, fun s => ?_, g.glb, fun s => ?_⟩
    · simp only [stI, frArgs_spec]
      split
      · rename_i hs
        refine hl _ ?_
        rw [List.getD_eq_getElem?_getD, List.getElem?_eq_getElem (by omega)]; exact List.getElem_mem _
      · trivial
    · simp only [stI, frArgs_spec]
      split
      · rename_i hs
        have e : (vs ++ Array.replicate (fn.ntmps - vs.size) undef).getD s undef = vs.getD s undef := by
          have : s < vs.size := by omega
          simp [this]
          rw [Array.getElem?_append_left this]
          simp [this]
        rw [e]
        exact hden (s - 0)
      · trivial
    · show (kf s).lt st.nx ∧ DenS ρ (okA E st.bx ρ w) w (kf s) (E2.kp s)
      simp only [kf, E2]
      split
      · exact ⟨g.wfs _, g.slt _⟩
      · exact g.kept _
  have fin : ∀ {a' : Act} {w' : World}, Nxt S E2 (inlP S fn.results.toList X bx' nx' kf) a' w' → a'.defers = [] ∧ ∃ v, (results fn a'.tmps).run S.P w' = .ok v w' ∧
      ∃ v2 ρ', Ending.returned v = .returned v2 ∧ DenS ρ' (okA E bx' ρ' w') w' X v2 ∧ X.lt nx' ∧ Gam S E ⟨st.fr, bx', nx', st.kf⟩ ρ' a w' := fun {a' w'} ⟨st', ρ', g', hq⟩ => by
    unfold inlP at hq
    split at hq
    · rename_i p xs hr
      obtain ⟨hp, hX, hbx', hnx', hkf, hXl⟩ := hq
      obtain ⟨vs2, hvs, hl2, hd⟩ := resIAll_den g' hr hp
      obtain ⟨v, hv1, hv2⟩ := resX_den hvs hl2 hd
      subst hX
      subst hbx'
      subst hnx'
      refine ⟨g'.dfr, v, hv1, v, ρ', rfl, hv2, hXl, ?_⟩
      have hk0 : ∀ s, (st.fr s).lt st'.nx ∧ DenS ρ' (okA E st'.bx ρ' w') w' (st.fr s) (a.tmps.getD s undef) := fun s => by
        have := g'.kept (2 * s)
        rw [hkf] at this
        have e1 : 2 * s % 2 = 0 := by omega
        have e2 : 2 * s / 2 = s := by omega
        simp only [kf, E2, e1, e2, if_true] at this
        exact this
      have hk1 : ∀ s, (st.kf s).lt st'.nx ∧ DenS ρ' (okA E st'.bx ρ' w') w' (st.kf s) (E.kp s) := fun s => by
        have := g'.kept (2 * s + 1)
        rw [hkf] at this
        have e1 : ¬ (2 * s + 1) % 2 = 0 := by omega
        have e2 : (2 * s + 1) / 2 = s := by omega
        simp only [kf, E2, e1, e2, if_false] at this
        exact this
      exact ⟨g.dfr, g.sz, ⟨g'.frm.os, g'.frm.tape, g'.frm.output, g'.frm.size, g'.frm.block, g'.frm.rxb⟩, fun s => (hk0 s).1, g'.wfb, g'.bxs, g'.new, g'.inj, g'.rx0, fun s => (hk0 s).2, g'.glb, hk1⟩
    · exact hq.elim
  refine wp_mono (cw_sound hm c hN (h kf) g2) fun e a' w' hq => ?_
  cases e with
  | normal => exact fin hq
  | ret => exact fin hq
  | exit id => obtain ⟨_, _, _, h⟩ := hq; exact h.elim
  | _ => exact hq.elim

theorem call_inl {f : FuncId} {args : List BV} {K : SV → St → Prop} {X : SV} {bx' : Nat → Option Bx} {nx' : Nat} (h : InlP S st.bx st.nx f args X bx' nx') (hr : S.rcv f = true) (hw : ∀ i, nx' ≤ i → bx' i = none) (hn : st.nx ≤ nx')
    (hk : K X (st.turn bx' nx')) : CallS S st f args (Sl.of K) := .inl X bx' nx' h hr hw hk hn
end
/-! A function that returns a slice of its own -/
def ownP (rs : List ResultVar) (e sz n : Nat) (g : Nat → Nat → PV) (st : St) : Prop :=
  match rs with
  | [.tmp t] => match st.fr t with
    | .b (.c (.own id n')) => ∃ f, st.bx id = some (.arr e sz n f) ∧ n' = n ∧ ∀ i, i < n → ∀ j, j < sz → ∃ u, f i j = .val u ∧ g i j = .val u
    | _ => False
  | _ => False
def ownQ (rs : List ResultVar) (e sz n : Nat) (g : Nat → Nat → PV) : AExit → St → Prop
  | .ret, st => ownP rs e sz n g st
  | .normal, st => ownP rs e sz n g st
  | _, _ => False
theorem ownQ_ret {rs : List ResultVar} {e sz n : Nat} {g : Nat → Nat → PV} {st : St} : ownQ rs e sz n g .ret st = ownP rs e sz n g st := rfl
theorem ownQ_normal {rs : List ResultVar} {e sz n : Nat} {g : Nat → Nat → PV} {st : St} : ownQ rs e sz n g .normal st = ownP rs e sz n g st := rfl
theorem own_of {S : Env} {f : FuncId} {fn : Func} {c : Code} {rs : List ResultVar} {args : List BV} {e sz n : Nat} {g : Nat → Nat → PV} (hf : S.P.funcs[f]? = some fn) (hb : fn.body = some c) (hrs : fn.results.toList = rs) (hname : (fn.name == "runtime.NumGoroutine") = false)
    (hm : S.P.follows .mixedOrders = true) (hN : codeOk fn.ntmps c = true) (hlen : args.length ≤ fn.ntmps) (hl : ∀ x ∈ args, BV.lt 0 x) (h : cw S c (ownQ rs e sz n g) (st0 args)) : PureOwn S f args e sz n g := by
  subst hrs
  refine ⟨⟨fn, hf, hname, by rw [hb]; rfl⟩, fun ok w vs hok hgl hsz hden => ?_⟩
  refine calls_of_wp hf hb ?_
  let E : Ent := { w0 := w, ok0 := ok, rx := none, N := fn.ntmps }
  have hokA : ∀ b, ok b → okA E (fun _ => none) noRho w b := fun b hb => ⟨hok b hb, fun _ => hb, fun _ h => absurd rfl h⟩
  have hk : Keep ok (okA E (fun _ => none) noRho w) w w := fun b hb => ⟨hokA b hb, fun _ => rfl⟩
  have g0 : Gam S E (st0 args) noRho { tmps := vs ++ Array.replicate (fn.ntmps - vs.size) undef, defers := [] } w := by
    refine ⟨rfl, by simp [E]; omega, ⟨rfl, rfl, rfl, Nat.le_refl _, fun _ _ _ => rfl, fun _ _ _ h => (by cases h)⟩, fun s => ?_, fun _ _ h => (by cases h), fun _ _ h => (by cases h), fun _ _ _ h => (by cases h), fun _ _ _ h => absurd rfl h,
      fun _ _ _ h => (by cases h), fun s => ?_, fun gg n f hg => ?_, fun s => ⟨trivial, trivial⟩⟩
    · simp only [st0, frArgs_spec]
      split
      · rename_i hs
        refine hl _ ?_
        rw [List.getD_eq_getElem?_getD, List.getElem?_eq_getElem (by omega)]; exact List.getElem_mem _
      · trivial
    · simp only [st0, frArgs_spec]
      split
      · rename_i hs
        have e : (vs ++ Array.replicate (fn.ntmps - vs.size) undef).getD s undef = vs.getD s undef := by
          have : s < vs.size := by omega
          simp [this]
          rw [Array.getElem?_append_left this]
          simp [this]
        rw [e]
        exact DenB.mono (nx := 0) hk (fun _ _ => rfl) (hl _ (by rw [List.getD_eq_getElem?_getD, List.getElem?_eq_getElem (by omega)]; exact List.getElem_mem _)) (hden (s - 0))
      · trivial
    · obtain ⟨h1, h2⟩ := hgl gg n f hg
      refine ⟨hokA gg h1, fun j hj => ?_⟩
      obtain ⟨x, hx, h3, hd⟩ := h2 j hj
      exact ⟨x, hx, h3, DenP.mono hk hd⟩
  have fin : ∀ {a' : Act} {w' : World}, Nxt S E (ownP fn.results.toList e sz n g) a' w' → a'.defers = [] ∧ ∃ v, (results fn a'.tmps).run S.P w' = .ok v w' ∧
      ∃ v2 xs, Ending.returned v = .returned v2 ∧ RowKit.Below w.heap.size w w' ∧ 0 < sz ∧ w'.ownsRow w.heap.size e sz v2 n xs ∧ (∀ x ∈ xs, x.oneCell' = true) ∧
        ∀ i, i < n → ∀ j, j < sz → DenP (fun _ => False) w' (g i j) (xs.getD (i * sz + j) undef) := fun {a' w'} ⟨st', ρ', g', hq⟩ => by
    unfold ownP at hq
    split at hq
    · rename_i t hrs
      split at hq
      · rename_i id n' hfr
        obtain ⟨f2, hbx, rfl, hgf⟩ := hq
        have hs := g'.slt t
        rw [hfr] at hs
        obtain ⟨A, m, cp, hr, h1, h2, h3, hu⟩ := hs
        obtain ⟨h0, xs, hown, hone, hd⟩ := g'.bxs id _ hbx
        have hmn : m = n' := by
          rcases hown.2 with ⟨e1, e2⟩ | ⟨b, cap, cur, e1, _⟩
          · rw [hr] at e1; simp only [Value.slice.injEq] at e1; omega
          · rw [hr] at e1; simp only [Value.slice.injEq] at e1; omega
        subst hmn
        have hv : a'.tmps.getD t undef = ρ' id := by rw [hu, hr]
        have hres : (fn.results.toList.mapM (rvSem a'.tmps)).run S.P w' = .ok [ρ' id] w' := by
          rw [hrs, ← hv]; rfl
        refine ⟨g'.dfr, ρ' id, run_results hres, ρ' id, xs, rfl, ⟨g'.frm.os, g'.frm.tape, g'.frm.output, g'.frm.size, fun k hk => g'.frm.block k hk (fun _ _ h => by cases h)⟩, h0, ⟨hown.1, ?_⟩, hone, fun i hi j hj => ?_⟩
        · rcases hown.2 with h | ⟨b, cap, cur, e1, e2, e3⟩
          · exact .inl h
          · refine .inr ⟨b, cap, cur, e1, ?_, e3⟩
            rcases (g'.new id _ b hbx (by rw [e1]; rfl)).2 with h | ⟨_, _, _, h, _⟩
            · exact h
            · cases h
        · obtain ⟨u, e1, e2⟩ := hgf i hi j hj
          have := hd i hi j hj
          rw [e1] at this
          rw [e2]
          exact this
      · exact hq.elim
    · exact hq.elim
  refine wp_mono (cw_sound hm c hN h g0) fun e a' w' hq => ?_
  cases e with
  | normal => exact fin hq
  | ret => exact fin hq
  | exit id => obtain ⟨_, _, _, h⟩ := hq; exact h.elim
  | _ => exact hq.elim
theorem call_ownE {S : Env} {st : St} {f : FuncId} {args : List BV} {K : SV → St → Prop} {e sz n : Nat} {g : Nat → Nat → PV} (h : PureOwn S f args e sz n g) (hk : K (.b (.c (.own st.nx n))) (st.newBox (.arr e sz n g)))
    (hr : S.rcv (f + 2000000) = true := by rfl) (hl : argsLt args := by simp (maxSteps := 1000000) (disch := omega) only [go_sem]) (ha : args.map (lendAB st.bx) = args := by simp (maxSteps := 1000000) (disch := omega) only [go_sem]) : CallS S st f args (Sl.of K) := .own args e sz n g h (by rw [ha]; exact argsLe_refl _) (argsLt_mem hl) hr hk

/-! Results that are pointers or function values -/
def outPtr (bx : Nat → Option Bx) (id off : Nat) : Option (Nat × (Nat → PV)) :=
  match bx id with
  | some (.fix cs) => if off ≤ cs.length then some (cs.length - off, fun j => (lendC bx (cs.getD (off + j) .any)).toP) else none
  | _ => none
def outCap (bx : Nat → Option Bx) (p : Nat × Nat) : Nat × (Nat → PV) := (outPtr bx p.1 p.2).getD (0, fun _ => .any)
def outC (bx : Nat → Option Bx) : CV → CV
  | .ptr id off => match outPtr bx id off with
    | some (n, g) => .ipt n g 0
    | none => .ptr id off
  | .clo f ps => if ps.all (fun p => (outPtr bx p.1 p.2).isSome) = true then .p (.fn f ps.length (fun i => (outCap bx (ps.getD i (0, 0))).1) (fun i => (outCap bx (ps.getD i (0, 0))).2)) else .clo f ps
  | x => lendC bx x
def outB (bx : Nat → Option Bx) : BV → BV
  | .c x => .c (outC bx x)
  | .agg cs => .agg (cs.map (outC bx))
def retO (S : Env) (rs : List ResultVar) (R : SV → Prop) (st : St) : Prop :=
  match resIAll S st rs with
  | some (p, xs) => p ∧ (∀ x ∈ xs.map (outB st.bx), BV.lt 0 x) ∧ R (resX (xs.map (outB st.bx)))
  | none => False
def retOQ (S : Env) (rs : List ResultVar) (R : SV → Prop) : AExit → St → Prop
  | .ret, st => retO S rs R st
  | .normal, st => retO S rs R st
  | _, _ => False
theorem retOQ_ret {S : Env} {rs : List ResultVar} {R : SV → Prop} {st : St} : retOQ S rs R .ret st = retO S rs R st := rfl
theorem retOQ_normal {S : Env} {rs : List ResultVar} {R : SV → Prop} {st : St} : retOQ S rs R .normal st = retO S rs R st := rfl

section
variable {S : Env} {E : Ent} {st : St} {ρ : Rho} {a : Act} {w : World}
theorem toP_denO {x : CV} {u : Value} {ok : Nat → Prop} (h : DenC ρ ok w x u) : DenP ok w x.toP u := by
  cases x with
  | p x => exact h
  | _ => trivial
theorem outPtr_den {id off n : Nat} {g : Nat → PV} {u : Value} {ok : Nat → Prop} (G : Gam S E st ρ a w) (hrx : E.rx = none) (hok : ∀ b, okA E st.bx ρ w b → ok b) (hnew : ∀ b, b < w.heap.size → E.w0.heap.size ≤ b → ok b)
    (ho : outPtr st.bx id off = some (n, g)) (h : ∃ b o, ρ id = .pointer (some ⟨b, o, none⟩) ∧ u = .pointer (some ⟨b, o + off, none⟩)) :
    ∃ b o, u = .pointer (some ⟨b, o, none⟩) ∧ ok b ∧ ∀ j, j < n → ∃ x, w.cell? ⟨b, o + j, none⟩ = some x ∧ x.oneCell' = true ∧ DenP ok w (g j) x := by
  unfold outPtr at ho
  split at ho
  · rename_i cs hb
    split at ho
    · rename_i hoff
      simp only [Option.some.injEq, Prod.mk.injEq] at ho
      obtain ⟨rfl, rfl⟩ := ho
      obtain ⟨b, o, hr, hu⟩ := h
      obtain ⟨b2, o2, cells, t, hv, hh, hs, h1, hd⟩ := G.bxs id _ hb
      rw [hr] at hv
      simp only [Value.pointer.injEq, Option.some.injEq, Addr.mk.injEq, and_true] at hv
      obtain ⟨rfl, rfl⟩ := hv
      have hge : E.w0.heap.size ≤ b := by
        rcases (G.new id _ b hb (by rw [hr]; rfl)).2 with h | ⟨o3, cs3, _, _, e⟩
        · exact h
        · rw [hrx] at e; cases e
      refine ⟨b, o + off, hu, hnew b (lt_of_some hh) hge, fun j hj => ⟨cells.getD (o + off + j) undef, cell_of_heap hh (by omega), ?_, ?_⟩⟩
      · rw [Nat.add_assoc]; exact h1 _ (by omega)
      · have := hd (off + j)
        rw [← Nat.add_assoc] at this
        exact toP_denO (lendC_out G hok hnew this)
    · cases ho
  · cases ho
theorem outC_den {x : CV} {u : Value} {ok : Nat → Prop} (G : Gam S E st ρ a w) (hrx : E.rx = none) (hok : ∀ b, okA E st.bx ρ w b → ok b) (hnew : ∀ b, b < w.heap.size → E.w0.heap.size ≤ b → ok b)
    (h : DenC ρ (okA E st.bx ρ w) w x u) : DenC ρ ok w (outC st.bx x) u := by
  unfold outC
  split
  · split
    · rename_i id off n g ho
      obtain ⟨b, o, h1, h2, h3⟩ := outPtr_den G hrx hok hnew ho h
      exact ⟨b, o, h1, h2, h3⟩
    · exact h
  · rename_i f ps
    split
    · rename_i hall
      obtain ⟨vs, hu, hs, hc⟩ := h
      refine ⟨vs, hu, hs, fun i hi => ?_⟩
      have hm : ps.getD i (0, 0) ∈ ps := by rw [List.getD_eq_getElem?_getD, List.getElem?_eq_getElem hi]; exact List.getElem_mem hi
      have hq := List.all_eq_true.1 hall _ hm
      obtain ⟨q, hq⟩ := Option.isSome_iff_exists.1 hq
      have := outPtr_den (n := q.1) (g := q.2) G hrx hok hnew hq (hc i hi)
      have e : outCap st.bx (ps.getD i (0, 0)) = q := by unfold outCap; rw [hq]; rfl
      dsimp only
      rw [e]
      exact this
    · exact h
  · exact lendC_out G hok hnew h
theorem outB_den {x : BV} {u : Value} {ok : Nat → Prop} (G : Gam S E st ρ a w) (hrx : E.rx = none) (hok : ∀ b, okA E st.bx ρ w b → ok b) (hnew : ∀ b, b < w.heap.size → E.w0.heap.size ≤ b → ok b)
    (h : DenB ρ (okA E st.bx ρ w) w x u) : DenB ρ ok w (outB st.bx x) u := by
  cases x with
  | c x => exact outC_den G hrx hok hnew h
  | agg cs =>
    obtain ⟨us, rfl, hs, h1, hd⟩ := h
    refine ⟨us, rfl, by simp [hs], h1, fun j => ?_⟩
    by_cases hj : j < cs.length
    · have e : (cs.map (outC st.bx)).getD j .any = outC st.bx (cs.getD j .any) := by simp [List.getD_eq_getElem?_getD, hj]
      rw [e]
      exact outC_den G hrx hok hnew (hd j)
    · rw [List.getD_eq_getElem?_getD, List.getElem?_eq_none (by simp; omega)]; trivial

theorem pure_ofO {f : FuncId} {fn : Func} {c : Code} {rs : List ResultVar} {args : List BV} {R : SV → Prop} (hf : S.P.funcs[f]? = some fn) (hb : fn.body = some c) (hrs : fn.results.toList = rs) (hname : (fn.name == "runtime.NumGoroutine") = false)
    (hm : S.P.follows .mixedOrders = true) (hN : codeOk fn.ntmps c = true) (hlen : args.length ≤ fn.ntmps) (hl : ∀ x ∈ args, BV.lt 0 x) (h : cw S c (retOQ S rs R) (st0 args)) : Pure S f args R := by
  subst hrs
  refine ⟨⟨fn, hf, hname, by rw [hb]; rfl⟩, fun ok w vs hok hgl hsz hden => ?_⟩
  refine calls_of_wp hf hb ?_
  let E : Ent := { w0 := w, ok0 := ok, rx := none, N := fn.ntmps }
  have hokA : ∀ b, ok b → okA E (fun _ => none) noRho w b := fun b hb => ⟨hok b hb, fun _ => hb, fun _ h => absurd rfl h⟩
  have hk : Keep ok (okA E (fun _ => none) noRho w) w w := fun b hb => ⟨hokA b hb, fun _ => rfl⟩
  have g : Gam S E (st0 args) noRho { tmps := vs ++ Array.replicate (fn.ntmps - vs.size) undef, defers := [] } w := by
    refine ⟨rfl, by simp [E]; omega, ⟨rfl, rfl, rfl, Nat.le_refl _, fun _ _ _ => rfl, fun _ _ _ h => (by cases h)⟩, fun s => ?_, fun _ _ h => (by cases h), fun _ _ h => (by cases h), fun _ _ _ h => (by cases h), fun _ _ _ h => absurd rfl h,
      fun _ _ _ h => (by cases h), fun s => ?_, fun gg n f hg => ?_, fun s => ⟨trivial, trivial⟩⟩
    · simp only [st0, frArgs_spec]
      split
      · rename_i hs
        refine hl _ ?_
        rw [List.getD_eq_getElem?_getD, List.getElem?_eq_getElem (by omega)]; exact List.getElem_mem _
      · trivial
    · simp only [st0, frArgs_spec]
      split
      · rename_i hs
        have e : (vs ++ Array.replicate (fn.ntmps - vs.size) undef).getD s undef = vs.getD s undef := by
          have : s < vs.size := by omega
          simp [this]
          rw [Array.getElem?_append_left this]
          simp [this]
        rw [e]
        exact DenB.mono (nx := 0) hk (fun _ _ => rfl) (hl _ (by rw [List.getD_eq_getElem?_getD, List.getElem?_eq_getElem (by omega)]; exact List.getElem_mem _)) (hden (s - 0))
      · trivial
    · obtain ⟨h1, h2⟩ := hgl gg n f hg
      refine ⟨hokA gg h1, fun j hj => ?_⟩
      obtain ⟨x, hx, h3, hd⟩ := h2 j hj
      exact ⟨x, hx, h3, DenP.mono hk hd⟩
  have fin : ∀ {a' : Act} {w' : World}, Nxt S E (retO S fn.results.toList R) a' w' → a'.defers = [] ∧ ∃ v, (results fn a'.tmps).run S.P w' = .ok v w' ∧
      ∃ v2 r, Ending.returned v = .returned v2 ∧ R r ∧ SV.lt 0 r ∧ RowKit.Below w.heap.size w w' ∧ DenS noRho (okR ok w w') w' r v2 := fun {a' w'} ⟨st', ρ', g', hq⟩ => by
    unfold retO at hq
    split at hq
    · rename_i p xs hr
      obtain ⟨hp, hl2, hR⟩ := hq
      obtain ⟨vs2, hvs, hlv, hd⟩ := resIAll_den g' hr hp
      have hd2 : ∀ j, DenB noRho (okR ok w w') w' ((xs.map (outB st'.bx)).getD j .any) (vs2.getD j undef) := fun j => by
        by_cases hj : j < xs.length
        · have e : (xs.map (outB st'.bx)).getD j .any = outB st'.bx (xs.getD j .any) := by simp [List.getD_eq_getElem?_getD, hj]
          have hm : (xs.map (outB st'.bx)).getD j .any ∈ xs.map (outB st'.bx) := by rw [List.getD_eq_getElem?_getD, List.getElem?_eq_getElem (by simpa using hj)]; exact List.getElem_mem _
          refine den_noRho (ρ := ρ') (hl2 _ hm) ?_
          rw [e]
          exact outB_den g' rfl (fun b hb => ⟨hb.1, hb.2.1⟩) (fun b h1 h2 => ⟨h1, fun h3 => by have : w.heap.size ≤ b := h2; omega⟩) (hd j)
        · rw [List.getD_eq_getElem?_getD, List.getElem?_eq_none (by simpa using hj)]; trivial
      obtain ⟨v, hv1, hv2⟩ := resX_den hvs (by simpa using hlv) hd2
      refine ⟨g'.dfr, v, hv1, v, _, rfl, hR, ?_, ⟨g'.frm.os, g'.frm.tape, g'.frm.output, g'.frm.size, fun k hk => g'.frm.block k hk (fun _ _ h => by cases h)⟩, hv2⟩
      generalize xs.map (outB st'.bx) = l at hl2
      match l, hl2 with
      | [], _ => exact fun x hx => by simp at hx
      | [x], hl2 => exact hl2 x (List.mem_cons_self ..)
      | x :: y :: l, hl2 => exact hl2
    · exact hq.elim
  refine wp_mono (cw_sound hm c hN h g) fun e a' w' hq => ?_
  cases e with
  | normal => exact fin hq
  | ret => exact fin hq
  | exit id => obtain ⟨_, _, _, h⟩ := hq; exact h.elim
  | _ => exact hq.elim
end
attribute [go_sem ↓] o_makeFunc o_clo
attribute [go_sem] cloS_eq cloS_fn cloS_val roMake ptrs_nil ptrs_cons lt_clo List.all_cons List.all_nil bx_ins bx_del fr_stI bx_stI nx_stI fr_turn bx_turn nx_turn inlQ_ret inlQ_normal inlP resIAll resI resX kf_set kf_newBox kf_setBox kf_delBox kf_stI kf_turn retOQ_ret retOQ_normal retO ownQ_ret ownQ_normal ownP outB outC outPtr outCap
end Go.SL

/- SL, part V: drawn regions by few of their orders: an operation that meets none of the others may go first. -/
namespace Go.SL
open Go

def isAllocS (o : Oper) : Bool := o.guard.isNone && match o.op with
  | .alloc _ => true
  | .box _ _ => true
  | .makeSlice _ _ _ => true
  | _ => false
def isStore (o : Oper) : Bool := o.guard.isNone && o.dst.isNone && match o.op with
  | .store _ _ _ => true
  | _ => false
def indepSA (ops : Array Oper) (x y : Oper) : Bool := (match y.dst with | some d => !(namesOf ops x).contains d | none => true) && isStore x && isAllocS y
section
variable {S : Env} {ops : Array Oper} {st s1 s2 s' : St}
theorem alloc_ex {o : Oper} (ha : isAllocS o = true) (h : Ex S ops st o s') : ∃ z r, s' = (st.newBox z).set o.dst r ∧ ∀ st2 : St, st2.fr = st.fr → st2.nx = st.nx → Ex S ops st2 o ((st2.newBox z).set o.dst r) := by
  simp only [isAllocS, Bool.and_eq_true, Option.isNone_iff_eq_none] at ha
  obtain ⟨hg, ha⟩ := ha
  have hev : ∀ st2 : St, st2.fr = st.fr → st2.ev S = st.ev S := fun st2 hf => by
    funext x
    cases x <;> simp [St.ev, hf]
  unfold Ex opG at h
  rw [hg] at h
  simp only [opP] at h
  split at ha
  · rename_i t ho
    rw [ho] at h
    simp only [show ro S st.bx (st.ev S) (.alloc t) = none from rfl, opM] at h
    split at h
    · rename_i z hz
      refine ⟨_, _, h.2.symm, fun st2 hf hn => ?_⟩
      unfold Ex opG
      rw [hg]
      simp only [opP, ho, show ro S st2.bx (st2.ev S) (.alloc t) = none from rfl, opM, hev st2 hf, hn, hz]
      exact ⟨h.1, trivial⟩
    · exact h.2.elim
  · rename_i t x ho
    rw [ho] at h
    simp only [show ro S st.bx (st.ev S) (.box t x) = none from rfl, opM] at h
    split at h
    · rename_i v hz
      refine ⟨_, _, h.2.2.symm, fun st2 hf hn => ?_⟩
      unfold Ex opG
      rw [hg]
      simp only [opP, ho, show ro S st2.bx (st2.ev S) (.box t x) = none from rfl, opM, hev st2 hf, hn, hz]
      exact ⟨h.1, h.2.1, trivial⟩
    · exact h.2.elim
  · rename_i t l c ho
    rw [ho] at h
    simp only [show ro S st.bx (st.ev S) (.makeSlice t l c) = none from rfl, opM] at h
    split at h
    · rename_i q1 q2 q3
      split at h
      · rename_i q4 q5
        refine ⟨_, _, h.2.2.symm, fun st2 hf hn => ?_⟩
        unfold Ex opG
        rw [hg]
        simp only [opP, ho, show ro S st2.bx (st2.ev S) (.makeSlice t l c) = none from rfl, opM, hev st2 hf, hn, q1, q2, q3, q4, q5]
        exact ⟨h.1, h.2.1, trivial⟩
      · exact h.2.elim
    · exact h.2.elim
  · cases ha
theorem store_ex {o : Oper} (ha : isStore o = true) (h : Ex S ops st o s') : ∃ id b b', st.bx id = some b ∧ s' = st.setBox id b' ∧ ∀ st2 : St, (∀ t ∈ namesOf ops o, st.fr t = st2.fr t) → st2.bx id = some b → Ex S ops st2 o (st2.setBox id b') := by
  simp only [isStore, Bool.and_eq_true, Option.isNone_iff_eq_none] at ha
  obtain ⟨⟨hg, hd⟩, ha⟩ := ha
  split at ha
  · rename_i t p v ho
    have hev : ∀ st2 : St, (∀ t ∈ namesOf ops o, st.fr t = st2.fr t) → st2.ev S p = st.ev S p ∧ st2.ev S v = st.ev S v := fun st2 hf => by
      have := ev_congr (S := S) hf
      rw [ho] at this
      exact ⟨(this p (by simp [Op.operands])).symm, (this v (by simp [Op.operands])).symm⟩
    unfold Ex opG at h
    rw [hg] at h
    simp only [opP, hd, ho, show ro S st.bx (st.ev S) (.store t p v) = none from rfl] at h
    obtain ⟨hcond, h⟩ := h
    simp only [opM] at h
    split at h
    · rename_i id off w sz ag q1 q2 q3
      split at h
      · rename_i cs hb
        refine ⟨id, _, _, hb, h.2.symm, fun st2 hf hb2 => ?_⟩
        obtain ⟨e1, e2⟩ := hev st2 hf
        unfold Ex opG
        rw [hg]
        simp only [opP, hd, ho, show ro S st2.bx (st2.ev S) (.store t p v) = none from rfl]
        refine ⟨?_, ?_⟩
        · simpa only [Op.operands, List.map_cons, List.map_nil, e1, e2] using hcond
        · simp only [opM, e1, e2, q1, q2, q3, hb2]
          exact ⟨h.1, rfl⟩
      · exact h.elim
    · rename_i id s i off w sz ag q1 q2 q3
      split at h
      · rename_i e s' n f hb
        refine ⟨id, _, _, hb, h.2.symm, fun st2 hf hb2 => ?_⟩
        obtain ⟨e1, e2⟩ := hev st2 hf
        unfold Ex opG
        rw [hg]
        simp only [opP, hd, ho, show ro S st2.bx (st2.ev S) (.store t p v) = none from rfl]
        refine ⟨?_, ?_⟩
        · simpa only [Op.operands, List.map_cons, List.map_nil, e1, e2] using hcond
        · simp only [opM, e1, e2, q1, q2, q3, hb2]
          exact ⟨h.1, rfl⟩
      · exact h.elim
    · exact h.elim
  · cases ha
theorem swap_store_alloc {lb : Nat} {x y : Oper} (hi : indepSA ops x y = true) (w : WfN lb st) (h1 : Ex S ops st x s1) (h2 : Ex S ops s1 y s2) : ∃ s3, Ex S ops st y s3 ∧ Ex S ops s3 x s2 := by
  simp only [indepSA, Bool.and_eq_true] at hi
  obtain ⟨⟨hyx, hx⟩, hy⟩ := hi
  obtain ⟨id, b, b', hb, rfl, k1⟩ := store_ex hx h1
  obtain ⟨z, r, rfl, k2⟩ := alloc_ex hy h2
  have hid : id ≠ st.nx := fun e => by
    have := w.1 id (by omega)
    rw [this] at hb; cases hb
  refine ⟨_, k2 st rfl rfl, ?_⟩
  have := k1 ((st.newBox z).set y.dst r) (fun t ht => by
    have := fr_agree (fr := (st.newBox z).fr) (kf := st.kf) (nx' := 0) (bx' := st.bx) (bx := (st.newBox z).bx) (nx := (st.newBox z).nx) (d := y.dst) (v := r) hyx t ht
    exact this.symm) (by rw [bx_set]; simp only [St.newBox]; rw [if_neg hid]; exact hb)
  have e : (((st.newBox z).set y.dst r).setBox id b') = ((st.setBox id b').newBox z).set y.dst r := by
    rw [set_eq, set_eq]
    simp only [St.setBox, St.newBox, St.mk.injEq, true_and, and_true]
    funext j
    by_cases c1 : j = id
    · subst c1; simp [hid]
    · by_cases c2 : j = st.nx
      · subst c2; simp [c1]
      · simp [c1, c2]
  rw [e] at this
  exact this
end
def persist (rcv : Nat → Bool) (ops : Array Oper) (m : Nat → Nat) (listed : Array Bool) (p : Nat) : Bool :=
  match ops[p]? with
  | none => false
  | some x => (List.range ops.size).all fun i => listed.getD i true || Nat.beq i p || ((m i).testBit p && Nat.blt p i) || (match ops[i]? with
    | some o => indep rcv ops x o || indepLA rcv ops x o || indepSA ops x o
    | none => false)
def fwdOk (ops : Array Oper) : Bool := (List.range ops.size).all fun i => match ops[i]? with
  | none => false
  | some o => o.after.all fun e => !Region.binds .any e || Nat.blt e.on i
section
variable {S : Env} {ops : Array Oper} {st : St}
theorem get_set {listed : Array Bool} {i : Nat} (hi : i < listed.size) (k : Nat) (b : Bool) : (listed.setIfInBounds i true).getD k b = if k = i then true else listed.getD k b := by
  simp only [Array.getD_eq_getD_getElem?, Array.getElem?_setIfInBounds]
  by_cases hk : k = i
  · subst hk; simp [hi]
  · rw [if_neg (fun h => hk h.symm), if_neg hk]
theorem fwd_of (h : fwdOk ops = true) : ∀ i o, ops[i]? = some o → ∀ e ∈ o.after, Region.binds .any e = true → e.on < i := fun i o ho e he hb => by
  have hlt : i < ops.size := by
    rcases Nat.lt_or_ge i ops.size with h | h
    · exact h
    · rw [Array.getElem?_eq_none h] at ho; cases ho
  have := List.all_eq_true.1 h i (List.mem_range.2 hlt)
  rw [ho] at this
  obtain ⟨k, hk, rfl⟩ := Array.mem_iff_getElem.1 he
  have := (Array.all_eq_true.1 this) k hk
  simp only [hb, Bool.not_true, Bool.false_or, Nat.blt] at this
  have := Nat.le_of_ble_eq_true this
  omega
theorem ready_lt {listed : Array Bool} {i : Nat} (hs : listed.size = ops.size) (h : i ∈ Region.ready .any ops listed) : i < ops.size := by
  obtain ⟨o, ho, _⟩ := (ready_iff hs).1 h
  rcases Nat.lt_or_ge i ops.size with h | h
  · exact h
  · rw [Array.getElem?_eq_none h] at ho; cases ho
theorem ready_dep {listed : Array Bool} {i : Nat} (hs : listed.size = ops.size) (hed : ∀ i o, ops[i]? = some o → ∀ e ∈ o.after, Region.binds .any e = true → e.on < i) (h : i ∈ Region.ready .any ops listed) {o : Oper} (ho : ops[i]? = some o) :
    ∀ e ∈ o.after, Region.binds .any e = true → isIn listed e.on := fun e he hb => by
  have hlt := ready_lt hs h
  obtain ⟨o2, ho2, hl, hdep⟩ := (ready_iff hs).1 h
  rw [ho] at ho2
  cases ho2
  have := hdep e he hb
  have h2 := hed i o ho e he hb
  have hl2 : e.on < listed.size := by omega
  unfold isIn
  rw [Array.getD, dif_pos hl2] at this ⊢
  exact this
theorem closed_set {listed : Array Bool} {i : Nat} (hs : listed.size = ops.size) (hed : ∀ i o, ops[i]? = some o → ∀ e ∈ o.after, Region.binds .any e = true → e.on < i) (hcl : Closed ops listed) (h : i ∈ Region.ready .any ops listed) : Closed ops (listed.setIfInBounds i true) := fun k x hx hin e he hb => by
  have hlt := ready_lt hs h
  unfold isIn at hin ⊢
  rw [get_set (by omega)] at hin ⊢
  by_cases hek : e.on = i
  · rw [if_pos hek]
  · rw [if_neg hek]
    by_cases hki : k = i
    · subst hki
      exact ready_dep hs hed h hx e he hb
    · rw [if_neg hki] at hin
      exact hcl k x hx hin e he hb
theorem not_ready {m : Nat → Nat} {listed : Array Bool} {i p : Nat} (hm : marksOk ops m = true) (hs : listed.size = ops.size) (hed : ∀ i o, ops[i]? = some o → ∀ e ∈ o.after, Region.binds .any e = true → e.on < i) (hcl : Closed ops listed)
    (hpi : p < i) (hb : (m i).testBit p = true) (hp : listed.getD p true = false) : ¬ i ∈ Region.ready .any ops listed := fun h => by
  have hlt := ready_lt hs h
  obtain ⟨o, ho, _⟩ := (ready_iff hs).1 h
  have hdep := ready_dep hs hed h ho
  have h3 := List.all_eq_true.1 hm i (List.mem_range.2 hlt)
  rw [ho] at h3
  have h4 := List.all_eq_true.1 h3 p (List.mem_range.2 hpi)
  simp only [hb, Bool.not_true, Bool.false_or] at h4
  obtain ⟨k, hk', hh⟩ := Array.any_eq_true.1 h4
  simp only [Bool.and_eq_true, Bool.or_eq_true, Nat.beq_eq] at hh
  have hin := hdep _ (Array.getElem_mem hk') hh.1
  have hle := hed i o ho _ (Array.getElem_mem hk') hh.1
  have : isIn listed p := by
    rcases hh.2 with q | q
    · rw [← q]; exact hin
    · exact marks_in hm hcl hed (fun _ _ _ => trivial) (i + 1) _ (by omega) hin (by omega) p (by have := q.2; simp [Nat.blt] at this; omega) q.1
  unfold isIn at this
  rw [this] at hp
  cases hp
theorem persist_set {rcv : Nat → Bool} {m : Nat → Nat} {listed : Array Bool} {i p : Nat} (hi : i < listed.size) (h : persist rcv ops m listed p = true) : persist rcv ops m (listed.setIfInBounds i true) p = true := by
  unfold persist at h ⊢
  split at h
  · cases h
  · refine List.all_eq_true.2 fun k hk => ?_
    have := List.all_eq_true.1 h k hk
    simp only [Bool.or_eq_true] at this ⊢
    rw [get_set hi]
    rcases this with ((h1 | h1) | h1) | h1
    · refine .inl (.inl (.inl ?_)); split
      · rfl
      · exact h1
    · exact .inl (.inl (.inr h1))
    · exact .inl (.inr h1)
    · exact .inr h1
theorem ready_set {listed : Array Bool} {i k : Nat} (hs : listed.size = ops.size) (hi : i < listed.size) (hk : k ∈ Region.ready .any ops listed) (hne : k ≠ i) : k ∈ Region.ready .any ops (listed.setIfInBounds i true) := by
  obtain ⟨o, ho, hl, hdep⟩ := (ready_iff hs).1 hk
  refine (ready_iff (by simpa using hs)).2 ⟨o, ho, by rw [get_set hi, if_neg hne]; exact hl, fun e he hb => ?_⟩
  rw [get_set hi]
  split
  · rfl
  · exact hdep e he hb
theorem set_comm {listed : Array Bool} {i k : Nat} : (listed.setIfInBounds i true).setIfInBounds k true = (listed.setIfInBounds k true).setIfInBounds i true := by
  apply Array.ext_getElem?
  intro j
  simp only [Array.getElem?_setIfInBounds, Array.size_setIfInBounds]
  repeat' split
  all_goals first | rfl | omega | (simp_all; done)
theorem any_persist {m : Nat → Nat} {x : Oper} {p : Nat} (hm : marksOk ops m = true) (hed : ∀ i o, ops[i]? = some o → ∀ e ∈ o.after, Region.binds .any e = true → e.on < i) (hx : ops[p]? = some x) {K : St → Prop} : ∀ (fuel : Nat) (listed : Array Bool) (st : St),
    listed.size = ops.size → Closed ops listed → persist S.rcv ops m listed p = true → p ∈ Region.ready .any ops listed → WfN 0 st → (∃ s, Ex S ops st x s ∧ anyP S ops fuel (listed.setIfInBounds p true) s K) → anyP S ops (fuel + 1) listed st K := by
  intro fuel
  induction fuel with
  | zero =>
    intro listed st hs hcl hp hr hw ⟨s, h1, h2⟩
    have hplt := ready_lt hs hr
    refine ⟨fun hno => (by rw [hno] at hr; cases hr), fun i hi => ?_⟩
    by_cases e : i = p
    · subst e; rw [hx]; exact ex_opG h1 h2
    · have := ready_set hs (by omega) hi e
      rw [h2.1] at this; cases this
  | succ f ih =>
    intro listed st hs hcl hp hr hw ⟨s, h1, h2⟩
    have hplt := ready_lt hs hr
    obtain ⟨_, _, hpl, _⟩ := (ready_iff hs).1 hr
    refine ⟨fun hno => (by rw [hno] at hr; cases hr), fun i hi => ?_⟩
    by_cases e : i = p
    · subst e; rw [hx]; exact ex_opG h1 h2
    obtain ⟨o, ho, hl, hdep⟩ := (ready_iff hs).1 hi
    have hlt := ready_lt hs hi
    rw [ho]
    have h3 := h2.2 i (ready_set hs (by omega) hi e)
    rw [ho] at h3
    obtain ⟨s2, h4, h5⟩ := opG_ex h3
    have hsw : ∃ s3, Ex S ops st o s3 ∧ Ex S ops s3 x s2 := by
      have hq := hp
      unfold persist at hq
      rw [hx] at hq
      have hq := List.all_eq_true.1 hq i (List.mem_range.2 hlt)
      rw [ho] at hq
      simp only [Bool.or_eq_true, Nat.beq_eq, Bool.and_eq_true] at hq
      rcases hq with ((q | q) | q) | q
      · rw [q] at hl; cases hl
      · exact absurd q e
      · exact absurd hi (not_ready hm hs hed hcl (by have := q.2; simp [Nat.blt] at this; omega) q.1 hpl)
      · rcases q with (q | q) | q
        · exact ex_swap q h1 h4
        · exact swap_load_alloc q hw h1 h4
        · exact swap_store_alloc q hw h1 h4
    obtain ⟨s3, h6, h7⟩ := hsw
    refine ex_opG h6 ?_
    refine ih _ s3 (by simpa using hs) (closed_set hs hed hcl hi) (persist_set (by omega) hp) (ready_set hs (by omega) hr (fun h => e h.symm)) (ex_wf h6 hw) ⟨s2, h7, ?_⟩
    rw [set_comm]; exact h5
end
def okN2 (rcv : Nat → Bool) (ops : Array Oper) (m : Nat → Nat) (listed : Array Bool) : Tr → Bool
  | .leaf => Region.ready .any ops listed == []
  | .nil => false
  | .br i t r => Region.ready .any ops listed == altsOf (.br i t r) || (altsOf r == [] && (Region.ready .any ops listed).contains i && persist rcv ops m listed i)
def okT2 (rcv : Nat → Bool) (ops : Array Oper) (m : Nat → Nat) : Array Bool → Tr → Bool
  | _, .leaf => true
  | _, .nil => true
  | listed, .br i t r => Nat.blt i ops.size && okN2 rcv ops m (listed.setIfInBounds i true) t && okT2 rcv ops m (listed.setIfInBounds i true) t && okT2 rcv ops m listed r
section
variable {S : Env} {l : List Oper} {m : Nat → Nat}
theorem okN2_sub {t : Tr} {listed : Array Bool} (hn : okN2 S.rcv l.toArray m listed t = true) : ∀ i ∈ altsOf t, i ∈ Region.ready .any l.toArray listed := by
  cases t with
  | leaf => intro i hi; cases hi
  | nil => cases hn
  | br k t r =>
    intro i hi
    simp only [okN2, Bool.or_eq_true, Bool.and_eq_true, beq_iff_eq] at hn
    rcases hn with hn | hn
    · rw [hn]; exact hi
    · obtain ⟨⟨h1, h2⟩, _⟩ := hn
      rw [altsOf, h1, List.mem_singleton] at hi
      subst hi
      exact List.contains_iff_mem.1 h2
theorem tree_node2 (hm : marksOk l.toArray m = true) (hf : fwdOk l.toArray = true) {t : Tr} {listed : Array Bool} {fuel : Nat} {st : St} {K : St → Prop} (hs : listed.size = l.toArray.size) (hcl : Closed l.toArray listed) (hw : WfN 0 st)
    (hn : okN2 S.rcv l.toArray m listed t = true) (h : treeP S l.toArray l t st K) (hd : depthT t ≤ fuel)
    (hal : ∀ f, fuel = f + 1 → ∀ i ∈ altsOf t, match l.toArray[i]? with
        | some o => opG S l.toArray st o fun st' => anyP S l.toArray f (listed.setIfInBounds i true) st' K
        | none => anyP S l.toArray f (listed.setIfInBounds i true) st K) : anyP S l.toArray fuel listed st K := by
  have hsub := okN2_sub hn
  cases t with
  | leaf =>
    have hr : Region.ready .any l.toArray listed = [] := by simpa [okN2] using hn
    cases fuel with
    | zero => exact ⟨hr, h⟩
    | succ f => exact ⟨fun _ => h, fun i hi => by rw [hr] at hi; cases hi⟩
  | nil => cases hn
  | br i t r =>
    cases fuel with
    | zero => simp [depthT] at hd
    | succ f =>
      have hi : i ∈ Region.ready .any l.toArray listed := hsub i (by rw [altsOf]; exact List.mem_cons_self ..)
      simp only [okN2, Bool.or_eq_true, Bool.and_eq_true, beq_iff_eq] at hn
      rcases hn with hn | hn
      · exact ⟨fun h0 => by (rw [h0] at hi; cases hi), fun j hj => hal f rfl j (by rw [← hn]; exact hj)⟩
      · have := hal f rfl i (by rw [altsOf]; exact List.mem_cons_self ..)
        obtain ⟨o, ho, _⟩ := (ready_iff hs).1 hi
        rw [ho] at this
        exact any_persist hm (fwd_of hf) ho f listed st hs hcl hn.2 hi hw (opG_ex this)
theorem tree_alts2 (hm : marksOk l.toArray m = true) (hf : fwdOk l.toArray = true) {K : St → Prop} : ∀ (t : Tr) (listed : Array Bool) (fuel : Nat) (st : St), listed.size = l.toArray.size → Closed l.toArray listed → WfN 0 st → (∀ i ∈ altsOf t, i ∈ Region.ready .any l.toArray listed) →
    okT2 S.rcv l.toArray m listed t = true → treeP S l.toArray l t st K → depthT t ≤ fuel + 1 → ∀ i ∈ altsOf t, match l.toArray[i]? with
        | some o => opG S l.toArray st o fun st' => anyP S l.toArray fuel (listed.setIfInBounds i true) st' K
        | none => anyP S l.toArray fuel (listed.setIfInBounds i true) st K
  | .leaf, _, _, _, _, _, _, _, _, _, _, i, hi => by cases hi
  | .nil, _, _, _, _, _, _, _, _, _, _, i, hi => by cases hi
  | .br k t r, listed, fuel, st, hs, hcl, hw, hsub, hok, h, hd, i, hi => by
    have hkr : k ∈ Region.ready .any l.toArray listed := hsub k (by rw [altsOf]; exact List.mem_cons_self ..)
    simp only [okT2, Bool.and_eq_true] at hok
    obtain ⟨⟨⟨hk, hn⟩, ht⟩, hr⟩ := hok
    simp only [depthT] at hd
    rcases List.mem_cons.1 hi with rfl | hi
    · have hlt : i < l.toArray.size := by simp [Nat.blt] at hk ⊢; omega
      have hget : l.toArray[i]? = some (l.getD i default) := by
        have hlt2 : i < l.length := by simpa using hlt
        rw [List.getElem?_toArray, List.getD_eq_getElem?_getD, List.getElem?_eq_getElem hlt2]; rfl
      rw [hget]
      obtain ⟨s, h1, h2⟩ := opG_ex h.1
      refine ex_opG h1 ?_
      have hs2 : (listed.setIfInBounds i true).size = l.toArray.size := by simpa using hs
      have hcl2 := closed_set hs (fwd_of hf) hcl hkr
      exact tree_node2 hm hf hs2 hcl2 (ex_wf h1 hw) hn h2 (by omega) fun f hf2 j hj => tree_alts2 hm hf t _ f s hs2 hcl2 (ex_wf h1 hw) (okN2_sub hn) ht h2 (by omega) j hj
    · exact tree_alts2 hm hf r listed fuel st hs hcl hw (fun j hj => hsub j (by rw [altsOf]; exact List.mem_cons_of_mem _ hj)) hr h.2 (by omega) i hi
theorem anyP_tree2 {t : Tr} {st : St} {K : St → Prop} (hok : (fwdOk l.toArray && marksOk l.toArray m && okN2 S.rcv l.toArray m (Array.replicate l.toArray.size false) t && okT2 S.rcv l.toArray m (Array.replicate l.toArray.size false) t && Nat.ble (depthT t) l.toArray.size) = true) (hw : WfN 0 st) (h : treeP S l.toArray l t st K) :
    anyP S l.toArray l.toArray.size (Array.replicate l.toArray.size false) st K := by
  simp only [Bool.and_eq_true] at hok
  obtain ⟨⟨⟨⟨hf, hm⟩, h1⟩, h2⟩, h3⟩ := hok
  have h3 := Nat.le_of_ble_eq_true h3
  have hs : (Array.replicate l.toArray.size false).size = l.toArray.size := by simp
  have hcl : Closed l.toArray (Array.replicate l.toArray.size false) := fun i o ho hi => by
    exfalso
    have hlt : i < l.toArray.size := by
      rcases Nat.lt_or_ge i l.toArray.size with h | h
      · exact h
      · rw [Array.getElem?_eq_none h] at ho; cases ho
    unfold isIn at hi
    simp only [Array.getD_eq_getD_getElem?, Array.getElem?_replicate, if_pos hlt] at hi
    cases hi
  exact tree_node2 hm hf hs hcl hw h1 h h3 fun f hf2 i hi => tree_alts2 hm hf t _ f st hs hcl hw (okN2_sub h1) h2 h (by omega) i hi
theorem cw_stepR {id : Nat} {y : Code} {Q : AExit → St → Prop} {st : St} (t : Tr)
    (hok : (fwdOk l.toArray && marksOk l.toArray (fun i => (Region.before l.toArray).getD i 0) && okN2 S.rcv l.toArray (fun i => (Region.before l.toArray).getD i 0) (Array.replicate l.toArray.size false) t && okT2 S.rcv l.toArray (fun i => (Region.before l.toArray).getD i 0) (Array.replicate l.toArray.size false) t && Nat.ble (depthT t) l.toArray.size) = true)
    (hw : WfN 0 st) (h : ∀ K : St → Prop, (∀ s s', Le s s' → cw S y Q s' → K s) → treeP S l.toArray l t st K) : cw S (.seq (.region id l.toArray true) y) Q st := by
  refine cw_mono (S := S) (.region id l.toArray true) (Q := thenQ (fun st => Wk (cw S y Q) st ∨ cw S y Q st) Q) (fun _ _ h => h) ?_
  simp only [cw, if_pos]
  exact anyP_tree2 hok hw (h _ fun s s' hl hs => .inl ⟨s', hl, hs⟩)
end
theorem tree_br {S : Env} {ops : Array Oper} {L : List Oper} {i : Nat} {t r : Tr} {st : St} {K : St → Prop} (h : ∀ K' : St → Prop, (∀ s, treeP S ops L t s K → K' s) → opsP S ops [L.getD i default] st K') (hr : treeP S ops L r st K) : treeP S ops L (.br i t r) st K :=
  ⟨h _ (fun _ h => h), hr⟩
theorem tree_leaf {S : Env} {ops : Array Oper} {L : List Oper} {st : St} {K : St → Prop} (h : K st) : treeP S ops L .leaf st K := h
theorem tree_nil {S : Env} {ops : Array Oper} {L : List Oper} {st : St} {K : St → Prop} : treeP S ops L .nil st K := trivial
end Go.SL

/- SL, part W: an argument that is an empty slice, nil or not. -/
namespace Go.SL
open Go

theorem den_lst0 {ok : Nat → Prop} {w : World} {sz : Nat} {g : Nat → Nat → PV} {vs : Array Value} (h : ∀ j, DenB noRho ok w ([BV.c (.p (.lst sz 0 g))].getD j .any) (vs.getD j undef)) :
    ∃ a c, ∀ j, DenB noRho ok w ([BV.c (.p (.val (.slice a 0 c)))].getD j .any) (vs.getD j undef) := by
  obtain ⟨a, c, e, _⟩ := h 0
  refine ⟨a, c, fun j => ?_⟩
  cases j with
  | zero => exact e
  | succ j => exact h (j + 1)
theorem pure_lst0 {S : Env} {f : FuncId} {sz : Nat} {g : Nat → Nat → PV} {R : SV → Prop} (h : ∀ a c, Pure S f [.c (.p (.val (.slice a 0 c)))] R) : Pure S f [.c (.p (.lst sz 0 g))] R :=
  ⟨(h none 0).1, fun ok w vs h1 h2 h3 h4 => by
    obtain ⟨a, c, hd⟩ := den_lst0 h4
    exact (h a c).2 ok w vs h1 h2 h3 hd⟩
theorem own_lst0 {S : Env} {f : FuncId} {sz : Nat} {g : Nat → Nat → PV} {e sz2 n : Nat} {g2 : Nat → Nat → PV} (h : ∀ a c, PureOwn S f [.c (.p (.val (.slice a 0 c)))] e sz2 n g2) : PureOwn S f [.c (.p (.lst sz 0 g))] e sz2 n g2 :=
  ⟨(h none 0).1, fun ok w vs h1 h2 h3 h4 => by
    obtain ⟨a, c, hd⟩ := den_lst0 h4
    exact (h a c).2 ok w vs h1 h2 h3 hd⟩
theorem own_nil {S : Env} {f : FuncId} {args : List BV} {e sz : Nat} {g : Nat → Nat → PV} (h0 : 0 < sz) (h : Pure S f args fun r => r = .b (.c (.p (.val (.slice none 0 0))))) : PureOwn S f args e sz 0 g :=
  ⟨h.1, fun ok w vs h1 h2 h3 h4 => (h.2 ok w vs h1 h2 h3 h4).mono fun ex w' ⟨v, r, he, hR, _, hb, hd⟩ => by
    subst hR
    refine ⟨v, [], he, hb, h0, ⟨by simp, .inl ⟨hd, rfl⟩⟩, by simp, fun i hi => absurd hi (Nat.not_lt_zero i)⟩⟩
theorem le_lst0 {a : Option Addr} {c sz : Nat} {g : Nat → Nat → PV} : PV.le (.val (.slice a 0 c)) (.lst sz 0 g) := fun _ _ u h => by
  have : u = .slice a 0 c := h
  subst this
  exact ⟨a, c, rfl, Nat.zero_le _, fun h => absurd h (Nat.lt_irrefl 0)⟩
end Go.SL
