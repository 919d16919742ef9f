/- Part of the proof: SlN, SlO, SlQ, SlR. -/
import Derived.Test.YtlblgkelhibdoaaGreatDoorM2
set_option linter.unusedSimpArgs false
namespace Go.SL
open Go
structure Sl {α : Type} (x : α) : Type where
def Sl.of {α : Type} (x : α) : Sl x := ⟨⟩
def rk (x : Option (Prop × SV)) (c : Prop) {K : SV → Prop} (_ : Sl K) : Prop :=
 match x with
 | some (vc, r) => c ∧ vc ∧ K r
 | none => False
theorem rk_some {vc c : Prop} {r : SV} {K : SV → Prop} : rk (some (vc, r)) c (Sl.of K) = (c ∧ vc ∧ K r) := rfl
def rg (g : Option Bool) (nx : Nat) (x : Option (Prop × SV)) {K : SV → Prop} (_ : Sl K) {p : Prop} (_ : Sl p) : Prop :=
 match g, x with
 | some g, some (vc, .b r) => r.lt nx ∧ (g = true → vc) ∧ K (.grd g r)
 | some g, some (vc, .grd q r) => r.lt nx ∧ (g = true → vc ∧ q = true) ∧ K (.grd g r)
 | _, _ => p
theorem rg_grd {vc : Prop} {r : BV} {K : SV → Prop} {g u : Bool} {nx : Nat} {p : Prop} {q : Sl p} : rg (some g) nx (some (vc, .grd u r)) (Sl.of K) q = (r.lt nx ∧ (g = true → vc ∧ u = true) ∧ K (.grd g r)) := rfl
theorem rg_some {vc : Prop} {r : BV} {K : SV → Prop} {g : Bool} {nx : Nat} {p : Prop} {q : Sl p} : rg (some g) nx (some (vc, .b r)) (Sl.of K) q = (r.lt nx ∧ (g = true → vc) ∧ K (.grd g r)) := rfl
def rc (x : Option (Prop × SV)) (c : Prop) : Option (Prop × SV) :=
 match x with
 | some (vc, r) => some (c ∧ vc, r)
 | none => none
theorem rc_some {vc c : Prop} {r : SV} : rc (some (vc, r)) c = some (c ∧ vc, r) := rfl
def CallS (S : Env) (st : St) (f : FuncId) (args : List BV) {K : SV → St → Prop} (_ : Sl K) : Prop := CallP S st f args K
def rgm (g : Option Bool) (c : Prop) (S : Env) (st : St) (f : FuncId) (args : List BV) (d : Option Nat) {K : St → Prop} (_ : Sl K) : Prop :=
 match g with
 | some g => ((g = true → c ∧ CallP S st f args fun r st' => K (st'.set d r)) ∧ (g = false → K (st.set d .any))) ∨
   ∃ x : BV, x.lt st.nx ∧ (g = true → c ∧ CallP S st f args fun r st' => st'.set d r = st.set d (.b x)) ∧ K (st.set d (.grd g x))
 | none => False
section
variable {S : Env} {ops : Array Oper} {rest : List Oper} {st : St} {K : St → Prop} {d : Option Nat} {ty : TypeId} {pos : String} {af : Array Edge} {gd : Nat × Bool}
theorem o_nil : opsP S ops [] st K = K st := rfl
theorem o_move {x : Operand} : opsP S ops (⟨d, .move x, ty, pos, af, none⟩ :: rest) st K = opsP S ops rest (st.set d (st.ev S x)) K := by
 simp [opsP, opG, opP, ro]
theorem o_assign {x : Operand} : opsP S ops (⟨d, .assign x, ty, pos, af, none⟩ :: rest) st K = opsP S ops rest (st.set d (st.ev S x)) K := by
 simp [opsP, opG, opP, ro]
theorem o_pick {c x y : Operand} : opsP S ops (⟨d, .pick c x y, ty, pos, af, none⟩ :: rest) st K = rk (roPick (st.ev S c) (st.ev S x) (st.ev S y)) True (Sl.of fun r => opsP S ops rest (st.set d r) K) := by
 simp only [opsP, opG, opP, ro, rk]
 split
 ·rename_i h; simp only [h]; simp
 ·rename_i h; simp only [h]; simp [opM]
theorem core_none {o : Oper} {K' : St → Prop} (hr : ∀ x, o.op ≠ .move x) (ha : ∀ x, o.op ≠ .assign x) (hp : ∀ c x y, o.op ≠ .pick c x y) (hM : ∀ K, opM S st (st.ev S) o.op K = False) :
  opP S st o K' = rk (roCore S st.bx (st.ev S) o.op) (condAll (o.op.operands.toList.map (st.ev S))) (Sl.of fun r => K' (st.set o.dst r)) := by
 unfold opP ro
 split
 ·rename_i h
  split at h
  ·rename_i x hx; exact absurd hx (hr x)
  ·rename_i x hx; exact absurd hx (ha x)
  ·rename_i c x y hx; exact absurd hx (hp c x y)
  ·split at h
   ·rename_i h2
    simp only [Option.some.injEq, Prod.mk.injEq] at h
    obtain ⟨rfl, rfl⟩ := h
    rw [h2]
    simp only [rk, and_assoc]
   ·simp at h
 ·rename_i h
  split at h
  ·simp at h
  ·simp at h
  ·rename_i c x y hx; exact absurd hx (hp c x y)
  ·split at h
   ·simp at h
   ·rename_i h2
    rw [h2, hM]
    simp only [rk, and_false]
def roFieldAddr (S : Env) (t : TypeId) (f : Nat) (x : SV) : Option (Prop × SV) :=
 match S.fld t f with
 | some (off, sz, _) => (moveBy off x).map fun y => (sz ≠ 0, y)
 | none => none
def roExtract (i : Nat) : SV → Option (Prop × SV)
 | .tup vs => some (i < vs.length, .b (vs.getD i .any))
 | _ => none
def roNil : SV → Option (Prop × SV)
 | .b (.c (.ptr id off)) => some (True, .b (.c (.ptr id off)))
 | .b (.c (.pel id sz i off)) => some (True, .b (.c (.pel id sz i off)))
 | .b (.c (.ipt sz g off)) => some (True, .b (.c (.ipt sz g off)))
 | _ => none
def roMin : SV → SV → Option (Prop × SV)
 | .b (.c (.p (.val (.int k a)))), .b (.c (.p (.val (.int k' b)))) => some (k = k', .v (.int k (if b < a then b else a)))
 | _, _ => none
def roMax : SV → SV → Option (Prop × SV)
 | .b (.c (.p (.val (.int k a)))), .b (.c (.p (.val (.int k' b)))) => some (k = k', .v (.int k (if b > a then b else a)))
 | _, _ => none
theorem o_load {t : TypeId} {x : Operand} : opsP S ops (⟨d, .load t x, ty, pos, af, none⟩ :: rest) st K = rk (roLoad S t st.bx (st.ev S x).strip) (st.ev S x).cond (Sl.of fun r => opsP S ops rest (st.set d r) K) := by
 simp only [opsP, opG]
 rw [core_none (by simp) (by simp) (by simp) (fun _ => rfl)]
 simp [roCore, Op.operands, condAll]
theorem o_fieldAddr {t : TypeId} {x : Operand} {f : Nat} : opsP S ops (⟨d, .fieldAddr t x f, ty, pos, af, none⟩ :: rest) st K =
  rk (roFieldAddr S t f (st.ev S x).strip) (st.ev S x).cond (Sl.of fun r => opsP S ops rest (st.set d r) K) := by
 simp only [opsP, opG]
 rw [core_none (by simp) (by simp) (by simp) (fun _ => rfl), show roCore S st.bx (st.ev S) (.fieldAddr t x f) = roFieldAddr S t f (st.ev S x).strip from rfl]
 simp [Op.operands, condAll]
theorem o_field {t : TypeId} {x : Operand} {f : Nat} : opsP S ops (⟨d, .field t x f, ty, pos, af, none⟩ :: rest) st K = rk (roField S t f (st.ev S x).strip) (st.ev S x).cond (Sl.of fun r => opsP S ops rest (st.set d r) K) := by
 simp only [opsP, opG]
 rw [core_none (by simp) (by simp) (by simp) (fun _ => rfl)]
 simp [roCore, Op.operands, condAll]
theorem o_indexAddr {t : TypeId} {x i : Operand} : opsP S ops (⟨d, .indexAddr t x i, ty, pos, af, none⟩ :: rest) st K =
  rk (roIndexAddr S t (st.ev S x).strip (st.ev S i).strip) ((st.ev S x).cond ∧ (st.ev S i).cond) (Sl.of fun r => opsP S ops rest (st.set d r) K) := by
 simp only [opsP, opG]
 rw [core_none (by simp) (by simp) (by simp) (fun _ => rfl)]
 simp [roCore, Op.operands, condAll]
theorem o_index {t : TypeId} {x i : Operand} : opsP S ops (⟨d, .index t x i, ty, pos, af, none⟩ :: rest) st K =
  rk (roIndex S t (st.ev S x).strip (st.ev S i).strip) ((st.ev S x).cond ∧ (st.ev S i).cond) (Sl.of fun r => opsP S ops rest (st.set d r) K) := by
 simp only [opsP, opG]
 rw [core_none (by simp) (by simp) (by simp) (fun _ => rfl)]
 simp [roCore, Op.operands, condAll]
theorem o_extract {x : Operand} {i : Nat} : opsP S ops (⟨d, .extract x i, ty, pos, af, none⟩ :: rest) st K =
  rk (roExtract i (st.ev S x).strip) (st.ev S x).cond (Sl.of fun r => opsP S ops rest (st.set d r) K) := by
 simp only [opsP, opG]
 rw [core_none (by simp) (by simp) (by simp) (fun _ => rfl), show roCore S st.bx (st.ev S) (.extract x i) = roExtract i (st.ev S x).strip from rfl]
 simp [Op.operands, condAll]
theorem o_bin {op : BinOp} {t yt : TypeId} {x y : Operand} : opsP S ops (⟨d, .binOp op t x y yt, ty, pos, af, none⟩ :: rest) st K =
  rk (roBin S op t (st.ev S x).strip (st.ev S y).strip) ((st.ev S x).cond ∧ (st.ev S y).cond) (Sl.of fun r => opsP S ops rest (st.set d r) K) := by
 simp only [opsP, opG]
 rw [core_none (by simp) (by simp) (by simp) (fun _ => rfl)]
 simp [roCore, Op.operands, condAll]
theorem o_un {op : UnOp} {t : TypeId} {x : Operand} : opsP S ops (⟨d, .unOp op t x, ty, pos, af, none⟩ :: rest) st K =
  rk (roUn op (st.ev S x).strip) (st.ev S x).cond (Sl.of fun r => opsP S ops rest (st.set d r) K) := by
 simp only [opsP, opG]
 rw [core_none (by simp) (by simp) (by simp) (fun _ => rfl)]
 simp [roCore, Op.operands, condAll]
theorem o_conv {s t : TypeId} {x : Operand} : opsP S ops (⟨d, .convert s t x, ty, pos, af, none⟩ :: rest) st K =
  rk (roConv S s t (st.ev S x).strip) (st.ev S x).cond (Sl.of fun r => opsP S ops rest (st.set d r) K) := by
 simp only [opsP, opG]
 rw [core_none (by simp) (by simp) (by simp) (fun _ => rfl)]
 simp [roCore, Op.operands, condAll]
def condO (S : Env) (st : St) : Option Operand → Prop
 | none => True
 | some x => (st.ev S x).cond
theorem o_slice {t : TypeId} {x : Operand} {lo hi : Option Operand} : opsP S ops (⟨d, .slice t x lo hi none, ty, pos, af, none⟩ :: rest) st K =
  rk (roSlice S t (st.ev S x).strip (lo.map fun x => (st.ev S x).strip) (hi.map fun x => (st.ev S x).strip)) ((st.ev S x).cond ∧ condO S st lo ∧ condO S st hi) (Sl.of fun r => opsP S ops rest (st.set d r) K) := by
 simp only [opsP, opG]
 rw [core_none (by simp) (by simp) (by simp) (fun _ => rfl)]
 cases lo <;> cases hi <;> simp [roCore, Op.operands, condAll, condO]
theorem o_nilCheck {x : Operand} : opsP S ops (⟨d, .nilCheck x, ty, pos, af, none⟩ :: rest) st K =
  rk (roNil (st.ev S x).strip) (st.ev S x).cond (Sl.of fun r => opsP S ops rest (st.set d r) K) := by
 simp only [opsP, opG]
 rw [core_none (by simp) (by simp) (by simp) (fun _ => rfl), show roCore S st.bx (st.ev S) (.nilCheck x) = roNil (st.ev S x).strip from rfl]
 simp [Op.operands, condAll]
theorem o_len {x : Operand} {t : TypeId} : opsP S ops (⟨d, .call ⟨.builtin .len, #[x], #[t]⟩, ty, pos, af, none⟩ :: rest) st K =
  rk (roLen S t (st.ev S x).strip) (st.ev S x).cond (Sl.of fun r => opsP S ops rest (st.set d r) K) := by
 simp only [opsP, opG]
 rw [core_none (by simp) (by simp) (by simp) (fun _ => by simp [opM])]
 simp [roCore, Op.operands, Call.operands, condAll]
theorem o_min {x y : Operand} {ts : Array TypeId} : opsP S ops (⟨d, .call ⟨.builtin .min, #[x, y], ts⟩, ty, pos, af, none⟩ :: rest) st K =
  rk (roMin (st.ev S x).strip (st.ev S y).strip) ((st.ev S x).cond ∧ (st.ev S y).cond) (Sl.of fun r => opsP S ops rest (st.set d r) K) := by
 simp only [opsP, opG]
 rw [core_none (by simp) (by simp) (by simp) (fun _ => by simp [opM]), show roCore S st.bx (st.ev S) (.call ⟨.builtin .min, #[x, y], ts⟩) = roMin (st.ev S x).strip (st.ev S y).strip from rfl]
 simp [Op.operands, Call.operands, condAll]
theorem o_max {x y : Operand} {ts : Array TypeId} : opsP S ops (⟨d, .call ⟨.builtin .max, #[x, y], ts⟩, ty, pos, af, none⟩ :: rest) st K =
  rk (roMax (st.ev S x).strip (st.ev S y).strip) ((st.ev S x).cond ∧ (st.ev S y).cond) (Sl.of fun r => opsP S ops rest (st.set d r) K) := by
 simp only [opsP, opG]
 rw [core_none (by simp) (by simp) (by simp) (fun _ => by simp [opM]), show roCore S st.bx (st.ev S) (.call ⟨.builtin .max, #[x, y], ts⟩) = roMax (st.ev S x).strip (st.ev S y).strip from rfl]
 simp [Op.operands, Call.operands, condAll]
def mk (x : Option (Prop × SV × St)) {K : SV → St → Prop} (_ : Sl K) : Prop :=
 match x with
 | some (vc, r, s) => vc ∧ K r s
 | none => False
theorem mk_some {vc : Prop} {r : SV} {s : St} {K : SV → St → Prop} : mk (some (vc, r, s)) (Sl.of K) = (vc ∧ K r s) := rfl
def mAlloc (S : Env) (st : St) (t : TypeId) : Option (Prop × SV × St) :=
 match S.zero t with
 | some z => some (True, .b (.c (.ptr st.nx 0)), st.newBox (.fix (z.map CV.ofV)))
 | none => none
def mBox (st : St) (x : SV) : Option (Prop × SV × St) :=
 match x with
 | .b v => some (v.one, .b (.c (.ptr st.nx 0)), st.newBox (.fix v.cells))
 | _ => none
def mBuild (S : Env) (st : St) (t : TypeId) (ps : List (Nat × Operand)) : Option (Prop × SV × St) :=
 match S.bld t, S.zero t with
 | some pl, some z => match fillL (placeOf pl) (st.ev S) ps (z.map CV.ofV) with
  | some (vc, cs) => some (vc, .b (.agg cs), st)
  | none => none
 | _, _ => none
def mBuildSlice (S : Env) (st : St) (t : TypeId) (len : Nat) (ps : List (Nat × Operand)) : Option (Prop × SV × St) :=
 match S.el t with
 | some (none, e, s, _) => match S.zero e with
  | some z => match fillL (fun i => some (i * s, s)) (st.ev S) ps ((List.range (len * s)).map fun i => CV.ofV (z.getD (i % z.length) undef)) with
   | some (vc, cs) => some (vc ∧ 0 < s ∧ z.length = s ∧ len * s ≤ 16777216 ∧ 0 ≤ len, .b (.c (.own st.nx len)), st.newBox (.arr e s len fun i j => (cs.getD (i * s + j) .any).toP))
   | none => none
  | none => none
 | _ => none
def mStore (S : Env) (st : St) (t : TypeId) (p x : SV) : Option (Prop × SV × St) :=
 match p, x, S.ti t with
 | .b (.c (.ptr id off)), .b v, some (sz, _) => match st.bx id with
  | some (.fix cs) => some (v.cells.length = sz ∧ off + sz ≤ cs.length ∧ v.one, .any, st.setBox id (.fix (putL cs off v.cells)))
  | _ => none
 | .b (.c (.pel id s i off)), .b v, some (sz, _) => match st.bx id with
  | some (.arr e s' n f) => some (s = s' ∧ i < n ∧ off + sz ≤ s ∧ v.cells.length = sz ∧ v.one ∧ v.lt 0, .any,
    st.setBox id (.arr e s' n fun i' j => if i' = i then (if off ≤ j ∧ j < off + sz then (v.cells.getD (j - off) .any).toP else f i j) else f i' j))
  | _ => none
 | _, _, _ => none
def Env.byt (S : Env) (e : TypeId) : Option Nat := (S.P.info? e).map (·.bytes)
def mMake (S : Env) (st : St) (t : TypeId) (l c : SV) : Option (Prop × SV × St) :=
 match l, c, S.el t with
 | .b (.c (.p (.val (.int _ l)))), .b (.c (.p (.val (.int _ c)))), some (none, e, s, _) => match S.zero e, S.byt e with
  | some z, some by' => some (0 ≤ l ∧ l ≤ c ∧ (by' : Int) * c ≤ 281474976710656 ∧ c ≤ 9223372036854775807 ∧ 0 < s ∧ z.length = s,
    .b (.c (.own st.nx l.toNat)), st.newBox (.arr e s l.toNat fun _ j => .val (z.getD j undef)))
  | _, _ => none
 | _, _, _ => none
def mAppend (S : Env) (st : St) (t t' : TypeId) (x y : SV) : Option (Prop × SV × St) :=
 match S.el t, srcOf st.bx y with
 | some (none, e, s, _), some (vc, sz, m, g) => match S.byt e, S.zero e, x with
  | some by', some z, .b (.c (.p (.val (.slice none 0 0)))) =>
   some (vc ∧ t = t' ∧ (sz = s ∨ m = 0) ∧ 0 < s ∧ z.length = s ∧ m * by' ≤ 140737488355328 ∧ m ≤ maxLen, .b (.c (.own st.nx m)), st.newBox (.arr e s m g))
  | some by', some z, .b (.c (.own id n)) => match st.bx id with
   | some (.arr e' s' n' f) =>
    some (vc ∧ t = t' ∧ e = e' ∧ s = s' ∧ n ≤ n' ∧ (sz = s ∨ m = 0) ∧ 0 < s ∧ z.length = s ∧ (n + m) * by' ≤ 140737488355328 ∧ n + m ≤ maxLen,
     .b (.c (.own st.nx (n + m))), (st.delBox id).newBox (.arr e s (n + m) (appF n f g)))
   | _ => none
  | _, _, _ => none
 | _, _ => none
theorem mk_alloc {t : TypeId} {K : SV → St → Prop} : opM S st (st.ev S) (.alloc t) K = mk (mAlloc S st t) (Sl.of K) := by
 simp only [opM, mAlloc]; split <;> simp_all [mk]
theorem mk_box {t : TypeId} {x : Operand} {K : SV → St → Prop} : opM S st (st.ev S) (.box t x) K = mk (mBox st (st.ev S x).strip) (Sl.of K) := by
 simp only [opM, mBox]; split <;> simp_all [mk]
theorem mk_build {t : TypeId} {ps : Array (Nat × Operand)} {K : SV → St → Prop} : opM S st (st.ev S) (.build t ps) K = mk (mBuild S st t ps.toList) (Sl.of K) := by
 simp only [opM, mBuild]
 split
 ·split <;> simp_all [mk]
 ·simp_all [mk]
theorem mk_buildSlice {t : TypeId} {n : Nat} {ps : Array (Nat × Operand)} {K : SV → St → Prop} : opM S st (st.ev S) (.buildSlice t n ps) K = mk (mBuildSlice S st t n ps.toList) (Sl.of K) := by
 simp only [opM, mBuildSlice]
 split
 ·split
  ·split <;> simp_all [mk]
  ·simp_all [mk]
 ·simp_all [mk]
theorem mk_store {t : TypeId} {p x : Operand} {K : SV → St → Prop} : opM S st (st.ev S) (.store t p x) K = mk (mStore S st t (st.ev S p).strip (st.ev S x).strip) (Sl.of K) := by
 simp only [opM, mStore]
 split
 ·split <;> simp_all [mk]
 ·split <;> simp_all [mk]
 ·simp_all [mk]
theorem mk_make {t : TypeId} {l c : Operand} {K : SV → St → Prop} : opM S st (st.ev S) (.makeSlice t l c) K = mk (mMake S st t (st.ev S l).strip (st.ev S c).strip) (Sl.of K) := by
 simp only [opM, mMake, Env.byt]
 split
 ·rename_i e s _ _ _ _
  cases hz : S.zero e with
  | none => simp_all [mk]
  | some z =>
   cases hi : S.P.info? e with
   | none => simp_all [mk]
   | some i => simp_all [mk]
 ·simp_all [mk]
theorem mk_append {t t' : TypeId} {x y : Operand} {K : SV → St → Prop} : opM S st (st.ev S) (.call ⟨.builtin .append, #[x, y], #[t, t']⟩) K = mk (mAppend S st t t' (st.ev S x).strip (st.ev S y).strip) (Sl.of K) := by
 simp only [opM, mAppend, Env.byt]
 split
 ·rename_i e s ag vc sz m g _ _
  cases hi : S.P.info? e with
  | none => simp_all [mk]
  | some i =>
   cases hz : S.zero e with
   | none => simp_all [mk]
   | some z =>
    simp only [*, Option.map_some]
    split
    ·simp_all [mk]
    ·split <;> simp_all [mk]
    ·simp_all [mk]
 ·simp_all [mk]
theorem m_op {o : Oper} {K' : St → Prop} (hro : ro S st.bx (st.ev S) o.op = none) : opP S st o K' = (condAll (o.op.operands.toList.map (st.ev S)) ∧ opM S st (st.ev S) o.op fun r st' => K' (st'.set o.dst r)) := by
 unfold opP; rw [hro]
theorem o_alloc {t : TypeId} : opsP S ops (⟨d, .alloc t, ty, pos, af, none⟩ :: rest) st K =
  mk (mAlloc S st t) (Sl.of fun r st' => opsP S ops rest (st'.set d r) K) := by
 simp only [opsP, opG]; rw [m_op rfl, mk_alloc]; simp [Op.operands, condAll]
theorem o_box {t : TypeId} {x : Operand} : opsP S ops (⟨d, .box t x, ty, pos, af, none⟩ :: rest) st K =
  ((st.ev S x).cond ∧ mk (mBox st (st.ev S x).strip) (Sl.of fun r st' => opsP S ops rest (st'.set d r) K)) := by
 simp only [opsP, opG]; rw [m_op rfl, mk_box]; simp [Op.operands, condAll]
theorem o_build {t : TypeId} {ps : Array (Nat × Operand)} : opsP S ops (⟨d, .build t ps, ty, pos, af, none⟩ :: rest) st K =
  (condAll (ps.toList.map fun p => st.ev S p.2) ∧ mk (mBuild S st t ps.toList) (Sl.of fun r st' => opsP S ops rest (st'.set d r) K)) := by
 simp only [opsP, opG]; rw [m_op rfl, mk_build]; simp [Op.operands]; exact fun _ => Iff.rfl
theorem o_buildSlice {t : TypeId} {n : Nat} {ps : Array (Nat × Operand)} : opsP S ops (⟨d, .buildSlice t n ps, ty, pos, af, none⟩ :: rest) st K =
  (condAll (ps.toList.map fun p => st.ev S p.2) ∧ mk (mBuildSlice S st t n ps.toList) (Sl.of fun r st' => opsP S ops rest (st'.set d r) K)) := by
 simp only [opsP, opG]; rw [m_op rfl, mk_buildSlice]; simp [Op.operands]; exact fun _ => Iff.rfl
theorem o_store {t : TypeId} {x y : Operand} : opsP S ops (⟨d, .store t x y, ty, pos, af, none⟩ :: rest) st K =
  (((st.ev S x).cond ∧ (st.ev S y).cond) ∧ mk (mStore S st t (st.ev S x).strip (st.ev S y).strip) (Sl.of fun r st' => opsP S ops rest (st'.set d r) K)) := by
 simp only [opsP, opG]; rw [m_op rfl, mk_store]; simp [Op.operands, condAll]
theorem o_make {t : TypeId} {x y : Operand} : opsP S ops (⟨d, .makeSlice t x y, ty, pos, af, none⟩ :: rest) st K =
  (((st.ev S x).cond ∧ (st.ev S y).cond) ∧ mk (mMake S st t (st.ev S x).strip (st.ev S y).strip) (Sl.of fun r st' => opsP S ops rest (st'.set d r) K)) := by
 simp only [opsP, opG]; rw [m_op rfl, mk_make]; simp [Op.operands, condAll]
theorem o_append {x y : Operand} {t t' : TypeId} : opsP S ops (⟨d, .call ⟨.builtin .append, #[x, y], #[t, t']⟩, ty, pos, af, none⟩ :: rest) st K =
  (((st.ev S x).cond ∧ (st.ev S y).cond) ∧ mk (mAppend S st t t' (st.ev S x).strip (st.ev S y).strip) (Sl.of fun r st' => opsP S ops rest (st'.set d r) K)) := by
 simp only [opsP, opG]; rw [m_op rfl, mk_append]; simp [Op.operands, Call.operands, condAll]
theorem o_call {f : FuncId} {args : Array Operand} {ts : Array TypeId} : opsP S ops (⟨d, .call ⟨.value (.func f), args, ts⟩, ty, pos, af, none⟩ :: rest) st K =
  (condAll (args.toList.map (st.ev S)) ∧ CallS S st f (args.toList.map fun x => stripB (st.ev S x)) (Sl.of fun r st' => opsP S ops rest (st'.set d r) K)) := by
 simp only [opsP, opG]
 rw [m_op (by simp [ro, roCore])]
 simp [Op.operands, Call.operands, condAll, opM, St.ev, SV.cond, CallS]
end
section
variable {S : Env} {ops : Array Oper} {rest : List Oper} {st : St} {K : St → Prop} {d : Option Nat} {ty : TypeId} {pos : String} {af : Array Edge} {j : Nat} {want : Bool} {bx : Nat → Option Bx} {ev : Operand → SV}
theorem core_rc {op : Op} (hr : ∀ x, op ≠ .move x) (ha : ∀ x, op ≠ .assign x) (hp : ∀ c x y, op ≠ .pick c x y) : ro S bx ev op = rc (roCore S bx ev op) (condAll (op.operands.toList.map ev)) := by
 unfold ro rc
 split
 ·rename_i x; exact absurd rfl (hr x)
 ·rename_i x; exact absurd rfl (ha x)
 ·rename_i c x y; exact absurd rfl (hp c x y)
 ·rfl
theorem ro_move {x : Operand} : ro S bx ev (.move x) = some (True, ev x) := rfl
theorem ro_assign {x : Operand} : ro S bx ev (.assign x) = some (True, ev x) := rfl
theorem ro_pick {c x y : Operand} : ro S bx ev (.pick c x y) = roPick (ev c) (ev x) (ev y) := rfl
theorem ro_load {t : TypeId} {x : Operand} : ro S bx ev (.load t x) = rc (roLoad S t bx (ev x).strip) (ev x).cond := by
 rw [core_rc (by simp) (by simp) (by simp)]; simp [roCore, Op.operands, condAll]
theorem ro_fieldAddr {t : TypeId} {x : Operand} {f : Nat} : ro S bx ev (.fieldAddr t x f) = rc (roFieldAddr S t f (ev x).strip) (ev x).cond := by
 rw [core_rc (by simp) (by simp) (by simp)]; simp [roCore, roFieldAddr, Op.operands, condAll]; rfl
theorem ro_field {t : TypeId} {x : Operand} {f : Nat} : ro S bx ev (.field t x f) = rc (roField S t f (ev x).strip) (ev x).cond := by
 rw [core_rc (by simp) (by simp) (by simp)]; simp [roCore, Op.operands, condAll]
theorem ro_indexAddr {t : TypeId} {x i : Operand} : ro S bx ev (.indexAddr t x i) = rc (roIndexAddr S t (ev x).strip (ev i).strip) ((ev x).cond ∧ (ev i).cond) := by
 rw [core_rc (by simp) (by simp) (by simp)]; simp [roCore, Op.operands, condAll]
theorem ro_index {t : TypeId} {x i : Operand} : ro S bx ev (.index t x i) = rc (roIndex S t (ev x).strip (ev i).strip) ((ev x).cond ∧ (ev i).cond) := by
 rw [core_rc (by simp) (by simp) (by simp)]; simp [roCore, Op.operands, condAll]
theorem ro_extract {x : Operand} {i : Nat} : ro S bx ev (.extract x i) = rc (roExtract i (ev x).strip) (ev x).cond := by
 rw [core_rc (by simp) (by simp) (by simp)]; simp [roCore, roExtract, Op.operands, condAll]; rfl
theorem ro_bin {op : BinOp} {t yt : TypeId} {x y : Operand} : ro S bx ev (.binOp op t x y yt) = rc (roBin S op t (ev x).strip (ev y).strip) ((ev x).cond ∧ (ev y).cond) := by
 rw [core_rc (by simp) (by simp) (by simp)]; simp [roCore, Op.operands, condAll]
theorem ro_un {op : UnOp} {t : TypeId} {x : Operand} : ro S bx ev (.unOp op t x) = rc (roUn op (ev x).strip) (ev x).cond := by
 rw [core_rc (by simp) (by simp) (by simp)]; simp [roCore, Op.operands, condAll]
theorem ro_conv {s t : TypeId} {x : Operand} : ro S bx ev (.convert s t x) = rc (roConv S s t (ev x).strip) (ev x).cond := by
 rw [core_rc (by simp) (by simp) (by simp)]; simp [roCore, Op.operands, condAll]
theorem ro_nilCheck {x : Operand} : ro S bx ev (.nilCheck x) = rc (roNil (ev x).strip) (ev x).cond := by
 rw [core_rc (by simp) (by simp) (by simp)]; simp [roCore, roNil, Op.operands, condAll]; rfl
theorem ro_len {x : Operand} {t : TypeId} : ro S bx ev (.call ⟨.builtin .len, #[x], #[t]⟩) = rc (roLen S t (ev x).strip) (ev x).cond := by
 rw [core_rc (by simp) (by simp) (by simp)]; simp [roCore, Op.operands, Call.operands, condAll]
theorem g_ro {op : Op} : opsP S ops (⟨d, op, ty, pos, af, some (j, want)⟩ :: rest) st K =
  rg (guardV st ((ops[j]?).bind (·.dst)) want) st.nx (ro S st.bx (st.ev S) op) (Sl.of fun r => opsP S ops rest (st.set d r) K) (Sl.of (opsP S ops (⟨d, op, ty, pos, af, some (j, want)⟩ :: rest) st K)) := by
 unfold rg
 split
 ·rename_i g vc r h1 h2
  simp only [opsP, opG]
  rw [h1]
  simp only [h2]
 ·rename_i g vc u r h1 h2
  simp only [opsP, opG]
  rw [h1]
  simp only [h2]
 ·rfl
theorem g_call {f : FuncId} {args : Array Operand} {ts : Array TypeId} : opsP S ops (⟨d, .call ⟨.value (.func f), args, ts⟩, ty, pos, af, some (j, want)⟩ :: rest) st K =
  rgm (guardV st ((ops[j]?).bind (·.dst)) want) (condAll (args.toList.map (st.ev S))) S st f (args.toList.map fun x => stripB (st.ev S x)) d (Sl.of fun st' => opsP S ops rest st' K) := by
 simp only [opsP, opG]
 cases guardV st ((ops[j]?).bind (·.dst)) want with
 | none => rfl
 | some g =>
  simp only [rgm]
  rw [show ro S st.bx (st.ev S) (.call ⟨.value (.func f), args, ts⟩) = none by simp [ro, roCore]]
  have hm : ∀ K' : St → Prop, opP S st ⟨d, .call ⟨.value (.func f), args, ts⟩, ty, pos, af, some (j, want)⟩ K' =
    (condAll (args.toList.map (st.ev S)) ∧ CallP S st f (args.toList.map fun x => stripB (st.ev S x)) fun r st' => K' (st'.set d r)) := fun K' => by
   rw [m_op (by simp [ro, roCore])]
   simp [Op.operands, Call.operands, condAll, opM, St.ev, SV.cond]
  simp only [hm]
end
def rgB (g : Option Bool) (nx : Nat) (x : Option (Prop × SV × St)) (c : Prop) {K : SV → Prop} (_ : Sl K) {p : Prop} (_ : Sl p) : Prop :=
 match g, x with
 | some g, some (vc, .b r, _) => (r.lt nx ∧ (g = true → c ∧ vc) ∧ K (.grd g r)) ∨ p
 | _, _ => p
theorem rgB_some {vc c : Prop} {r : BV} {K : SV → Prop} {g : Bool} {nx : Nat} {p : Prop} {q : Sl p} {s : St} (h : r.lt nx ∧ (g = true → c ∧ vc) ∧ K (.grd g r)) : rgB (some g) nx (some (vc, .b r, s)) c (Sl.of K) q := .inl h
section
variable {S : Env} {ops : Array Oper} {rest : List Oper} {st : St} {K : St → Prop} {d : Option Nat} {ty : TypeId} {pos : String} {af : Array Edge} {j : Nat} {want : Bool}
theorem mBuild_st {t : TypeId} {ps : List (Nat × Operand)} {vc : Prop} {r : SV} {s : St} (h : mBuild S st t ps = some (vc, r, s)) : s = st := by
 unfold mBuild at h
 split at h
 ·split at h
  ·simp only [Option.some.injEq, Prod.mk.injEq] at h; exact h.2.2.symm
  ·cases h
 ·cases h
theorem g_build {t : TypeId} {ps : Array (Nat × Operand)} : opsP S ops (⟨d, .build t ps, ty, pos, af, some (j, want)⟩ :: rest) st K =
  rgB (guardV st ((ops[j]?).bind (·.dst)) want) st.nx (mBuild S st t ps.toList) (condAll (ps.toList.map fun p => st.ev S p.2)) (Sl.of fun r => opsP S ops rest (st.set d r) K) (Sl.of (opsP S ops (⟨d, .build t ps, ty, pos, af, some (j, want)⟩ :: rest) st K)) := by
 unfold rgB
 split
 ·rename_i g vc r s h1 h2
  have hs := mBuild_st h2
  subst hs
  refine propext ⟨fun h => .inr h, fun h => ?_⟩
  rcases h with h | h
  ·simp only [opsP, opG]
   rw [h1]
   have hro : ro S s.bx (s.ev S) (.build t ps) = none := rfl
   simp only [hro]
   refine .inr ⟨r, h.1, fun hg => ?_, h.2.2⟩
   rw [m_op hro]
   refine ⟨?_, ?_⟩
   ·have := (h.2.1 hg).1
    simp only [Op.operands, List.map_map]
    exact this
   ·show opM S s (s.ev S) (.build t ps) _
    rw [mk_build, h2]
    exact ⟨(h.2.1 hg).2, rfl⟩
  ·exact h
 ·rfl
end
section
variable {S : Env} {ops : Array Oper} {rest : List Oper} {st : St} {K : St → Prop} {d : Option Nat} {ty : TypeId} {pos : String} {af : Array Edge} {gd : Nat × Bool}
theorem ev_tmp {t : Nat} : st.ev S (.tmp t) = st.fr t := rfl
theorem ev_const {v : Value} : st.ev S (.const v) = .b (.c (.p (.val v))) := rfl
theorem ev_func {f : Nat} : st.ev S (.func f) = .v (.func (.func f) #[] #[]) := rfl
theorem ev_global {g : Nat} : st.ev S (.global g) = (match S.gl g with | some (n, f) => .b (.c (.ipt n f 0)) | none => .any) := rfl
theorem set_none {v : SV} : st.set none v = st := rfl
theorem fr_set {k s : Nat} {v : SV} : (st.set (some k) v).fr s = if s = k then v else st.fr s := rfl
theorem bx_set {k : Option Nat} {v : SV} : (st.set k v).bx = st.bx := by cases k <;> rfl
theorem nx_set {k : Option Nat} {v : SV} : (st.set k v).nx = st.nx := by cases k <;> rfl
theorem fr_newBox {x : Bx} : (st.newBox x).fr = st.fr := rfl
theorem bx_newBox {x : Bx} {i : Nat} : (st.newBox x).bx i = if i = st.nx then some x else st.bx i := rfl
theorem nx_newBox {x : Bx} : (st.newBox x).nx = st.nx + 1 := rfl
theorem fr_setBox {x : Bx} {i : Nat} : (st.setBox i x).fr = st.fr := rfl
theorem bx_setBox {x : Bx} {i j : Nat} : (st.setBox i x).bx j = if j = i then some x else st.bx j := rfl
theorem nx_setBox {x : Bx} {i : Nat} : (st.setBox i x).nx = st.nx := rfl
theorem fr_delBox {i : Nat} : (st.delBox i).fr = st.fr := rfl
theorem bx_delBox {i j : Nat} : (st.delBox i).bx j = if j = i then none else st.bx j := rfl
theorem nx_delBox {i : Nat} : (st.delBox i).nx = st.nx := rfl
theorem fr_st0 {args : List BV} : (st0 args).fr = frArgs args 0 := rfl
theorem bx_st0 {args : List BV} {i : Nat} : (st0 args).bx i = none := rfl
theorem nx_st0 {args : List BV} : (st0 args).nx = 0 := rfl
theorem fr_st1 {cs : List PV} {args : List BV} {s : Nat} : (st1 cs args).fr s = if s = 0 then .b (.c (.ptr 0 0)) else frArgs args 1 s := rfl
theorem bx_st1 {cs : List PV} {args : List BV} {i : Nat} : (st1 cs args).bx i = if i = 0 then some (.fix (cs.map CV.p)) else none := rfl
theorem nx_st1 {cs : List PV} {args : List BV} : (st1 cs args).nx = 1 := rfl
theorem frArgs_nil {k s : Nat} : frArgs [] k s = .any := rfl
theorem frArgs_cons {x : BV} {r : List BV} {k s : Nat} : frArgs (x :: r) k s = if s = k then .b x else frArgs r (k + 1) s := rfl
theorem frOf_nil {s : Nat} : frOf [] s = .any := rfl
theorem frOf_cons {k s : Nat} {v : SV} {r : List (Nat × SV)} : frOf ((k, v) :: r) s = if s = k then v else frOf r s := rfl
theorem bxOf_nil {s : Nat} : bxOf [] s = none := rfl
theorem bxOf_cons {k s : Nat} {v : Bx} {r : List (Nat × Bx)} : bxOf ((k, v) :: r) s = if s = k then some v else bxOf r s := rfl
theorem strip_b {x : BV} : (SV.b x).strip = .b x := rfl
theorem strip_grd {p : Bool} {x : BV} : (SV.grd p x).strip = .b x := rfl
theorem strip_tup {x : List BV} : (SV.tup x).strip = .tup x := rfl
theorem cond_b {x : BV} : (SV.b x).cond = True := rfl
theorem cond_grd {p : Bool} {x : BV} : (SV.grd p x).cond = (p = true) := rfl
theorem cond_tup {x : List BV} : (SV.tup x).cond = True := rfl
theorem stripB_b {x : BV} : stripB (.b x) = x := rfl
theorem stripB_grd {p : Bool} {x : BV} : stripB (.grd p x) = x := rfl
theorem condAll_nil : condAll [] = True := rfl
theorem condAll_cons {x : SV} {r : List SV} : condAll (x :: r) = (x.cond ∧ condAll r) := rfl
theorem condO_none : condO S st none = True := rfl
theorem condO_some {x : Operand} : condO S st (some x) = (st.ev S x).cond := rfl
theorem thenQ_normal {n : St → Prop} {Q : AExit → St → Prop} : thenQ n Q .normal st = n st := rfl
theorem thenQ_ret {n : St → Prop} {Q : AExit → St → Prop} : thenQ n Q .ret st = Q .ret st := rfl
theorem thenQ_exit {n : St → Prop} {Q : AExit → St → Prop} {id : Nat} : thenQ n Q (.exit id) st = Q (.exit id) st := rfl
theorem blockQ_normal {id : Nat} {Q : AExit → St → Prop} : blockQ id Q .normal st = Q .normal st := rfl
theorem blockQ_ret {id : Nat} {Q : AExit → St → Prop} : blockQ id Q .ret st = Q .ret st := rfl
theorem blockQ_exit {id id' : Nat} {Q : AExit → St → Prop} : blockQ id Q (.exit id') st = if id' = id then Q .normal st else Q (.exit id') st := rfl
theorem retQ_ret {rs : List ResultVar} {R : SV → Prop} : retQ S rs R .ret st = retP S rs R st := rfl
theorem retQ_normal {rs : List ResultVar} {R : SV → Prop} : retQ S rs R .normal st = retP S rs R st := rfl
theorem recQ_ret {rs : List ResultVar} {R : SV → List PV → Prop} : recQ S rs R .ret st = recP S rs R st := rfl
theorem recQ_normal {rs : List ResultVar} {R : SV → List PV → Prop} : recQ S rs R .normal st = recP S rs R st := rfl
end
section
variable {S : Env} {st : St} {Q : AExit → St → Prop}
theorem cw_step {id : Nat} {l : List Oper} {y : Code} (h : ∀ K : St → Prop, (∀ s, cw S y Q s → K s) → opsP S l.toArray l st K) : cw S (.seq (.region id l.toArray false) y) Q st :=
 cw_seq (cw_region (h _ fun _ h => h))
theorem cw_last {id : Nat} {l : List Oper} (h : ∀ K : St → Prop, (∀ s, Q .normal s → K s) → opsP S l.toArray l st K) : cw S (.region id l.toArray false) Q st :=
 cw_region (h _ fun _ h => h)
theorem cw_stepD {id : Nat} {l : List Oper} {y : Code} (hd : drawOk S.rcv l.toArray (fun i => (Region.before l.toArray).getD i 0) = true) (hm : marksOk l.toArray (fun i => (Region.before l.toArray).getD i 0) = true)
  (h : ∀ K : St → Prop, (∀ s, cw S y Q s → K s) → opsP S l.toArray l st K) : cw S (.seq (.region id l.toArray true) y) Q st :=
 cw_seq (cw_draw hd hm (h _ fun _ h => h))
theorem cw_lastD {id : Nat} {l : List Oper} (hd : drawOk S.rcv l.toArray (fun i => (Region.before l.toArray).getD i 0) = true) (hm : marksOk l.toArray (fun i => (Region.before l.toArray).getD i 0) = true)
  (h : ∀ K : St → Prop, (∀ s, Q .normal s → K s) → opsP S l.toArray l st K) : cw S (.region id l.toArray true) Q st :=
 cw_draw hd hm (h _ fun _ h => h)
theorem cw_assoc {x y z : Code} (h : cw S (.seq x (.seq y z)) Q st) : cw S (.seq (.seq x y) z) Q st :=
 cw_mono x (fun e s hs => by cases e <;> exact hs) h
theorem cw_if {c : Operand} {x y z : Code} {t : Bool} (hc : st.ev S c = .t t) (h1 : t = true → cw S (.seq x z) Q st) (h2 : t = false → cw S (.seq y z) Q st) : cw S (.seq (.cond c x y) z) Q st :=
 cw_cond hc h1 h2
theorem cw_skips {z : Code} (h : cw S z Q st) : cw S (.seq .skip z) Q st := .inr h
theorem cw_labels {z : Code} {l : Nat} (h : cw S z Q st) : cw S (.seq (.label l) z) Q st := .inr h
theorem cw_rets {z : Code} (h : Q .ret st) : cw S (.seq .ret z) Q st := h
theorem cw_exits {z : Code} {id : Nat} (h : Q (.exit id) st) : cw S (.seq (.exit id) z) Q st := h
theorem cw_blocks {z x : Code} {id : Nat} (h : ∀ K : St → Prop, (∀ s, cw S z Q s → K s) → cw S x (blockQ id (thenQ K Q)) st) : cw S (.seq (.block id x) z) Q st :=
 cw_seq (h _ fun _ h => h)
end
def argsLt : List BV → Prop
 | [] => True
 | x :: r => x.lt 0 ∧ argsLt r
theorem argsLt_mem : ∀ {l : List BV}, argsLt l → ∀ x ∈ l, BV.lt 0 x
 | _ :: _, h, _, .head _ => h.1
 | _ :: _, h, _, .tail _ hm => argsLt_mem h.2 _ hm
theorem argsLe_refl : ∀ (l : List BV), argsLe l l
 | [] => trivial
 | _ :: r => ⟨fun _ _ _ _ h => h, argsLe_refl r⟩
section
variable {S : Env} {st : St} {f : FuncId} {args args' : List BV} {K : SV → St → Prop}
theorem call_eq {X : SV} (h : Pure S f args (fun r => r = X)) (hl : argsLt args) (hk : K X st) : CallS S st f args (Sl.of K) :=
 .pure args _ h (argsLe_refl _) (argsLt_mem hl) hk
theorem call_ext {X : SV} (h : PureX S f args X) (hl : argsLt args) (hk : K X st) : CallS S st f args (Sl.of K) := .ext args X h (argsLe_refl _) (argsLt_mem hl) hk
theorem call_as {X : SV} (hk : K X st) (ha : args = args') (hl : argsLt args') (h : Pure S f args' (fun r => r = X)) : CallS S st f args (Sl.of K) :=
 .pure args' _ h (ha ▸ argsLe_refl _) (argsLt_mem hl) hk
theorem gcall_eq {X : BV} {g : Bool} {c : Prop} {d : Option Nat} {K : St → Prop} (h : g = true → Pure S f args (fun r => r = .b X)) (hl : argsLt args) (hx : X.lt st.nx) (hc : g = true → c) (hk : K (st.set d (.grd g X))) : rgm (some g) c S st f args d (Sl.of K) :=
 .inr ⟨X, hx, fun hg => ⟨hc hg, .pure args _ (h hg) (argsLe_refl _) (argsLt_mem hl) rfl⟩, hk⟩
end
attribute [go_sem] List.getElem?_toArray Option.bind_some Option.map_some Option.map_none Option.getD_some Option.getD_none true_and and_true List.drop_succ_cons List.drop_zero List.drop_nil List.take_succ_cons List.take_zero List.take_nil
 List.getD_cons_zero List.getD_cons_succ List.getD_nil List.length_cons List.length_nil List.map_cons List.map_nil List.cons_append List.nil_append List.append_nil List.getElem?_cons_zero List.getElem?_cons_succ argsLt cond_true cond_false
def cellsLt (nx : Nat) : List CV → Prop
 | [] => True
 | x :: r => CV.lt nx x ∧ cellsLt nx r
theorem cellsLt_iff {nx : Nat} : ∀ {l : List CV}, cellsLt nx l ↔ ∀ c ∈ l, CV.lt nx c
 | [] => by simp [cellsLt]
 | x :: r => by simp [cellsLt, cellsLt_iff (l := r)]
def bvsLt (nx : Nat) : List BV → Prop
 | [] => True
 | x :: r => BV.lt nx x ∧ bvsLt nx r
theorem bvsLt_iff {nx : Nat} : ∀ {l : List BV}, bvsLt nx l ↔ ∀ c ∈ l, BV.lt nx c
 | [] => by simp [bvsLt]
 | x :: r => by simp [bvsLt, bvsLt_iff (l := r)]
section
variable {nx : Nat}
theorem lt_agg {cs : List CV} : BV.lt nx (.agg cs) = cellsLt nx cs := propext cellsLt_iff.symm
theorem lt_ag {l : List PV} : BV.lt nx (.agg (l.map CV.p)) = True := by
 simp [BV.lt, CV.lt]
theorem lt_cmap {l : List PV} : cellsLt nx (l.map CV.p) = True := by
 rw [cellsLt_iff]; simp [CV.lt]
theorem lt_c {x : CV} : BV.lt nx (.c x) = CV.lt nx x := rfl
theorem lt_cp {x : PV} : CV.lt nx (.p x) = True := rfl
theorem lt_ptr {i o : Nat} : CV.lt nx (.ptr i o) = (i < nx) := rfl
theorem lt_pel {i s o n : Nat} : CV.lt nx (.pel i s n o) = (i < nx) := rfl
theorem lt_own {i n : Nat} : CV.lt nx (.own i n) = (i < nx) := rfl
theorem lt_ipt {s o : Nat} {g : Nat → PV} : CV.lt nx (.ipt s g o) = True := rfl
theorem lt_nil : cellsLt nx [] = True := rfl
theorem lt_cons {x : CV} {r : List CV} : cellsLt nx (x :: r) = (CV.lt nx x ∧ cellsLt nx r) := rfl
theorem lts_nil : bvsLt nx [] = True := rfl
theorem lts_cons {x : BV} {r : List BV} : bvsLt nx (x :: r) = (BV.lt nx x ∧ bvsLt nx r) := rfl
theorem lt_sb {x : BV} : SV.lt nx (.b x) = BV.lt nx x := rfl
theorem lt_stup {x : List BV} : SV.lt nx (.tup x) = bvsLt nx x := propext bvsLt_iff.symm
theorem lt_sgrd {x : BV} {p : Bool} : SV.lt nx (.grd p x) = BV.lt nx x := rfl
theorem lt_sany : SV.lt nx .any = True := rfl
theorem lt_bfix {l : List CV} : Bx.lt nx (.fix l) = cellsLt nx l := propext cellsLt_iff.symm
theorem lt_barr {e s n : Nat} {f : Nat → Nat → PV} : Bx.lt nx (.arr e s n f) = True := rfl
end
attribute [go_sem] lt_agg lt_cmap lt_c lt_cp lt_ptr lt_pel lt_own lt_ipt lt_nil lt_cons lts_nil lts_cons lt_sb lt_stup lt_sgrd lt_sany lt_bfix lt_barr
attribute [go_sem ↓] lt_ag
attribute [go_sem ↓] g_ro
attribute [go_sem ↓ 1100] g_call g_build
attribute [go_sem] ro_move ro_assign ro_pick ro_load ro_fieldAddr ro_field ro_indexAddr ro_index ro_extract ro_bin ro_un ro_conv ro_nilCheck ro_len
attribute [go_sem] rk_some rg_some rg_grd mk_some rc_some
attribute [go_sem ↓] o_nil o_move o_assign o_pick o_load o_fieldAddr o_field o_indexAddr o_index o_extract o_bin o_un o_conv o_slice o_nilCheck o_len o_min o_max
 o_alloc o_box o_build o_buildSlice o_store o_make o_append o_call
attribute [go_sem] ev_tmp ev_const ev_func ev_global set_none fr_set bx_set nx_set fr_newBox bx_newBox nx_newBox fr_setBox bx_setBox nx_setBox fr_delBox bx_delBox nx_delBox
 fr_st0 bx_st0 nx_st0 fr_st1 bx_st1 nx_st1 frArgs_nil frArgs_cons frOf_nil frOf_cons bxOf_nil bxOf_cons strip_b strip_grd strip_tup cond_b cond_grd cond_tup stripB_b stripB_grd condAll_nil condAll_cons condO_none condO_some
 thenQ_normal thenQ_ret thenQ_exit blockQ_normal blockQ_ret blockQ_exit retQ_ret retQ_normal recQ_ret recQ_normal
attribute [go_sem] valsOf roPick roLoad moveBy roField roIndexAddr roIndex roBin ibin roUn roConv roLen roFieldAddr roExtract roNil roMin roMax roSlice bound? mAlloc mBox mBuild mBuildSlice mStore mMake mAppend fillL placeOf putL srcOf BV.cells BV.one CV.one CV.ofV CV.toP guardV
 retP resAll resP recP lendB lendC lendAB lendAC
end Go.SL
namespace Go.SL
open Go
open Go.RowKit (wrap64)
theorem w64 {n : Int} (h1 : -9223372036854775808 ≤ n) (h2 : n ≤ 9223372036854775807) : wrap64 n = n := IntWalk.wrap64_in n ⟨h1, h2⟩
theorem w64' {n : Int} (h1 : -9223372036854775808 ≤ n) (h2 : n ≤ 9223372036854775807) : IntKind.i64.wrap n = n := IntWalk.i64_in n ⟨h1, h2⟩
theorem wu16 {n : Int} (h1 : 0 ≤ n) (h2 : n ≤ 65535) : IntKind.u16.wrap n = n := IntWalk.u16_in n ⟨h1, h2⟩
theorem wu64 {n : Int} (h1 : 0 ≤ n) (h2 : n ≤ 18446744073709551615) : IntKind.u64.wrap n = n := by
 simp only [IntKind.wrap, IntKind.bits, IntKind.signed]
 simp
 omega
theorem tdiv_le {n k : Int} : ((n.tdiv k).natAbs) ≤ n.natAbs := by
 rw [Int.natAbs_tdiv]; exact Nat.div_le_self _ _
theorem wtdiv {n k : Int} (h1 : -9223372036854775808 ≤ n) (h2 : n ≤ 9223372036854775807) (hk : 2 ≤ k) : IntKind.i64.wrap (n.tdiv k) = n.tdiv k := by
 have h := @tdiv_le n k
 refine w64' (by omega) ?_
 by_cases h0 : n = -9223372036854775808
 ·subst h0
  have : (-9223372036854775808 : Int).tdiv k ≤ 0 := by
   rw [Int.neg_tdiv]
   have := Int.tdiv_nonneg (a := 9223372036854775808) (b := k) (by omega) (by omega)
   omega
  omega
 ·omega
theorem i64_wrap (n : Int) : -9223372036854775808 ≤ IntKind.i64.wrap n ∧ IntKind.i64.wrap n ≤ 9223372036854775807 := by
 simp only [IntKind.wrap, IntKind.bits, IntKind.signed]
 simp
 split <;> omega
theorem tdivP {a b : Int} (h : 0 ≤ a) : a.tdiv b = a / b := Int.tdiv_eq_ediv_of_nonneg h
theorem tmodP {a b : Int} (h : 0 ≤ a) : a.tmod b = a % b := Int.tmod_eq_emod_of_nonneg h
def fnOf {α : Type} [Inhabited α] (enc : α → List PV) (xs : List α) : Nat → Nat → PV := fun i j => (enc (xs.getD i default)).getD j .any
theorem PV.le_refl (x : PV) : PV.le x x := fun _ _ _ h => h
theorem nil_le {sz : Nat} {f : Nat → Nat → PV} : PV.le (.val (.slice none 0 0)) (.lst sz 0 f) := fun _ _ u h => by
 have : u = .slice none 0 0 := h
 subst this
 exact ⟨none, 0, rfl, Nat.le_refl _, fun h => absurd h (Nat.lt_irrefl 0)⟩
theorem lst_le {sz n : Nat} {f g : Nat → Nat → PV} (h : ∀ i, i < n → ∀ j, j < sz → f i j = g i j) : PV.le (.lst sz n f) (.lst sz n g) := fun _ _ u hu => by
 obtain ⟨a, c, e, hn, hb⟩ := hu
 refine ⟨a, c, e, hn, fun h0 => ?_⟩
 obtain ⟨b, o, ha, hok, hc⟩ := hb h0
 refine ⟨b, o, ha, hok, fun i hi j hj => ?_⟩
 rw [← h i hi j hj]
 exact hc i hi j hj
theorem one_int {k : IntKind} {n : Int} : (Value.int k n).oneCell' = true := rfl
theorem one_bool {b : Bool} : (Value.bool b).oneCell' = true := rfl
theorem one_string {s : ByteArray} : (Value.string s).oneCell' = true := rfl
theorem one_slice {o n : Nat} : (Value.slice none o n).oneCell' = true := rfl
attribute [go_sem] one_int one_bool one_string one_slice
theorem fnOf_app {α : Type} [Inhabited α] {enc : α → List PV} {xs : List α} {i j : Nat} : fnOf enc xs i j = (enc (xs.getD i default)).getD j .any := rfl
theorem maxLen_eq : maxLen = 9223372036854775807 := by decide
attribute [go_sem] maxLen_eq
theorem bif_and {a b : Bool} : (bif a then b else false) = (a && b) := by cases a <;> rfl
theorem bif_or {a b : Bool} : (bif a then true else b) = (a || b) := by cases a <;> rfl
attribute [go_sem] bif_and bif_or
theorem arr_push {α : Type} [Inhabited α] {enc : α → List PV} {xs : List α} {x : α} {s : Nat} {g : Nat → Nat → PV} (hg : ∀ j, j < s → g 0 j = (enc x).getD j .any) :
  ∀ i, i < xs.length + 1 → ∀ j, j < s → PV.le (appF xs.length (fnOf enc xs) g i j) (fnOf enc (xs ++ [x]) i j) := fun i hi j hj => by
 have : appF xs.length (fnOf enc xs) g i j = fnOf enc (xs ++ [x]) i j := by
  unfold appF fnOf
  split
  ·rename_i h; simp only [List.getD_eq_getElem?_getD, List.getElem?_append_left h]
  ·rename_i h
   have : i = xs.length := by omega
   subst this
   rw [Nat.sub_self, hg j hj]
   simp
 rw [this]; exact PV.le_refl _
attribute [go_sem] fnOf_app
end Go.SL
set_option linter.unusedVariables false
namespace Go.SL
open Go
def atN (s1 : St) : AExit → St → Prop
 | .normal, s => s = s1
 | _, _ => False
theorem atN_intro {s : St} : atN s .normal s := rfl
def St.ite (t : Bool) (s1 s2 : St) : St :=
 { fr := fun k => if t = true then s1.fr k else s2.fr k, bx := fun i => if t = true then s1.bx i else s2.bx i, nx := if t = true then s1.nx else s2.nx, kf := fun k => if t = true then s1.kf k else s2.kf k }
def falls : Code → Bool
 | .skip => true
 | .region .. => true
 | .seq x y => falls x && falls y
 | .cond _ x y => falls x && falls y
 | .label _ => true
 | _ => false
section
variable {S : Env} {st : St} {Q : AExit → St → Prop}
theorem cw_ite {c : Operand} {x y z : Code} {t : Bool} {s1 s2 : St} (hf : (falls x && falls y) = true) (hc : st.ev S c = .t t) (h1 : t = true → cw S x (atN s1) st) (h2 : t = false → cw S y (atN s2) st)
  (h : cw S z Q (St.ite t s1 s2)) : cw S (.seq (.cond c x y) z) Q st := by
 refine cw_seq (cw_cond hc (fun ht => ?_) fun ht => ?_)
 ·subst ht
  refine cw_mono x (fun e s hs => ?_) (h1 rfl)
  cases e with
  | normal => have : s = s1 := hs; subst this; exact h
  | _ => exact hs.elim
 ·subst ht
  refine cw_mono y (fun e s hs => ?_) (h2 rfl)
  cases e with
  | normal => have : s = s2 := hs; subst this; exact h
  | _ => exact hs.elim
theorem cw_iteN {c : Operand} {x y : Code} {t : Bool} {s1 s2 : St} (hf : (falls x && falls y) = true) (hc : st.ev S c = .t t) (h1 : t = true → cw S x (atN s1) st) (h2 : t = false → cw S y (atN s2) st)
  (h : Q .normal (St.ite t s1 s2)) : cw S (.cond c x y) Q st := by
 refine cw_cond hc (fun ht => ?_) fun ht => ?_
 ·subst ht
  refine cw_mono x (fun e s hs => ?_) (h1 rfl)
  cases e with
  | normal => have : s = s1 := hs; subst this; exact h
  | _ => exact hs.elim
 ·subst ht
  refine cw_mono y (fun e s hs => ?_) (h2 rfl)
  cases e with
  | normal => have : s = s2 := hs; subst this; exact h
  | _ => exact hs.elim
variable {t : Bool} {s1 s2 : St}
theorem fr_ite {k : Nat} : (St.ite t s1 s2).fr k = if t = true then s1.fr k else s2.fr k := rfl
theorem bx_ite {k : Nat} : (St.ite t s1 s2).bx k = if t = true then s1.bx k else s2.bx k := rfl
theorem nx_ite : (St.ite t s1 s2).nx = if t = true then s1.nx else s2.nx := rfl
variable {p : Prop} [Decidable p]
theorem ite_sb {x y : BV} : (if p then SV.b x else SV.b y) = SV.b (if p then x else y) := by split <;> rfl
theorem ite_c {x y : CV} : (if p then BV.c x else BV.c y) = BV.c (if p then x else y) := by split <;> rfl
theorem ite_agg {x y : List CV} : (if p then BV.agg x else BV.agg y) = BV.agg (if p then x else y) := by split <;> rfl
theorem ite_cons {x y : CV} {l r : List CV} : (if p then x :: l else y :: r) = (if p then x else y) :: (if p then l else r) := by split <;> rfl
theorem ite_p {x y : PV} : (if p then CV.p x else CV.p y) = CV.p (if p then x else y) := by split <;> rfl
theorem ite_val {x y : Value} : (if p then PV.val x else PV.val y) = PV.val (if p then x else y) := by split <;> rfl
theorem ite_int {k : IntKind} {x y : Int} : (if p then Value.int k x else Value.int k y) = Value.int k (if p then x else y) := by split <;> rfl
theorem ite_bool {x y : Bool} : (if p then Value.bool x else Value.bool y) = Value.bool (if p then x else y) := by split <;> rfl
theorem ite_lst {sz n m : Nat} {f g : Nat → Nat → PV} : (if p then PV.lst sz n f else PV.lst sz m g) = PV.lst sz (if p then n else m) (if p then f else g) := by split <;> rfl
theorem ite_own {i n m : Nat} : (if p then CV.own i n else CV.own i m) = CV.own i (if p then n else m) := by split <;> rfl
theorem ite_some {x y : Bx} : (if p then some x else some y) = some (if p then x else y) := by split <;> rfl
theorem ite_fix {x y : List CV} : (if p then Bx.fix x else Bx.fix y) = Bx.fix (if p then x else y) := by split <;> rfl
theorem ite_arr {e s n m : Nat} {f g : Nat → Nat → PV} : (if p then Bx.arr e s n f else Bx.arr e s m g) = Bx.arr e s (if p then n else m) (if p then f else g) := by split <;> rfl
theorem ite_same {α : Type} {x : α} : (if p then x else x) = x := by split <;> rfl
end
theorem iteT {p : Prop} [Decidable p] {a b : Bool} : ((if p then a else b) = true) = ((p → a = true) ∧ (¬p → b = true)) := by split <;> simp_all
theorem iteF {p : Prop} [Decidable p] {a b : Bool} : ((if p then a else b) = false) = ((p → a = false) ∧ (¬p → b = false)) := by split <;> simp_all
theorem wk_loop {X : Type} {F : X → St} {I : X → Prop} {m : X → Nat} {k : Nat} {st : St} (x' : X) (hle : Le st (F x')) (hI : I x') (hm : m x' < k) : Wk (fun s => ∃ x', s = F x' ∧ I x' ∧ m x' < k) st :=
 ⟨F x', hle, x', rfl, hI, hm⟩
theorem call_lends {S : Env} {st : St} {f : FuncId} {args args' : List BV} {K : SV → St → Prop} {X : SV} (hk : K X st) (ha : argsLe (args.map (lendAB st.bx)) args') (hl : argsLt args') (hf : X.flat) (h : Pure S f args' (fun r => r = X)) (hp : S.rcv (f + 1000000) = false := by rfl) : CallS S st f args (Sl.of K) :=
 .lend args' _ h ha (argsLt_mem hl) hf hk hp
theorem argsLe_nil : argsLe [] [] = True := rfl
theorem argsLe_cons {x y : BV} {r s : List BV} : argsLe (x :: r) (y :: s) = (BV.le x y ∧ argsLe r s) := rfl
theorem bvle_refl {x : BV} : BV.le x x := fun _ _ _ _ h => h
theorem bvle_p {x y : PV} (h : PV.le x y) : BV.le (.c (.p x)) (.c (.p y)) := fun _ ok w u hu => h ok w u hu
theorem cw_stepW {S : Env} {st : St} {Q : AExit → St → Prop} {id : Nat} {l : List Oper} {y : Code} (h : ∀ K : St → Prop, (∀ s, cw S y Q s → K s) → (∀ s s', Le s s' → cw S y Q s' → K s) → opsP S l.toArray l st K) : cw S (.seq (.region id l.toArray false) y) Q st := by
 refine cw_mono (S := S) (.region id l.toArray false) (Q := thenQ (fun st => Wk (cw S y Q) st ∨ cw S y Q st) Q) (fun _ _ h => h) (cw_region ?_)
 exact h _ (fun s hs => .inr hs) fun s s' hl hs => .inl ⟨s', hl, hs⟩
def BLe (x y : BV) : Prop := BV.lt 0 y ∧ ∀ ok w u, DenB noRho ok w x u → DenB noRho ok w y u
def SLe (x y : SV) : Prop := SV.lt 0 y ∧ ∀ ok w u, DenS noRho ok w x u → DenS noRho ok w y u
def BLeL : List BV → List BV → Prop
 | [], [] => True
 | x :: l, y :: r => BLe x y ∧ BLeL l r
 | _, _ => False
theorem pure_le {S : Env} {f : FuncId} {args : List BV} {X : SV} (h : Pure S f args fun r => SLe r X) : Pure S f args fun r => r = X :=
 ⟨h.1, fun ok w vs h1 h2 h3 h4 => (h.2 ok w vs h1 h2 h3 h4).mono fun _ _ ⟨v, r, he, hR, _, hb, hd⟩ => ⟨v, X, he, rfl, hR.1, hb, hR.2 _ _ _ hd⟩⟩
theorem sle_b {x y : BV} (h : BLe x y) : SLe (.b x) (.b y) := h
theorem ble_rfl {x : BV} (h : BV.lt 0 x) : BLe x x := ⟨h, fun _ _ _ h => h⟩
theorem ble_c {x y : PV} (h : PV.le x y) : BLe (.c (.p x)) (.c (.p y)) := ⟨trivial, fun ok w u hu => h ok w u hu⟩
theorem bleL_den {ok : Nat → Prop} {w : World} : ∀ {l r : List BV}, BLeL l r → l.length = r.length ∧ ∀ {u : Nat → Value}, (∀ j, DenB noRho ok w (l.getD j .any) (u j)) → ∀ j, DenB noRho ok w (r.getD j .any) (u j)
 | [], [], _ => ⟨rfl, fun h => h⟩
 | x :: l, y :: r, ⟨h1, h2⟩ => by
  obtain ⟨q1, q2⟩ := bleL_den (ok := ok) (w := w) h2
  refine ⟨by simp [q1], fun {u} hu j => ?_⟩
  cases j with
  | zero => exact h1.2 ok w _ (hu 0)
  | succ j => exact q2 (u := fun k => u (k + 1)) (fun k => hu (k + 1)) j
theorem bleL_lt : ∀ {l r : List BV}, BLeL l r → ∀ v ∈ r, BV.lt 0 v
 | [], [], _, v, hv => by cases hv
 | x :: l, y :: r, h, v, hv => by
  rcases List.mem_cons.1 hv with e | e
  ·rw [e]; exact h.1.1
  ·exact bleL_lt h.2 v e
theorem sle_tup {l r : List BV} (h : BLeL l r) : SLe (.tup l) (.tup r) :=
 ⟨bleL_lt h, fun ok w u ⟨us, hu, hs, hd⟩ => ⟨us, hu, by rw [hs, (bleL_den (ok := ok) (w := w) h).1], (bleL_den h).2 hd⟩⟩
def CLeL : List CV → List CV → Prop
 | [], [] => True
 | .p x :: l, .p y :: r => (x = y ∨ PV.le x y) ∧ CLeL l r
 | _, _ => False
theorem cleL_nil : CLeL [] [] = True := rfl
theorem cleL_cons {x y : PV} {l r : List CV} : CLeL (.p x :: l) (.p y :: r) = ((x = y ∨ PV.le x y) ∧ CLeL l r) := rfl
theorem cleL_den {ok : Nat → Prop} {w : World} : ∀ {l r : List CV}, CLeL l r → l.length = r.length ∧ (∀ c ∈ r, CV.lt 0 c) ∧ ∀ {u : Nat → Value}, (∀ j, DenC noRho ok w (l.getD j .any) (u j)) → ∀ j, DenC noRho ok w (r.getD j .any) (u j)
 | [], [], _ => ⟨rfl, by simp, fun h => h⟩
 | .p x :: l, .p y :: r, h => by
  rw [cleL_cons] at h
  obtain ⟨h1, h2⟩ := h
  obtain ⟨q1, q0, q2⟩ := cleL_den (ok := ok) (w := w) h2
  refine ⟨by simp [q1], fun c hc => ?_, fun {u} hu j => ?_⟩
  ·rcases List.mem_cons.1 hc with e | e
   ·rw [e]; trivial
   ·exact q0 c e
  ·cases j with
   | zero =>
    rcases h1 with e | e
    ·rw [← e]; exact hu 0
    ·exact e _ _ _ (hu 0)
   | succ j => exact q2 (u := fun k => u (k + 1)) (fun k => hu (k + 1)) j
theorem ble_agg {l r : List CV} (h : CLeL l r) : BLe (.agg l) (.agg r) := by
 refine ⟨(cleL_den (ok := fun _ => True) (w := default) h).2.1, fun ok w u ⟨us, hu, hs, h1, hd⟩ => ?_⟩
 obtain ⟨q1, _, q2⟩ := cleL_den (ok := ok) (w := w) h
 exact ⟨us, hu, by rw [hs, q1], h1, q2 hd⟩
theorem int_eq {k : IntKind} {a b : Int} (h : a = b) : SV.b (.c (.p (.val (.int k a)))) = SV.b (.c (.p (.val (.int k b)))) := by rw [h]
def mkSt (l : List (Nat × SV)) (b : List (Nat × Bx)) (nx : Nat) : St := ⟨frOf l, bxOf b, nx, fun _ => .any⟩
theorem fr_mkSt {l : List (Nat × SV)} {b : List (Nat × Bx)} {nx s : Nat} : (mkSt l b nx).fr s = frOf l s := rfl
theorem bx_mkSt {l : List (Nat × SV)} {b : List (Nat × Bx)} {nx s : Nat} : (mkSt l b nx).bx s = bxOf b s := rfl
theorem nx_mkSt {l : List (Nat × SV)} {b : List (Nat × Bx)} {nx : Nat} : (mkSt l b nx).nx = nx := rfl
def rOf : List (Nat × Option Nat) → Nat → Option Nat
 | [], _ => some 0
 | (k, v) :: r, i => if i = k then v else rOf r i
theorem rOf_nil {i : Nat} : rOf [] i = some 0 := rfl
theorem rOf_cons {k i : Nat} {v : Option Nat} {r : List (Nat × Option Nat)} : rOf ((k, v) :: r) i = if i = k then v else rOf r i := rfl
def leFr (r : Nat → Option Nat) (st : St) (bx' : Nat → Option Bx) (nx : Nat) : List (Nat × SV) → Prop
 | [] => True
 | (k, v) :: l => (leS r st.bx bx' (st.fr k) v ∧ v.lt nx) ∧ leFr r st bx' nx l
def leBs (r : Nat → Option Nat) (st : St) (bx' : Nat → Option Bx) (nx : Nat) : List (Nat × Bx) → Prop
 | [] => True
 | (i, x) :: l => (leBox r st.bx bx' i x ∧ i < nx ∧ x.lt nx) ∧ leBs r st bx' nx l
theorem frOf_mem {s : Nat} : ∀ {l : List (Nat × SV)}, frOf l s = .any ∨ (s, frOf l s) ∈ l
 | [] => .inl rfl
 | (k, v) :: l => by
  rw [frOf_cons]
  split
  ·rename_i h; subst h; exact .inr (List.mem_cons_self ..)
  ·rcases frOf_mem (s := s) (l := l) with h | h
   ·exact .inl h
   ·exact .inr (List.mem_cons_of_mem _ h)
theorem bxOf_mem {s : Nat} {x : Bx} : ∀ {l : List (Nat × Bx)}, bxOf l s = some x → (s, x) ∈ l
 | [], h => by cases h
 | (k, v) :: l, h => by
  rw [bxOf_cons] at h
  split at h
  ·rename_i e; subst e; cases h; exact List.mem_cons_self ..
  ·exact List.mem_cons_of_mem _ (bxOf_mem h)
theorem leFr_mem {r : Nat → Option Nat} {st : St} {bx' : Nat → Option Bx} {nx : Nat} : ∀ {l : List (Nat × SV)}, leFr r st bx' nx l → ∀ {k v}, (k, v) ∈ l → leS r st.bx bx' (st.fr k) v ∧ v.lt nx
 | (_, _) :: _, h, _, _, .head _ => h.1
 | (_, _) :: _, h, _, _, .tail _ hm => leFr_mem h.2 hm
theorem leBs_mem {r : Nat → Option Nat} {st : St} {bx' : Nat → Option Bx} {nx : Nat} : ∀ {l : List (Nat × Bx)}, leBs r st bx' nx l → ∀ {k v}, (k, v) ∈ l → leBox r st.bx bx' k v ∧ k < nx ∧ v.lt nx
 | (_, _) :: _, h, _, _, .head _ => h.1
 | (_, _) :: _, h, _, _, .tail _ hm => leBs_mem h.2 hm
def injR (r : Nat → Option Nat) : List Nat → Bool
 | [] => true
 | i :: l => (l.all fun j => i == j || r i == none || r i != r j) && injR r l
theorem injR_spec {r : Nat → Option Nat} : ∀ {l : List Nat}, injR r l = true → ∀ i j k, i ∈ l → j ∈ l → r i = some k → r j = some k → i = j
 | a :: l, h, i, j, k, hi, hj, h1, h2 => by
  simp only [injR, Bool.and_eq_true, List.all_eq_true, Bool.or_eq_true, beq_iff_eq, bne_iff_ne] at h
  obtain ⟨ha, hl⟩ := h
  rcases List.mem_cons.1 hi with e1 | e1 <;> rcases List.mem_cons.1 hj with e2 | e2
  ·rw [e1, e2]
  ·subst e1
   rcases ha j e2 with (q | q) | q
   ·exact q
   ·rw [q] at h1; cases h1
   ·exact absurd (h1.trans h2.symm) q
  ·subst e2
   rcases ha i e1 with (q | q) | q
   ·exact q.symm
   ·rw [q] at h2; cases h2
   ·exact absurd (h2.trans h1.symm) q
  ·exact injR_spec hl i j k e1 e2 h1 h2
theorem le_of {st : St} {l : List (Nat × SV)} {b : List (Nat × Bx)} {nx : Nat} (r : List (Nat × Option Nat)) (h0 : rOf r 0 = some 0) (hnx : 0 < nx) (hinj : injR (rOf r) (b.map (·.1)) = true)
  (hfr : leFr (rOf r) st (bxOf b) nx l) (hb : leBs (rOf r) st (bxOf b) nx b) : Le st (mkSt l b nx) := by
 have key : ∀ i, bxOf b i ≠ none → i ∈ b.map (·.1) := fun i hi => by
  cases hx : bxOf b i with
  | none => exact absurd hx hi
  | some x => exact List.mem_map.2 ⟨_, bxOf_mem hx, rfl⟩
 refine ⟨⟨rOf r, h0, fun _ => hnx, fun i j k hi hj h1 h2 => injR_spec hinj i j k (key i hi) (key j hj) h1 h2, fun s => ?_, fun i x hx => (leBs_mem hb (bxOf_mem hx)).1, fun s => by show leS _ _ _ _ .any; unfold leS; split <;> trivial⟩, fun s => ?_, fun i x hx => (leBs_mem hb (bxOf_mem hx)).2, fun _ => trivial⟩
 ·show leS _ _ _ _ (frOf l s)
  rcases frOf_mem (s := s) (l := l) with h | h
  ·rw [h]; unfold leS; split <;> trivial
  ·exact (leFr_mem hfr h).1
 ·show SV.lt nx (frOf l s)
  rcases frOf_mem (s := s) (l := l) with h | h
  ·rw [h]; trivial
  ·exact (leFr_mem hfr h).2
section
variable {r : Nat → Option Nat} {bx bx' : Nat → Option Bx} {st : St} {nx : Nat}
theorem leFr_nil : leFr r st bx' nx [] = True := rfl
theorem leFr_cons {k : Nat} {v : SV} {l : List (Nat × SV)} : leFr r st bx' nx ((k, v) :: l) = ((leS r st.bx bx' (st.fr k) v ∧ v.lt nx) ∧ leFr r st bx' nx l) := rfl
theorem leBs_nil : leBs r st bx' nx [] = True := rfl
theorem leBs_cons {k : Nat} {v : Bx} {l : List (Nat × Bx)} : leBs r st bx' nx ((k, v) :: l) = ((leBox r st.bx bx' k v ∧ k < nx ∧ v.lt nx) ∧ leBs r st bx' nx l) := rfl
theorem leS_b {x y : BV} : leS r bx bx' (.b x) (.b y) = leB r bx bx' x y := rfl
theorem leS_any {x : SV} : leS r bx bx' x .any = True := by cases x <;> rfl
theorem leB_c {x y : CV} : leB r bx bx' (.c x) (.c y) = leC r bx bx' x y := by
 cases y with
 | p y => cases y with
  | any => cases x <;> rfl
  | _ => rfl
 | _ => rfl
theorem leB_agg {x y : List CV} : leB r bx bx' (.agg x) (.agg y) = leL r bx bx' x y := rfl
theorem leL_nil : leL r bx bx' [] [] = True := rfl
theorem leL_cons {x y : CV} {l l' : List CV} : leL r bx bx' (x :: l) (y :: l') = (leC r bx bx' x y ∧ leL r bx bx' l l') := rfl
theorem leC_any {x : CV} : leC r bx bx' x (.p .any) = True := by cases x <;> rfl
theorem leC_val {x : PV} {v : Value} : leC r bx bx' (.p x) (.p (.val v)) = (x = .val v ∨ PV.le x (.val v)) := rfl
theorem leC_lst {x : PV} {sz n : Nat} {f : Nat → Nat → PV} : leC r bx bx' (.p x) (.p (.lst sz n f)) = (x = .lst sz n f ∨ PV.le x (.lst sz n f)) := rfl
theorem leC_nil {x : PV} {i n : Nat} : leC r bx bx' (.p x) (.own i n) = (x = .val (.slice none 0 0) ∧ n = 0 ∧ r i = none) := rfl
theorem leC_ptr {i o i' o' : Nat} : leC r bx bx' (.ptr i o) (.ptr i' o') = (r i' = some i ∧ o = o') := rfl
theorem leC_pel {i s k o i' s' k' o' : Nat} : leC r bx bx' (.pel i s k o) (.pel i' s' k' o') = (r i' = some i ∧ s = s' ∧ k = k' ∧ o = o') := rfl
theorem leC_own {i n i' n' : Nat} : leC r bx bx' (.own i n) (.own i' n') = (r i' = some i ∧ n = n') := rfl
def noTo (r : Nat → Option Nat) (id : Nat) : List (Nat × Bx) → Prop
 | [] => True
 | (i, _) :: l => r i ≠ some id ∧ noTo r id l
theorem noTo_nil {id : Nat} : noTo r id [] = True := rfl
theorem noTo_cons {id i : Nat} {x : Bx} {l : List (Nat × Bx)} : noTo r id ((i, x) :: l) = (r i ≠ some id ∧ noTo r id l) := rfl
theorem noTo_spec {id : Nat} : ∀ {b : List (Nat × Bx)}, noTo r id b → ∀ id', bxOf b id' ≠ none → r id' ≠ some id
 | [], _, id', h => (h rfl).elim
 | (i, x) :: l, h, id', hb => by
  rw [bxOf_cons] at hb
  by_cases e : id' = i
  ·subst e; exact h.1
  ·rw [if_neg e] at hb; exact noTo_spec h.2 id' hb
theorem spec_noTo {id : Nat} : ∀ {b : List (Nat × Bx)}, (∀ id', bxOf b id' ≠ none → r id' ≠ some id) → noTo r id b
 | [], _ => trivial
 | (i, x) :: l, h => by
  refine ⟨h i (by rw [bxOf_cons, if_pos rfl]; simp), spec_noTo fun id' hb => ?_⟩
  refine h id' ?_
  rw [bxOf_cons]
  split
  ·simp
  ·exact hb
def froz (y : Option Bx) (n sz n' : Nat) (f' : Nat → Nat → PV) (p : Prop) : Prop := match y with
 | some (.arr _ s m f) => s = sz ∧ n = n' ∧ n ≤ m ∧ (∀ i, i < n → ∀ j, j < sz → PV.le (f i j) (f' i j)) ∧ p
 | _ => False
theorem leC_froz {i n sz n' : Nat} {f' : Nat → Nat → PV} {b : List (Nat × Bx)} : leC r bx (bxOf b) (.own i n) (.p (.lst sz n' f')) = froz (bx i) n sz n' f' (noTo r i b) := by
 apply propext
 unfold froz
 constructor
 ·rintro ⟨e, m, f, h1, h2, h3, h4, h5⟩
  rw [h1]
  exact ⟨rfl, h2, h3, h4, spec_noTo h5⟩
 ·intro h
  split at h
  ·rename_i hb
   obtain ⟨rfl, h2, h3, h4, h5⟩ := h
   exact ⟨_, _, _, hb, h2, h3, h4, noTo_spec h5⟩
  ·exact h.elim
theorem froz_some {e s m n sz n' : Nat} {f f' : Nat → Nat → PV} {p : Prop} : froz (some (.arr e s m f)) n sz n' f' p = (s = sz ∧ n = n' ∧ n ≤ m ∧ (∀ i, i < n → ∀ j, j < sz → PV.le (f i j) (f' i j)) ∧ p) := rfl
theorem leC_ipt {s o s' o' : Nat} {g g' : Nat → PV} : leC r bx bx' (.ipt s g o) (.ipt s' g' o') = (s = s' ∧ o = o' ∧ (g = g' ∨ ∀ j, j < s → PV.le (g j) (g' j))) := rfl
theorem leX_fix {l l' : List CV} : leX r bx bx' (.fix l) (.fix l') = leL r bx bx' l l' := rfl
theorem leX_arr {e s n e' s' n' : Nat} {f f' : Nat → Nat → PV} : leX r bx bx' (.arr e s n f) (.arr e' s' n' f') = (e = e' ∧ s = s' ∧ n = n' ∧ (f = f' ∨ ∀ i, i < n → ∀ j, j < s → PV.le (f i j) (f' i j))) := rfl
def leBy (bx bx' : Nat → Option Bx) (r : Nat → Option Nat) (y : Option Bx) (x : Bx) : Prop := match y with
 | some y => leX r bx bx' y x
 | none => False
def leBr (r : Nat → Option Nat) (bx bx' : Nat → Option Bx) (k : Option Nat) (x : Bx) : Prop := match k with
 | some k => leBy bx bx' r (bx k) x
 | none => match x with
  | .arr _ s n _ => n = 0 ∧ 0 < s
  | _ => False
theorem leBox_eq {i : Nat} {x : Bx} : leBox r bx bx' i x = leBr r bx bx' (r i) x := by
 unfold leBox leBr
 cases r i with
 | some k =>
  simp only [leBy]
  cases hk : bx k with
  | some y => simp
  | none => simp
 | none =>
  cases x with
  | fix => simp
  | arr e s n f =>
   simp only [Bx.arr.injEq]
   exact propext ⟨fun ⟨_, _, _, ⟨_, h1, h2, _⟩, h3⟩ => ⟨h2, h1 ▸ h3⟩, fun ⟨h1, h2⟩ => ⟨e, s, f, ⟨rfl, rfl, h1, rfl⟩, h2⟩⟩
theorem leBr_some {k : Nat} {x : Bx} : leBr r bx bx' (some k) x = leBy bx bx' r (bx k) x := rfl
theorem leBr_none {e s n : Nat} {f : Nat → Nat → PV} : leBr r bx bx' none (.arr e s n f) = (n = 0 ∧ 0 < s) := rfl
theorem leBy_some {y x : Bx} : leBy bx bx' r (some y) x = leX r bx bx' y x := rfl
end
theorem allLt_nil {nx : Nat} : (∀ x : BV, x ∈ ([] : List BV) → BV.lt nx x) = True := by simp
theorem allLt_cons {nx : Nat} {a : BV} {l : List BV} : (∀ x : BV, x ∈ a :: l → BV.lt nx x) = (BV.lt nx a ∧ ∀ x : BV, x ∈ l → BV.lt nx x) := by simp
attribute [go_sem] allLt_nil allLt_cons
attribute [go_sem] fr_ite bx_ite nx_ite ite_sb ite_c ite_agg ite_cons ite_p ite_val ite_int ite_bool ite_lst ite_own ite_some ite_fix ite_arr
attribute [go_sem ↓] ite_same
attribute [go_sem] fr_mkSt bx_mkSt nx_mkSt rOf_nil rOf_cons leFr_nil leFr_cons leBs_nil leBs_cons leS_b leS_any leB_c leB_agg leL_nil leL_cons leC_any leC_val leC_lst leC_nil leC_ptr leC_pel leC_own leC_froz froz_some noTo_nil noTo_cons leC_ipt leX_fix leX_arr leBox_eq leBr_some leBr_none leBy_some
end Go.SL
namespace Go.SL
open Go
section
variable {S : Env} {ops : Array Oper} {rest : List Oper} {st : St} {K : St → Prop} {d : Option Nat} {ty : TypeId} {pos : String} {af : Array Edge} {j : Nat} {want g : Bool} {op : Go.Op}
theorem rgs_split {nx : Nat} {K1 : SV → Prop} {y : Option (Prop × SV)} (x : BV) (hy : y = none) (hro : ro S st.bx (st.ev S) op = none) (hx : x.lt st.nx) (hg : guardV st ((ops[j]?).bind (·.dst)) want = some g)
  (h1 : g = true → opsP S ops (⟨d, op, ty, pos, af, none⟩ :: rest) st K) (h2 : g = false → opsP S ops rest (st.set d (.grd g x)) K) :
  rg (some g) nx y (Sl.of K1) (Sl.of (opsP S ops (⟨d, op, ty, pos, af, some (j, want)⟩ :: rest) st K)) := by
 have key : opsP S ops (⟨d, op, ty, pos, af, some (j, want)⟩ :: rest) st K := by
  simp only [opsP, opG, hg, hro]
  cases g with
  | true => exact .inl ⟨fun _ => by have := h1 rfl; simpa only [opsP, opG, opP, hro] using this, fun h => by cases h⟩
  | false => exact .inr ⟨x, hx, (fun h => by cases h), h2 rfl⟩
 subst hy
 exact key
variable {f : FuncId} {args args' : List BV} {c : Prop} {X : BV}
theorem gcall_lend (hg : g = true) (hc : c) (h : Pure S f args' (fun r => r = .b X)) (ha : argsLe (args.map (lendAB st.bx)) args') (hl : argsLt args') (hf : X.flat) (hk : K (st.set d (.b X))) (hp : S.rcv (f + 1000000) = false := by rfl) : rgm (some g) c S st f args d (Sl.of K) :=
 .inl ⟨fun _ => ⟨hc, .lend args' _ h ha (argsLt_mem hl) hf hk hp⟩, fun h => by rw [hg] at h; cases h⟩
theorem gcall_off (X : BV) (hg : g = false) (hx : X.lt st.nx) (hk : K (st.set d (.grd g X))) : rgm (some g) c S st f args d (Sl.of K) :=
 .inr ⟨X, hx, (fun h => by rw [hg] at h; cases h), hk⟩
end
theorem St.ite_t {s1 s2 : St} : St.ite true s1 s2 = s1 := rfl
theorem St.ite_f {s1 s2 : St} : St.ite false s1 s2 = s2 := rfl
section
variable {S : Env} {st : St} {f : FuncId} {K : SV → St → Prop} {Q : AExit → St → Prop}
theorem exit_by {P : St → Prop} {c : Code} (h : ∀ s, cw S c Q s → P s) (h2 : cw S c Q st) : P st := h _ h2
theorem cw_stepV {id : Nat} {l : List Oper} {y : Code} (h : ∀ K : St → Prop, (∀ s s', Le s s' → cw S y Q s' → K s) → opsP S l.toArray l st K) : cw S (.seq (.region id l.toArray false) y) Q st :=
 cw_stepW fun K _ hW => h K hW
theorem cw_ifT {c : Operand} {x y z : Code} {t : Bool} (hc : st.ev S c = .t t) (ht : t = true) (h : cw S (.seq x z) Q st) : cw S (.seq (.cond c x y) z) Q st := cw_if hc (fun _ => h) (fun h => by rw [ht] at h; cases h)
theorem cw_ifF {c : Operand} {x y z : Code} {t : Bool} (hc : st.ev S c = .t t) (ht : t = false) (h : cw S (.seq y z) Q st) : cw S (.seq (.cond c x y) z) Q st := cw_if hc (fun h => by rw [ht] at h; cases h) (fun _ => h)
theorem cw_condT {c : Operand} {x y : Code} {t : Bool} (hc : st.ev S c = .t t) (ht : t = true) (h : cw S x Q st) : cw S (.cond c x y) Q st := cw_cond hc (fun _ => h) (fun h => by rw [ht] at h; cases h)
theorem cw_condF {c : Operand} {x y : Code} {t : Bool} (hc : st.ev S c = .t t) (ht : t = false) (h : cw S y Q st) : cw S (.cond c x y) Q st := cw_cond hc (fun h => by rw [ht] at h; cases h) (fun _ => h)
end
def bAnd (k : IntKind) (a b : Int) : Int := k.wrap (BitVec.ofInt k.bits a &&& BitVec.ofInt k.bits b).toNat
def bOr (k : IntKind) (a b : Int) : Int := k.wrap (BitVec.ofInt k.bits a ||| BitVec.ofInt k.bits b).toNat
def bXor (k : IntKind) (a b : Int) : Int := k.wrap (BitVec.ofInt k.bits a ^^^ BitVec.ofInt k.bits b).toNat
theorem bAnd_eq {k : IntKind} {a b : Int} : k.wrap (BitVec.ofInt k.bits a &&& BitVec.ofInt k.bits b).toNat = bAnd k a b := rfl
theorem bOr_eq {k : IntKind} {a b : Int} : k.wrap (BitVec.ofInt k.bits a ||| BitVec.ofInt k.bits b).toNat = bOr k a b := rfl
theorem bXor_eq {k : IntKind} {a b : Int} : k.wrap (BitVec.ofInt k.bits a ^^^ BitVec.ofInt k.bits b).toNat = bXor k a b := rfl
attribute [go_sem ↓] bAnd_eq bOr_eq bXor_eq
theorem ite_fn2 {p : Prop} [Decidable p] {f g : Nat → Nat → PV} {i j : Nat} : (if p then f else g) i j = if p then f i j else g i j := by split <;> rfl
attribute [go_sem] ite_fn2
end Go.SL
