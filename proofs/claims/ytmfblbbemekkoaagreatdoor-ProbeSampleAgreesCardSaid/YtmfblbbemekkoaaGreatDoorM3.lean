/- Part of the proof: SlN, SlO, SlQ, SlR. -/
import Derived.Test.YtmfblbbemekkoaaGreatDoorM2
set_option linter.unusedSimpArgs false
namespace Go.SL
open Go
structure Sl {α:Type} (x:α):Type where
def Sl.of {α:Type} (x:α):Sl x:=⟨⟩
def rk (x:Option (Prop × SV)) (c:Prop) {K:SV→Prop} (_:Sl K):Prop :=
 match x with
 | some (vc,r)=>c∧vc∧K r
 | none=>False
theorem Km {vc c:Prop} {r:SV} {K:SV→Prop}:rk (some (vc,r)) c (Sl.of K)=(c∧vc∧K r):=rfl
def rg (g:Option Bool) (nx:Nat) (x:Option (Prop × SV)) {K:SV→Prop} (_:Sl K) {p:Prop} (_:Sl p):Prop :=
 match g,x with
 | some g,some (vc, .b r)=>r.lt nx∧(g=true→vc)∧K (.grd g r)
 | some g,some (vc, .grd q r)=>r.lt nx∧(g=true→vc∧q=true)∧K (.grd g r)
 | _,_=>p
theorem NI {vc:Prop} {r:BV} {K:SV→Prop} {g u:Bool} {nx:Nat} {p:Prop} {q:Sl p}:rg (some g) nx (some (vc, .grd u r)) (Sl.of K) q=(r.lt nx∧(g=true→vc∧u=true)∧K (.grd g r)):=rfl
theorem Jp {vc:Prop} {r:BV} {K:SV→Prop} {g:Bool} {nx:Nat} {p:Prop} {q:Sl p}:rg (some g) nx (some (vc, .b r)) (Sl.of K) q=(r.lt nx∧(g=true→vc)∧K (.grd g r)):=rfl
def rc (x:Option (Prop × SV)) (c:Prop):Option (Prop × SV) :=
 match x with
 | some (vc,r)=>some (c∧vc,r)
 | none=>none
theorem IC {vc c:Prop} {r:SV}:rc (some (vc,r)) c=some (c∧vc,r):=rfl
def du (S:Env) (st:St) (f:FuncId) (args:List BV) {K:SV→St→Prop} (_:Sl K):Prop:=CallP S st f args K
def NP (g:Option Bool) (c:Prop) (S:Env) (st:St) (f:FuncId) (args:List BV) (d:Option Nat) {K:St→Prop} (_:Sl K):Prop :=
 match g with
 | some g => ((g = true → c ∧ CallP S st f args fun r st' => K (st'.set d r)) ∧ (g = false → K (st.set d .any))) ∨
   ∃ x:BV,x.lt st.nx∧(g=true→c∧CallP S st f args fun r st'=>st'.set d r=st.set d (.b x))∧K (st.set d (.grd g x))
 | none=>False
section
variable {S:Env} {ops:Array Oper} {rest:List Oper} {st:St} {K:St→Prop} {d:Option Nat} {ty:TypeId} {pos:String} {af:Array Edge} {gd:Nat × Bool}
theorem Ro:aY S ops [] st K=K st:=rfl
theorem NV {x:Operand}:aY S ops (⟨d, .move x,ty,pos,af,none⟩ :: rest) st K=aY S ops rest (st.set d (st.ev S x)) K:=by
 simp [aY,fe,jE,ro]
theorem HI {x:Operand}:aY S ops (⟨d, .assign x,ty,pos,af,none⟩ :: rest) st K=aY S ops rest (st.set d (st.ev S x)) K:=by
 simp [aY,fe,jE,ro]
theorem Nl {c x y:Operand}:aY S ops (⟨d, .pick c x y,ty,pos,af,none⟩ :: rest) st K=rk (qn (st.ev S c) (st.ev S x) (st.ev S y)) True (Sl.of fun r=>aY S ops rest (st.set d r) K):=by
 simp only [aY,fe,jE,ro,rk]
 split
 ·rename_i h;simp only [h];simp
 ·rename_i h;simp only [h];simp [dt]
theorem cW {o : Oper} {K' : St → Prop} (hr : ∀ x, o.op ≠ .move x) (ha : ∀ x, o.op ≠ .assign x) (hp : ∀ c x y, o.op ≠ .pick c x y) (hM : ∀ K, dt S st (st.ev S) o.op K = False) :
  jE S st o K'=rk (bc S st.bx (st.ev S) o.op) (aP (o.op.operands.toList.map (st.ev S))) (Sl.of fun r=>K' (st.set o.dst r)):=by
 unfold jE ro
 split
 ·rename_i h
  split at h
  ·rename_i x hx;exact absurd hx (hr x)
  ·rename_i x hx;exact absurd hx (ha x)
  ·rename_i c x y hx;exact absurd hx (hp c x y)
  ·split at h
   ·rename_i h2
    simp only [Option.some.injEq,Prod.mk.injEq] at h
    obtain ⟨rfl,rfl⟩:=h
    rw [h2]
    simp only [rk,and_assoc]
   ·simp at h
 ·rename_i h
  split at h
  ·simp at h
  ·simp at h
  ·rename_i c x y hx;exact absurd hx (hp c x y)
  ·split at h
   ·simp at h
   ·rename_i h2
    rw [h2,hM]
    simp only [rk,and_false]
def iH (S:Env) (t:TypeId) (f:Nat) (x:SV):Option (Prop × SV) :=
 match S.fld t f with
 | some (off,sz,_)=>(mM off x).map fun y=>(sz≠0,y)
 | none=>none
def kX (i:Nat):SV→Option (Prop × SV)
 | .tup vs=>some (i<vs.length, .b (vs.getD i .any))
 | _=>none
def zT:SV→Option (Prop × SV)
 | .b (.c (.ptr id off))=>some (True, .b (.c (.ptr id off)))
 | .b (.c (.pel id sz i off))=>some (True, .b (.c (.pel id sz i off)))
 | .b (.c (.ipt sz g off))=>some (True, .b (.c (.ipt sz g off)))
 | _=>none
def HL:SV→SV→Option (Prop × SV)
 | .b (.c (.p (.val (.int k a)))), .b (.c (.p (.val (.int k' b))))=>some (k=k', .v (.int k (if b<a then b else a)))
 | _,_=>none
def HC:SV→SV→Option (Prop × SV)
 | .b (.c (.p (.val (.int k a)))), .b (.c (.p (.val (.int k' b))))=>some (k=k', .v (.int k (if b>a then b else a)))
 | _,_=>none
theorem OC {t:TypeId} {x:Operand}:aY S ops (⟨d, .load t x,ty,pos,af,none⟩ :: rest) st K=rk (dp S t st.bx (st.ev S x).strip) (st.ev S x).cond (Sl.of fun r=>aY S ops rest (st.set d r) K):=by
 simp only [aY,fe]
 rw [cW (by simp) (by simp) (by simp) (fun _=>rfl)]
 simp [bc,Op.operands,aP]
theorem zR {t : TypeId} {x : Operand} {f : Nat} : aY S ops (⟨d, .fieldAddr t x f, ty, pos, af, none⟩ :: rest) st K =
  rk (iH S t f (st.ev S x).strip) (st.ev S x).cond (Sl.of fun r=>aY S ops rest (st.set d r) K):=by
 simp only [aY,fe]
 rw [cW (by simp) (by simp) (by simp) (fun _=>rfl),show bc S st.bx (st.ev S) (.fieldAddr t x f)=iH S t f (st.ev S x).strip from rfl]
 simp [Op.operands,aP]
theorem Ks {t:TypeId} {x:Operand} {f:Nat}:aY S ops (⟨d, .field t x f,ty,pos,af,none⟩ :: rest) st K=rk (ny S t f (st.ev S x).strip) (st.ev S x).cond (Sl.of fun r=>aY S ops rest (st.set d r) K):=by
 simp only [aY,fe]
 rw [cW (by simp) (by simp) (by simp) (fun _=>rfl)]
 simp [bc,Op.operands,aP]
theorem zH {t : TypeId} {x i : Operand} : aY S ops (⟨d, .indexAddr t x i, ty, pos, af, none⟩ :: rest) st K =
  rk (gy S t (st.ev S x).strip (st.ev S i).strip) ((st.ev S x).cond∧(st.ev S i).cond) (Sl.of fun r=>aY S ops rest (st.set d r) K):=by
 simp only [aY,fe]
 rw [cW (by simp) (by simp) (by simp) (fun _=>rfl)]
 simp [bc,Op.operands,aP]
theorem Li {t : TypeId} {x i : Operand} : aY S ops (⟨d, .index t x i, ty, pos, af, none⟩ :: rest) st K =
  rk (nf S t (st.ev S x).strip (st.ev S i).strip) ((st.ev S x).cond∧(st.ev S i).cond) (Sl.of fun r=>aY S ops rest (st.set d r) K):=by
 simp only [aY,fe]
 rw [cW (by simp) (by simp) (by simp) (fun _=>rfl)]
 simp [bc,Op.operands,aP]
theorem Ey {x : Operand} {i : Nat} : aY S ops (⟨d, .extract x i, ty, pos, af, none⟩ :: rest) st K =
  rk (kX i (st.ev S x).strip) (st.ev S x).cond (Sl.of fun r=>aY S ops rest (st.set d r) K):=by
 simp only [aY,fe]
 rw [cW (by simp) (by simp) (by simp) (fun _=>rfl),show bc S st.bx (st.ev S) (.extract x i)=kX i (st.ev S x).strip from rfl]
 simp [Op.operands,aP]
theorem Qc {op : BinOp} {t yt : TypeId} {x y : Operand} : aY S ops (⟨d, .binOp op t x y yt, ty, pos, af, none⟩ :: rest) st K =
  rk (wR S op t (st.ev S x).strip (st.ev S y).strip) ((st.ev S x).cond∧(st.ev S y).cond) (Sl.of fun r=>aY S ops rest (st.set d r) K):=by
 simp only [aY,fe]
 rw [cW (by simp) (by simp) (by simp) (fun _=>rfl)]
 simp [bc,Op.operands,aP]
theorem SF {op : UnOp} {t : TypeId} {x : Operand} : aY S ops (⟨d, .unOp op t x, ty, pos, af, none⟩ :: rest) st K =
  rk (EC op (st.ev S x).strip) (st.ev S x).cond (Sl.of fun r=>aY S ops rest (st.set d r) K):=by
 simp only [aY,fe]
 rw [cW (by simp) (by simp) (by simp) (fun _=>rfl)]
 simp [bc,Op.operands,aP]
theorem Oz {s t : TypeId} {x : Operand} : aY S ops (⟨d, .convert s t x, ty, pos, af, none⟩ :: rest) st K =
  rk (qA S s t (st.ev S x).strip) (st.ev S x).cond (Sl.of fun r=>aY S ops rest (st.set d r) K):=by
 simp only [aY,fe]
 rw [cW (by simp) (by simp) (by simp) (fun _=>rfl)]
 simp [bc,Op.operands,aP]
def zj (S:Env) (st:St):Option Operand→Prop
 | none=>True
 | some x=>(st.ev S x).cond
theorem JS {t : TypeId} {x : Operand} {lo hi : Option Operand} : aY S ops (⟨d, .slice t x lo hi none, ty, pos, af, none⟩ :: rest) st K =
  rk (oB S t (st.ev S x).strip (lo.map fun x=>(st.ev S x).strip) (hi.map fun x=>(st.ev S x).strip)) ((st.ev S x).cond∧zj S st lo∧zj S st hi) (Sl.of fun r=>aY S ops rest (st.set d r) K):=by
 simp only [aY,fe]
 rw [cW (by simp) (by simp) (by simp) (fun _=>rfl)]
 cases lo <;> cases hi <;> simp [bc,Op.operands,aP,zj]
theorem Bv {x : Operand} : aY S ops (⟨d, .nilCheck x, ty, pos, af, none⟩ :: rest) st K =
  rk (zT (st.ev S x).strip) (st.ev S x).cond (Sl.of fun r=>aY S ops rest (st.set d r) K):=by
 simp only [aY,fe]
 rw [cW (by simp) (by simp) (by simp) (fun _=>rfl),show bc S st.bx (st.ev S) (.nilCheck x)=zT (st.ev S x).strip from rfl]
 simp [Op.operands,aP]
theorem Rb {x : Operand} {t : TypeId} : aY S ops (⟨d, .call ⟨.builtin .len, #[x], #[t]⟩, ty, pos, af, none⟩ :: rest) st K =
  rk (wH S t (st.ev S x).strip) (st.ev S x).cond (Sl.of fun r=>aY S ops rest (st.set d r) K):=by
 simp only [aY,fe]
 rw [cW (by simp) (by simp) (by simp) (fun _=>by simp [dt])]
 simp [bc,Op.operands,Call.operands,aP]
theorem QI {x y : Operand} {ts : Array TypeId} : aY S ops (⟨d, .call ⟨.builtin .min, #[x, y], ts⟩, ty, pos, af, none⟩ :: rest) st K =
  rk (HL (st.ev S x).strip (st.ev S y).strip) ((st.ev S x).cond∧(st.ev S y).cond) (Sl.of fun r=>aY S ops rest (st.set d r) K):=by
 simp only [aY,fe]
 rw [cW (by simp) (by simp) (by simp) (fun _=>by simp [dt]),show bc S st.bx (st.ev S) (.call ⟨.builtin .min, #[x,y],ts⟩)=HL (st.ev S x).strip (st.ev S y).strip from rfl]
 simp [Op.operands,Call.operands,aP]
theorem Re {x y : Operand} {ts : Array TypeId} : aY S ops (⟨d, .call ⟨.builtin .max, #[x, y], ts⟩, ty, pos, af, none⟩ :: rest) st K =
  rk (HC (st.ev S x).strip (st.ev S y).strip) ((st.ev S x).cond∧(st.ev S y).cond) (Sl.of fun r=>aY S ops rest (st.set d r) K):=by
 simp only [aY,fe]
 rw [cW (by simp) (by simp) (by simp) (fun _=>by simp [dt]),show bc S st.bx (st.ev S) (.call ⟨.builtin .max, #[x,y],ts⟩)=HC (st.ev S x).strip (st.ev S y).strip from rfl]
 simp [Op.operands,Call.operands,aP]
def mk (x:Option (Prop × SV × St)) {K:SV→St→Prop} (_:Sl K):Prop :=
 match x with
 | some (vc,r,s)=>vc∧K r s
 | none=>False
theorem Jg {vc:Prop} {r:SV} {s:St} {K:SV→St→Prop}:mk (some (vc,r,s)) (Sl.of K)=(vc∧K r s):=rfl
def xR (S:Env) (st:St) (t:TypeId):Option (Prop × SV × St) :=
 match S.zero t with
 | some z=>some (True, .b (.c (.ptr st.nx 0)),st.newBox (.fix (z.map CV.ofV)))
 | none=>none
def JV (st:St) (x:SV):Option (Prop × SV × St) :=
 match x with
 | .b v=>some (v.one, .b (.c (.ptr st.nx 0)),st.newBox (.fix v.cells))
 | _=>none
def oi (S:Env) (st:St) (t:TypeId) (ps:List (Nat × Operand)):Option (Prop × SV × St) :=
 match S.bld t,S.zero t with
 | some pl,some z=>match gu (nw pl) (st.ev S) ps (z.map CV.ofV) with
  | some (vc,cs)=>some (vc, .b (.agg cs),st)
  | none=>none
 | _,_=>none
def kB (S:Env) (st:St) (t:TypeId) (len:Nat) (ps:List (Nat × Operand)):Option (Prop × SV × St) :=
 match S.el t with
 | some (none,e,s,_)=>match S.zero e with
  | some z=>match gu (fun i=>some (i * s,s)) (st.ev S) ps ((List.range (len * s)).map fun i=>CV.ofV (z.getD (i % z.length) undef)) with
   | some (vc,cs)=>some (vc∧0<s∧z.length=s∧len * s≤16777216∧0≤len, .b (.c (.own st.nx len)),st.newBox (.arr e s len fun i j=>(cs.getD (i * s+j) .any).toP))
   | none=>none
  | none=>none
 | _=>none
def ye (S:Env) (st:St) (t:TypeId) (p x:SV):Option (Prop × SV × St) :=
 match p,x,S.ti t with
 | .b (.c (.ptr id off)), .b v,some (sz,_)=>match st.bx id with
  | some (.fix cs)=>some (v.cells.length=sz∧off+sz≤cs.length∧v.one, .any,st.setBox id (.fix (jF cs off v.cells)))
  | _=>none
 | .b (.c (.pel id s i off)), .b v,some (sz,_)=>match st.bx id with
  | some (.arr e s' n f) => some (s = s' ∧ i < n ∧ off + sz ≤ s ∧ v.cells.length = sz ∧ v.one ∧ v.lt 0, .any,
    st.setBox id (.arr e s' n fun i' j=>if i'=i then (if off≤j∧j<off+sz then (v.cells.getD (j - off) .any).toP else f i j) else f i' j))
  | _=>none
 | _,_,_=>none
def Env.byt (S:Env) (e:TypeId):Option Nat:=(S.P.info? e).map (·.bytes)
def Ci (S:Env) (st:St) (t:TypeId) (l c:SV):Option (Prop × SV × St) :=
 match l,c,S.el t with
 | .b (.c (.p (.val (.int _ l)))), .b (.c (.p (.val (.int _ c)))),some (none,e,s,_)=>match S.zero e,S.byt e with
  | some z, some by' => some (0 ≤ l ∧ l ≤ c ∧ (by' : Int) * c ≤ 281474976710656 ∧ c ≤ 9223372036854775807 ∧ 0 < s ∧ z.length = s,
    .b (.c (.own st.nx l.toNat)),st.newBox (.arr e s l.toNat fun _ j => .val (z.getD j undef)))
  | _,_=>none
 | _,_,_=>none
def sv (S:Env) (st:St) (t t':TypeId) (x y:SV):Option (Prop × SV × St) :=
 match S.el t,rJ st.bx y with
 | some (none,e,s,_),some (vc,sz,m,g)=>match S.byt e,S.zero e,x with
  | some by',some z, .b (.c (.p (.val (.slice none 0 0)))) =>
   some (vc∧t=t'∧(sz=s∨m=0)∧0<s∧z.length=s∧m * by'≤140737488355328∧m≤maxLen, .b (.c (.own st.nx m)),st.newBox (.arr e s m g))
  | some by',some z, .b (.c (.own id n))=>match st.bx id with
   | some (.arr e' s' n' f) =>
    some (vc∧t=t'∧e=e'∧s=s'∧n≤n'∧(sz=s∨m=0)∧0<s∧z.length=s∧(n+m) * by'≤140737488355328∧n+m≤maxLen,
     .b (.c (.own st.nx (n+m))),(st.delBox id).newBox (.arr e s (n+m) (fX n f g)))
   | _=>none
  | _,_,_=>none
 | _,_=>none
def CH (S:Env) (st:St) (t:TypeId) (x y:SV):Option (Prop × SV × St) :=
 match S.el t,x,y with
 | some (none,_,s,_), .b (.c (.sub id s1 lo n)), .b (.c (.p (.lst sz m g)))=>match st.bx id with
  | some (.arr e' s2 n' f)=>some (s1=s∧s2=s∧sz=s∧n≤m∧lo+n≤n'∧0<n, .b (.c (.p (.val (.int .i64 n)))),st.setBox id (.arr e' s2 n' fun i j=>if lo≤i∧i<lo+n then g (i - lo) j else f i j))
  | _=>none
 | _,_,_=>none
theorem KV {t t':TypeId} {x y:Operand} {K:SV→St→Prop}:dt S st (st.ev S) (.call ⟨.builtin .copy, #[x,y], #[t,t']⟩) K=mk (CH S st t (st.ev S x).strip (st.ev S y).strip) (Sl.of K):=by
 simp only [dt,CH]
 split
 ·split <;> simp_all [mk]
 ·simp_all [mk]
theorem Ih {t:TypeId} {K:SV→St→Prop}:dt S st (st.ev S) (.alloc t) K=mk (xR S st t) (Sl.of K):=by
 simp only [dt,xR];split <;> simp_all [mk]
theorem MO {t:TypeId} {x:Operand} {K:SV→St→Prop}:dt S st (st.ev S) (.box t x) K=mk (JV st (st.ev S x).strip) (Sl.of K):=by
 simp only [dt,JV];split <;> simp_all [mk]
theorem zm {t:TypeId} {ps:Array (Nat × Operand)} {K:SV→St→Prop}:dt S st (st.ev S) (.build t ps) K=mk (oi S st t ps.toList) (Sl.of K):=by
 simp only [dt,oi]
 split
 ·split <;> simp_all [mk]
 ·simp_all [mk]
theorem vw {t:TypeId} {n:Nat} {ps:Array (Nat × Operand)} {K:SV→St→Prop}:dt S st (st.ev S) (.buildSlice t n ps) K=mk (kB S st t n ps.toList) (Sl.of K):=by
 simp only [dt,kB]
 split
 ·split
  ·split <;> simp_all [mk]
  ·simp_all [mk]
 ·simp_all [mk]
theorem HB {t:TypeId} {p x:Operand} {K:SV→St→Prop}:dt S st (st.ev S) (.store t p x) K=mk (ye S st t (st.ev S p).strip (st.ev S x).strip) (Sl.of K):=by
 simp only [dt,ye]
 split
 ·split <;> simp_all [mk]
 ·split <;> simp_all [mk]
 ·simp_all [mk]
theorem JN {t:TypeId} {l c:Operand} {K:SV→St→Prop}:dt S st (st.ev S) (.makeSlice t l c) K=mk (Ci S st t (st.ev S l).strip (st.ev S c).strip) (Sl.of K):=by
 simp only [dt,Ci,Env.byt]
 split
 ·rename_i e s _ _ _ _
  cases hz:S.zero e with
  | none=>simp_all [mk]
  | some z =>
   cases hi:S.P.info? e with
   | none=>simp_all [mk]
   | some i=>simp_all [mk]
 ·simp_all [mk]
theorem Eo {t t':TypeId} {x y:Operand} {K:SV→St→Prop}:dt S st (st.ev S) (.call ⟨.builtin .append, #[x,y], #[t,t']⟩) K=mk (sv S st t t' (st.ev S x).strip (st.ev S y).strip) (Sl.of K):=by
 simp only [dt,sv,Env.byt]
 split
 ·rename_i e s ag vc sz m g _ _
  cases hi:S.P.info? e with
  | none=>simp_all [mk]
  | some i =>
   cases hz:S.zero e with
   | none=>simp_all [mk]
   | some z =>
    simp only [*,Option.map_some]
    split
    ·simp_all [mk]
    ·split <;> simp_all [mk]
    ·simp_all [mk]
 ·simp_all [mk]
theorem rS {o:Oper} {K':St→Prop} (hro:ro S st.bx (st.ev S) o.op=none):jE S st o K'=(aP (o.op.operands.toList.map (st.ev S))∧dt S st (st.ev S) o.op fun r st'=>K' (st'.set o.dst r)):=by
 unfold jE;rw [hro]
theorem KG {t : TypeId} : aY S ops (⟨d, .alloc t, ty, pos, af, none⟩ :: rest) st K =
  mk (xR S st t) (Sl.of fun r st'=>aY S ops rest (st'.set d r) K):=by
 simp only [aY,fe];rw [rS rfl,Ih];simp [Op.operands,aP]
theorem Qj {t : TypeId} {x : Operand} : aY S ops (⟨d, .box t x, ty, pos, af, none⟩ :: rest) st K =
  ((st.ev S x).cond∧mk (JV st (st.ev S x).strip) (Sl.of fun r st'=>aY S ops rest (st'.set d r) K)):=by
 simp only [aY,fe];rw [rS rfl,MO];simp [Op.operands,aP]
theorem KS {t : TypeId} {ps : Array (Nat × Operand)} : aY S ops (⟨d, .build t ps, ty, pos, af, none⟩ :: rest) st K =
  (aP (ps.toList.map fun p=>st.ev S p.2)∧mk (oi S st t ps.toList) (Sl.of fun r st'=>aY S ops rest (st'.set d r) K)):=by
 simp only [aY,fe];rw [rS rfl,zm];simp [Op.operands];exact fun _=>Iff.rfl
theorem xl {t : TypeId} {n : Nat} {ps : Array (Nat × Operand)} : aY S ops (⟨d, .buildSlice t n ps, ty, pos, af, none⟩ :: rest) st K =
  (aP (ps.toList.map fun p=>st.ev S p.2)∧mk (kB S st t n ps.toList) (Sl.of fun r st'=>aY S ops rest (st'.set d r) K)):=by
 simp only [aY,fe];rw [rS rfl,vw];simp [Op.operands];exact fun _=>Iff.rfl
theorem Kg {t : TypeId} {x y : Operand} : aY S ops (⟨d, .store t x y, ty, pos, af, none⟩ :: rest) st K =
  (((st.ev S x).cond∧(st.ev S y).cond)∧mk (ye S st t (st.ev S x).strip (st.ev S y).strip) (Sl.of fun r st'=>aY S ops rest (st'.set d r) K)):=by
 simp only [aY,fe];rw [rS rfl,HB];simp [Op.operands,aP]
theorem Pc {t : TypeId} {x y : Operand} : aY S ops (⟨d, .makeSlice t x y, ty, pos, af, none⟩ :: rest) st K =
  (((st.ev S x).cond∧(st.ev S y).cond)∧mk (Ci S st t (st.ev S x).strip (st.ev S y).strip) (Sl.of fun r st'=>aY S ops rest (st'.set d r) K)):=by
 simp only [aY,fe];rw [rS rfl,JN];simp [Op.operands,aP]
theorem Ft {x y : Operand} {t t' : TypeId} : aY S ops (⟨d, .call ⟨.builtin .append, #[x, y], #[t, t']⟩, ty, pos, af, none⟩ :: rest) st K =
  (((st.ev S x).cond∧(st.ev S y).cond)∧mk (sv S st t t' (st.ev S x).strip (st.ev S y).strip) (Sl.of fun r st'=>aY S ops rest (st'.set d r) K)):=by
 simp only [aY,fe];rw [rS rfl,Eo];simp [Op.operands,Call.operands,aP]
theorem Mj {x y : Operand} {t t' : TypeId} : aY S ops (⟨d, .call ⟨.builtin .copy, #[x, y], #[t, t']⟩, ty, pos, af, none⟩ :: rest) st K =
  (((st.ev S x).cond∧(st.ev S y).cond)∧mk (CH S st t (st.ev S x).strip (st.ev S y).strip) (Sl.of fun r st'=>aY S ops rest (st'.set d r) K)):=by
 simp only [aY,fe];rw [rS rfl,KV];simp [Op.operands,Call.operands,aP]
theorem Pm {f : FuncId} {args : Array Operand} {ts : Array TypeId} : aY S ops (⟨d, .call ⟨.value (.func f), args, ts⟩, ty, pos, af, none⟩ :: rest) st K =
  (aP (args.toList.map (st.ev S))∧du S st f (args.toList.map fun x=>dM (st.ev S x)) (Sl.of fun r st'=>aY S ops rest (st'.set d r) K)):=by
 simp only [aY,fe]
 rw [rS (by simp [ro,bc])]
 simp [Op.operands,Call.operands,aP,dt,St.ev,SV.cond,du]
end
section
variable {S:Env} {ops:Array Oper} {rest:List Oper} {st:St} {K:St→Prop} {d:Option Nat} {ty:TypeId} {pos:String} {af:Array Edge} {j:Nat} {want:Bool} {bx:Nat→Option Bx} {ev:Operand→SV}
theorem gR {op:Op} (hr:∀ x,op ≠ .move x) (ha:∀ x,op ≠ .assign x) (hp:∀ c x y,op ≠ .pick c x y):ro S bx ev op=rc (bc S bx ev op) (aP (op.operands.toList.map ev)):=by
 unfold ro rc
 split
 ·rename_i x;exact absurd rfl (hr x)
 ·rename_i x;exact absurd rfl (ha x)
 ·rename_i c x y;exact absurd rfl (hp c x y)
 ·rfl
theorem JM {x:Operand}:ro S bx ev (.move x)=some (True,ev x):=rfl
theorem Dh {x:Operand}:ro S bx ev (.assign x)=some (True,ev x):=rfl
theorem Ke {c x y:Operand}:ro S bx ev (.pick c x y)=qn (ev c) (ev x) (ev y):=rfl
theorem nA {t:TypeId} {x:Operand}:ro S bx ev (.load t x)=rc (dp S t bx (ev x).strip) (ev x).cond:=by
 rw [gR (by simp) (by simp) (by simp)];simp [bc,Op.operands,aP]
theorem yc {t:TypeId} {x:Operand} {f:Nat}:ro S bx ev (.fieldAddr t x f)=rc (iH S t f (ev x).strip) (ev x).cond:=by
 rw [gR (by simp) (by simp) (by simp)];simp [bc,iH,Op.operands,aP];rfl
theorem GC {t:TypeId} {x:Operand} {f:Nat}:ro S bx ev (.field t x f)=rc (ny S t f (ev x).strip) (ev x).cond:=by
 rw [gR (by simp) (by simp) (by simp)];simp [bc,Op.operands,aP]
theorem xt {t:TypeId} {x i:Operand}:ro S bx ev (.indexAddr t x i)=rc (gy S t (ev x).strip (ev i).strip) ((ev x).cond∧(ev i).cond):=by
 rw [gR (by simp) (by simp) (by simp)];simp [bc,Op.operands,aP]
theorem GG {t:TypeId} {x i:Operand}:ro S bx ev (.index t x i)=rc (nf S t (ev x).strip (ev i).strip) ((ev x).cond∧(ev i).cond):=by
 rw [gR (by simp) (by simp) (by simp)];simp [bc,Op.operands,aP]
theorem BY {x:Operand} {i:Nat}:ro S bx ev (.extract x i)=rc (kX i (ev x).strip) (ev x).cond:=by
 rw [gR (by simp) (by simp) (by simp)];simp [bc,kX,Op.operands,aP];rfl
theorem MH {op:BinOp} {t yt:TypeId} {x y:Operand}:ro S bx ev (.binOp op t x y yt)=rc (wR S op t (ev x).strip (ev y).strip) ((ev x).cond∧(ev y).cond):=by
 rw [gR (by simp) (by simp) (by simp)];simp [bc,Op.operands,aP]
theorem QW {op:UnOp} {t:TypeId} {x:Operand}:ro S bx ev (.unOp op t x)=rc (EC op (ev x).strip) (ev x).cond:=by
 rw [gR (by simp) (by simp) (by simp)];simp [bc,Op.operands,aP]
theorem KO {s t:TypeId} {x:Operand}:ro S bx ev (.convert s t x)=rc (qA S s t (ev x).strip) (ev x).cond:=by
 rw [gR (by simp) (by simp) (by simp)];simp [bc,Op.operands,aP]
theorem Ab {x:Operand}:ro S bx ev (.nilCheck x)=rc (zT (ev x).strip) (ev x).cond:=by
 rw [gR (by simp) (by simp) (by simp)];simp [bc,zT,Op.operands,aP];rfl
theorem Ph {x:Operand} {t:TypeId}:ro S bx ev (.call ⟨.builtin .len, #[x], #[t]⟩)=rc (wH S t (ev x).strip) (ev x).cond:=by
 rw [gR (by simp) (by simp) (by simp)];simp [bc,Op.operands,Call.operands,aP]
theorem RE {op : Op} : aY S ops (⟨d, op, ty, pos, af, some (j, want)⟩ :: rest) st K =
  rg (iX st ((ops[j]?).bind (·.dst)) want) st.nx (ro S st.bx (st.ev S) op) (Sl.of fun r=>aY S ops rest (st.set d r) K) (Sl.of (aY S ops (⟨d,op,ty,pos,af,some (j,want)⟩ :: rest) st K)):=by
 unfold rg
 split
 ·rename_i g vc r h1 h2
  simp only [aY,fe]
  rw [h1]
  simp only [h2]
 ·rename_i g vc u r h1 h2
  simp only [aY,fe]
  rw [h1]
  simp only [h2]
 ·rfl
theorem Pg {f : FuncId} {args : Array Operand} {ts : Array TypeId} : aY S ops (⟨d, .call ⟨.value (.func f), args, ts⟩, ty, pos, af, some (j, want)⟩ :: rest) st K =
  NP (iX st ((ops[j]?).bind (·.dst)) want) (aP (args.toList.map (st.ev S))) S st f (args.toList.map fun x=>dM (st.ev S x)) d (Sl.of fun st'=>aY S ops rest st' K):=by
 simp only [aY,fe]
 cases iX st ((ops[j]?).bind (·.dst)) want with
 | none=>rfl
 | some g =>
  simp only [NP]
  rw [show ro S st.bx (st.ev S) (.call ⟨.value (.func f),args,ts⟩)=none by simp [ro,bc]]
  have hm : ∀ K' : St → Prop, jE S st ⟨d, .call ⟨.value (.func f), args, ts⟩, ty, pos, af, some (j, want)⟩ K' =
    (aP (args.toList.map (st.ev S))∧CallP S st f (args.toList.map fun x=>dM (st.ev S x)) fun r st'=>K' (st'.set d r)):=fun K'=>by
   rw [rS (by simp [ro,bc])]
   simp [Op.operands,Call.operands,aP,dt,St.ev,SV.cond]
  simp only [hm]
end
def Rz (g:Option Bool) (nx:Nat) (x:Option (Prop × SV × St)) (c:Prop) {K:SV→Prop} (_:Sl K) {p:Prop} (_:Sl p):Prop :=
 match g,x with
 | some g,some (vc, .b r,_)=>(r.lt nx∧(g=true→c∧vc)∧K (.grd g r))∨p
 | _,_=>p
theorem Fj {vc c:Prop} {r:BV} {K:SV→Prop} {g:Bool} {nx:Nat} {p:Prop} {q:Sl p} {s:St} (h:r.lt nx∧(g=true→c∧vc)∧K (.grd g r)):Rz (some g) nx (some (vc, .b r,s)) c (Sl.of K) q := .inl h
section
variable {S:Env} {ops:Array Oper} {rest:List Oper} {st:St} {K:St→Prop} {d:Option Nat} {ty:TypeId} {pos:String} {af:Array Edge} {j:Nat} {want:Bool}
theorem Eh {t:TypeId} {ps:List (Nat × Operand)} {vc:Prop} {r:SV} {s:St} (h:oi S st t ps=some (vc,r,s)):s=st:=by
 unfold oi at h
 split at h
 ·split at h
  ·simp only [Option.some.injEq,Prod.mk.injEq] at h;exact h.2.2.symm
  ·cases h
 ·cases h
theorem Js {t : TypeId} {ps : Array (Nat × Operand)} : aY S ops (⟨d, .build t ps, ty, pos, af, some (j, want)⟩ :: rest) st K =
  Rz (iX st ((ops[j]?).bind (·.dst)) want) st.nx (oi S st t ps.toList) (aP (ps.toList.map fun p=>st.ev S p.2)) (Sl.of fun r=>aY S ops rest (st.set d r) K) (Sl.of (aY S ops (⟨d, .build t ps,ty,pos,af,some (j,want)⟩ :: rest) st K)):=by
 unfold Rz
 split
 ·rename_i g vc r s h1 h2
  have hs:=Eh h2
  subst hs
  refine propext ⟨fun h => .inr h,fun h => ?_⟩
  rcases h with h|h
  ·simp only [aY,fe]
   rw [h1]
   have hro:ro S s.bx (s.ev S) (.build t ps)=none:=rfl
   simp only [hro]
   refine .inr ⟨r,h.1,fun hg => ?_,h.2.2⟩
   rw [rS hro]
   refine ⟨?_, ?_⟩
   ·have:=(h.2.1 hg).1
    simp only [Op.operands,List.map_map]
    exact this
   ·show dt S s (s.ev S) (.build t ps) _
    rw [zm,h2]
    exact ⟨(h.2.1 hg).2,rfl⟩
  ·exact h
 ·rfl
end
section
variable {S:Env} {ops:Array Oper} {rest:List Oper} {st:St} {K:St→Prop} {d:Option Nat} {ty:TypeId} {pos:String} {af:Array Edge} {gd:Nat × Bool}
theorem NQ {t:Nat}:st.ev S (.tmp t)=st.fr t:=rfl
theorem HN {v:Value}:st.ev S (.const v) = .b (.c (.p (.val v))):=rfl
theorem JP {f:Nat}:st.ev S (.func f) = .v (.func (.func f) #[] #[]):=rfl
theorem El {g:Nat}:st.ev S (.global g)=(match S.gl g with|some (n,f) => .b (.c (.ipt n f 0))|none => .any):=rfl
theorem FJ {v:SV}:st.set none v=st:=rfl
theorem Np {k s:Nat} {v:SV}:(st.set (some k) v).fr s=if s=k then v else st.fr s:=rfl
theorem dX {k:Option Nat} {v:SV}:(st.set k v).bx=st.bx:=by cases k <;> rfl
theorem fM {k:Option Nat} {v:SV}:(st.set k v).nx=st.nx:=by cases k <;> rfl
theorem EY {x:Bx}:(st.newBox x).fr=st.fr:=rfl
theorem Er {x:Bx} {i:Nat}:(st.newBox x).bx i=if i=st.nx then some x else st.bx i:=rfl
theorem fE {x:Bx}:(st.newBox x).nx=st.nx+1:=rfl
theorem Dk {x:Bx} {i:Nat}:(st.setBox i x).fr=st.fr:=rfl
theorem Eg {x:Bx} {i j:Nat}:(st.setBox i x).bx j=if j=i then some x else st.bx j:=rfl
theorem fD {x:Bx} {i:Nat}:(st.setBox i x).nx=st.nx:=rfl
theorem EI {i:Nat}:(st.delBox i).fr=st.fr:=rfl
theorem DN {i j:Nat}:(st.delBox i).bx j=if j=i then none else st.bx j:=rfl
theorem fG {i:Nat}:(st.delBox i).nx=st.nx:=rfl
theorem Og {args:List BV}:(xE args).fr=iW args 0:=rfl
theorem Nd {args:List BV} {i:Nat}:(xE args).bx i=none:=rfl
theorem Ov {args:List BV}:(xE args).nx=0:=rfl
theorem OV {cs:List PV} {args:List BV} {s:Nat}:(Sb cs args).fr s=if s=0 then .b (.c (.ptr 0 0)) else iW args 1 s:=rfl
theorem Oq {cs:List PV} {args:List BV} {i:Nat}:(Sb cs args).bx i=if i=0 then some (.fix (cs.map CV.p)) else none:=rfl
theorem On {cs:List PV} {args:List BV}:(Sb cs args).nx=1:=rfl
theorem Ba {k s:Nat}:iW [] k s = .any:=rfl
theorem zY {x:BV} {r:List BV} {k s:Nat}:iW (x :: r) k s=if s=k then .b x else iW r (k+1) s:=rfl
theorem HO {s:Nat}:nC [] s = .any:=rfl
theorem wE {k s:Nat} {v:SV} {r:List (Nat × SV)}:nC ((k,v) :: r) s=if s=k then v else nC r s:=rfl
theorem Fl {s:Nat}:gZ [] s=none:=rfl
theorem kO {k s:Nat} {v:Bx} {r:List (Nat × Bx)}:gZ ((k,v) :: r) s=if s=k then some v else gZ r s:=rfl
theorem KK {x:BV}:(SV.b x).strip = .b x:=rfl
theorem Dj {p:Bool} {x:BV}:(SV.grd p x).strip = .b x:=rfl
theorem Em {x:List BV}:(SV.tup x).strip = .tup x:=rfl
theorem OT {x:BV}:(SV.b x).cond=True:=rfl
theorem FR {p:Bool} {x:BV}:(SV.grd p x).cond=(p=true):=rfl
theorem Ie {x:List BV}:(SV.tup x).cond=True:=rfl
theorem GT {x:BV}:dM (.b x)=x:=rfl
theorem Bl {p:Bool} {x:BV}:dM (.grd p x)=x:=rfl
theorem zO:aP []=True:=rfl
theorem xZ {x:SV} {r:List SV}:aP (x :: r)=(x.cond∧aP r):=rfl
theorem BA:zj S st none=True:=rfl
theorem Bp {x:Operand}:zj S st (some x)=(st.ev S x).cond:=rfl
theorem ah {n:St→Prop} {Q:AExit→St→Prop}:hC n Q .normal st=n st:=rfl
theorem ET {n:St→Prop} {Q:AExit→St→Prop}:hC n Q .ret st=Q .ret st:=rfl
theorem AT {n:St→Prop} {Q:AExit→St→Prop} {id:Nat}:hC n Q (.exit id) st=Q (.exit id) st:=rfl
theorem ee {id:Nat} {Q:AExit→St→Prop}:kG id Q .normal st=Q .normal st:=rfl
theorem Ca {id:Nat} {Q:AExit→St→Prop}:kG id Q .ret st=Q .ret st:=rfl
theorem yB {id id':Nat} {Q:AExit→St→Prop}:kG id Q (.exit id') st=if id'=id then Q .normal st else Q (.exit id') st:=rfl
theorem GA {rs:List ResultVar} {R:SV→Prop}:Kv S rs R .ret st=xD S rs R st:=rfl
theorem Ar {rs:List ResultVar} {R:SV→Prop}:Kv S rs R .normal st=xD S rs R st:=rfl
theorem Hx {rs:List ResultVar} {R:SV→List PV→Prop}:QF S rs R .ret st=GZ S rs R st:=rfl
theorem zZ {rs:List ResultVar} {R:SV→List PV→Prop}:QF S rs R .normal st=GZ S rs R st:=rfl
end
section
variable {S:Env} {st:St} {Q:AExit→St→Prop}
theorem ga {id:Nat} {l:List Oper} {y:Code} (h:∀ K:St→Prop,(∀ s,cw S y Q s→K s)→aY S l.toArray l st K):cw S (.seq (.region id l.toArray false) y) Q st :=
 ua (qk (h _ fun _ h=>h))
theorem IW {id:Nat} {l:List Oper} (h:∀ K:St→Prop,(∀ s,Q .normal s→K s)→aY S l.toArray l st K):cw S (.region id l.toArray false) Q st :=
 qk (h _ fun _ h=>h)
theorem Ii {id : Nat} {l : List Oper} {y : Code} (hd : uT S.rcv l.toArray (fun i => (Region.before l.toArray).getD i 0) = true) (hm : cU l.toArray (fun i => (Region.before l.toArray).getD i 0) = true)
  (h:∀ K:St→Prop,(∀ s,cw S y Q s→K s)→aY S l.toArray l st K):cw S (.seq (.region id l.toArray true) y) Q st :=
 ua (Db hd hm (h _ fun _ h=>h))
theorem HM {id : Nat} {l : List Oper} (hd : uT S.rcv l.toArray (fun i => (Region.before l.toArray).getD i 0) = true) (hm : cU l.toArray (fun i => (Region.before l.toArray).getD i 0) = true)
  (h:∀ K:St→Prop,(∀ s,Q .normal s→K s)→aY S l.toArray l st K):cw S (.region id l.toArray true) Q st :=
 Db hd hm (h _ fun _ h=>h)
theorem eB {x y z:Code} (h:cw S (.seq x (.seq y z)) Q st):cw S (.seq (.seq x y) z) Q st :=
 dC x (fun e s hs=>by cases e <;> exact hs) h
theorem wk {c:Operand} {x y z:Code} {t:Bool} (hc:st.ev S c = .t t) (h1:t=true→cw S (.seq x z) Q st) (h2:t=false→cw S (.seq y z) Q st):cw S (.seq (.cond c x y) z) Q st :=
 ln hc h1 h2
theorem HA {z:Code} (h:cw S z Q st):cw S (.seq .skip z) Q st := .inr h
theorem Dm {z:Code} {l:Nat} (h:cw S z Q st):cw S (.seq (.label l) z) Q st := .inr h
theorem kr {z:Code} (h:Q .ret st):cw S (.seq .ret z) Q st:=h
theorem FZ {z:Code} {id:Nat} (h:Q (.exit id) st):cw S (.seq (.exit id) z) Q st:=h
theorem qC {z x:Code} {id:Nat} (h:∀ K:St→Prop,(∀ s,cw S z Q s→K s)→cw S x (kG id (hC K Q)) st):cw S (.seq (.block id x) z) Q st :=
 ua (h _ fun _ h=>h)
end
def gI:List BV→Prop
 | []=>True
 | x :: r=>x.lt 0∧gI r
theorem ch:∀ {l:List BV},gI l→∀ x ∈ l,BV.lt 0 x
 | _ :: _,h,_, .head _=>h.1
 | _ :: _,h,_, .tail _ hm=>ch h.2 _ hm
theorem dE:∀ (l:List BV),gM l l
 | []=>trivial
 | _ :: r=>⟨fun _ _ _ _ h=>h,dE r⟩
section
variable {S:Env} {st:St} {f:FuncId} {args args':List BV} {K:SV→St→Prop}
theorem rX {X:SV} (h:aC S f args (fun r=>r=X)) (hl:gI args) (hk:K X st):du S st f args (Sl.of K) :=
 .pure args _ h (dE _) (ch hl) hk
theorem FU {X:SV} (h:zb S f args X) (hl:gI args) (hk:K X st):du S st f args (Sl.of K) := .ext args X h (dE _) (ch hl) hk
theorem rZ {X:SV} (hk:K X st) (ha:args=args') (hl:gI args') (h:aC S f args' (fun r=>r=X)):du S st f args (Sl.of K) :=
 .pure args' _ h (ha ▸ dE _) (ch hl) hk
theorem Ib {X:BV} {g:Bool} {c:Prop} {d:Option Nat} {K:St→Prop} (h:g=true→aC S f args (fun r=>r = .b X)) (hl:gI args) (hx:X.lt st.nx) (hc:g=true→c) (hk:K (st.set d (.grd g X))):NP (some g) c S st f args d (Sl.of K) :=
 .inr ⟨X,hx,fun hg=>⟨hc hg, .pure args _ (h hg) (dE _) (ch hl) rfl⟩,hk⟩
end
attribute [go_sem] List.getElem?_toArray Option.bind_some Option.map_some Option.map_none Option.getD_some Option.getD_none true_and and_true List.drop_succ_cons List.drop_zero List.drop_nil List.take_succ_cons List.take_zero List.take_nil
 List.getD_cons_zero List.getD_cons_succ List.getD_nil List.length_cons List.length_nil List.map_cons List.map_nil List.cons_append List.nil_append List.append_nil List.getElem?_cons_zero List.getElem?_cons_succ gI cond_true cond_false
def iB (nx:Nat):List CV→Prop
 | []=>True
 | x :: r=>CV.lt nx x∧iB nx r
theorem kA {nx:Nat}:∀ {l:List CV},iB nx l↔∀ c ∈ l,CV.lt nx c
 | []=>by simp [iB]
 | x :: r=>by simp [iB,kA (l:=r)]
def rH (nx:Nat):List BV→Prop
 | []=>True
 | x :: r=>BV.lt nx x∧rH nx r
theorem wy {nx:Nat}:∀ {l:List BV},rH nx l↔∀ c ∈ l,BV.lt nx c
 | []=>by simp [rH]
 | x :: r=>by simp [rH,wy (l:=r)]
section
variable {nx:Nat}
theorem MT {cs:List CV}:BV.lt nx (.agg cs)=iB nx cs:=propext kA.symm
theorem PY {l:List PV}:BV.lt nx (.agg (l.map CV.p))=True:=by
 simp [BV.lt,CV.lt]
theorem JE {l:List PV}:iB nx (l.map CV.p)=True:=by
 rw [kA];simp [CV.lt]
theorem Td {x:CV}:BV.lt nx (.c x)=CV.lt nx x:=rfl
theorem Qf {x:PV}:CV.lt nx (.p x)=True:=rfl
theorem Oc {i o:Nat}:CV.lt nx (.ptr i o)=(i<nx):=rfl
theorem Mn {i s o n:Nat}:CV.lt nx (.pel i s n o)=(i<nx):=rfl
theorem Nu {i n:Nat}:CV.lt nx (.own i n)=(i<nx):=rfl
theorem NY {s o:Nat} {g:Nat→PV}:CV.lt nx (.ipt s g o)=True:=rfl
theorem MZ:iB nx []=True:=rfl
theorem IA {x:CV} {r:List CV}:iB nx (x :: r)=(CV.lt nx x∧iB nx r):=rfl
theorem JK:rH nx []=True:=rfl
theorem HF {x:BV} {r:List BV}:rH nx (x :: r)=(BV.lt nx x∧rH nx r):=rfl
theorem PO {x:BV}:SV.lt nx (.b x)=BV.lt nx x:=rfl
theorem IQ {x:List BV}:SV.lt nx (.tup x)=rH nx x:=propext wy.symm
theorem Ka {x:BV} {p:Bool}:SV.lt nx (.grd p x)=BV.lt nx x:=rfl
theorem Jo:SV.lt nx .any=True:=rfl
theorem JY {l:List CV}:Bx.lt nx (.fix l)=iB nx l:=propext kA.symm
theorem JR {e s n:Nat} {f:Nat→Nat→PV}:Bx.lt nx (.arr e s n f)=True:=rfl
end
attribute [go_sem] MT JE Td Qf Oc Mn Nu NY MZ IA JK HF PO IQ Ka Jo JY JR
attribute [go_sem ↓] PY
attribute [go_sem ↓] RE
attribute [go_sem ↓ 1100] Pg Js
attribute [go_sem] JM Dh Ke nA yc GC xt GG BY MH QW KO Ab Ph
attribute [go_sem] Km Jp NI Jg IC
attribute [go_sem ↓] Ro NV HI Nl OC zR Ks zH Li Ey Qc SF Oz JS Bv Rb QI Re
 KG Qj KS xl Kg Pc Ft Mj Pm
attribute [go_sem] NQ HN JP El FJ Np dX fM EY Er fE Dk Eg fD EI DN fG
 Og Nd Ov OV Oq On Ba zY HO wE Fl kO KK Dj Em OT FR Ie GT Bl zO xZ BA Bp
 ah ET AT ee Ca yB GA Ar Hx zZ
attribute [go_sem] mq qn dp mM ny gy nf wR FC EC qA wH iH kX zT HL HC oB zL? xR JV oi kB ye Ci sv CH gu nw jF rJ BV.cells BV.one CV.one CV.ofV CV.toP iX
 xD pU Jy GZ CW ef eo ja
end Go.SL
namespace Go.SL
open Go
open Go.RowKit (wrap64)
theorem TE {n:Int} (h1 : -9223372036854775808≤n) (h2:n≤9223372036854775807):wrap64 n=n:=IntWalk.wrap64_in n ⟨h1,h2⟩
theorem fq {n:Int} (h1 : -9223372036854775808≤n) (h2:n≤9223372036854775807):IntKind.i64.wrap n=n:=IntWalk.i64_in n ⟨h1,h2⟩
theorem Rn {n:Int} (h1:0≤n) (h2:n≤65535):IntKind.u16.wrap n=n:=IntWalk.u16_in n ⟨h1,h2⟩
theorem me {n:Int} (h1:0≤n) (h2:n≤18446744073709551615):IntKind.u64.wrap n=n:=by
 simp only [IntKind.wrap,IntKind.bits,IntKind.signed]
 simp
 omega
theorem CN {n k:Int}:((n.tdiv k).natAbs)≤n.natAbs:=by
 rw [Int.natAbs_tdiv];exact Nat.div_le_self _ _
theorem CO {n k:Int} (h1 : -9223372036854775808≤n) (h2:n≤9223372036854775807) (hk:2≤k):IntKind.i64.wrap (n.tdiv k)=n.tdiv k:=by
 have h := @CN n k
 refine fq (by omega) ?_
 by_cases h0:n = -9223372036854775808
 ·subst h0
  have:(-9223372036854775808:Int).tdiv k≤0:=by
   rw [Int.neg_tdiv]
   have:=Int.tdiv_nonneg (a:=9223372036854775808) (b:=k) (by omega) (by omega)
   omega
  omega
 ·omega
theorem uJ (n:Int) : -9223372036854775808≤IntKind.i64.wrap n∧IntKind.i64.wrap n≤9223372036854775807:=by
 simp only [IntKind.wrap,IntKind.bits,IntKind.signed]
 simp
 split <;> omega
theorem GK {a b:Int} (h:0≤a):a.tdiv b=a / b:=Int.tdiv_eq_ediv_of_nonneg h
theorem PF {a b:Int} (h:0≤a):a.tmod b=a % b:=Int.tmod_eq_emod_of_nonneg h
def bj {α:Type} [Inhabited α] (enc:α→List PV) (xs:List α):Nat→Nat→PV:=fun i j=>(enc (xs.getD i default)).getD j .any
theorem PV.le_refl (x:PV):PV.le x x:=fun _ _ _ h=>h
theorem iU {sz:Nat} {f:Nat→Nat→PV}:PV.le (.val (.slice none 0 0)) (.lst sz 0 f):=fun _ _ u h=>by
 have:u = .slice none 0 0:=h
 subst this
 exact ⟨none,0,rfl,Nat.le_refl _,fun h=>absurd h (Nat.lt_irrefl 0)⟩
theorem lA {sz n:Nat} {f g:Nat→Nat→PV} (h:∀ i,i<n→∀ j,j<sz→f i j=g i j):PV.le (.lst sz n f) (.lst sz n g):=fun _ _ u hu=>by
 obtain ⟨a,c,e,hn,hb⟩:=hu
 refine ⟨a,c,e,hn,fun h0 => ?_⟩
 obtain ⟨b,o,ha,hok,hc⟩:=hb h0
 refine ⟨b,o,ha,hok,fun i hi j hj => ?_⟩
 rw [← h i hi j hj]
 exact hc i hi j hj
theorem Lp {k:IntKind} {n:Int}:(Value.int k n).oneCell'=true:=rfl
theorem Hd {b:Bool}:(Value.bool b).oneCell'=true:=rfl
theorem BQ {s:ByteArray}:(Value.string s).oneCell'=true:=rfl
theorem EH {o n:Nat}:(Value.slice none o n).oneCell'=true:=rfl
attribute [go_sem] Lp Hd BQ EH
theorem Gy {α:Type} [Inhabited α] {enc:α→List PV} {xs:List α} {i j:Nat}:bj enc xs i j=(enc (xs.getD i default)).getD j .any:=rfl
theorem DT:maxLen=9223372036854775807:=by decide
attribute [go_sem] DT
theorem Iu {a b:Bool}:(bif a then b else false)=(a && b):=by cases a <;> rfl
theorem Ms {a b:Bool}:(bif a then true else b)=(a || b):=by cases a <;> rfl
attribute [go_sem] Iu Ms
theorem dz {α : Type} [Inhabited α] {enc : α → List PV} {xs : List α} {x : α} {s : Nat} {g : Nat → Nat → PV} (hg : ∀ j, j < s → g 0 j = (enc x).getD j .any) :
  ∀ i,i<xs.length+1→∀ j,j<s→PV.le (fX xs.length (bj enc xs) g i j) (bj enc (xs ++ [x]) i j):=fun i hi j hj=>by
 have:fX xs.length (bj enc xs) g i j=bj enc (xs ++ [x]) i j:=by
  unfold fX bj
  split
  ·rename_i h;simp only [List.getD_eq_getElem?_getD,List.getElem?_append_left h]
  ·rename_i h
   have:i=xs.length:=by omega
   subst this
   rw [Nat.sub_self,hg j hj]
   simp
 rw [this];exact PV.le_refl _
attribute [go_sem] Gy
end Go.SL
set_option linter.unusedVariables false
namespace Go.SL
open Go
def PZ (s1:St):AExit→St→Prop
 | .normal,s=>s=s1
 | _,_=>False
theorem bB {s:St}:PZ s .normal s:=rfl
def St.ite (t:Bool) (s1 s2:St):St :=
 { fr:=fun k=>if t=true then s1.fr k else s2.fr k,bx:=fun i=>if t=true then s1.bx i else s2.bx i,nx:=if t=true then s1.nx else s2.nx,kf:=fun k=>if t=true then s1.kf k else s2.kf k }
def qW:Code→Bool
 | .skip=>true
 | .region .. => true
 | .seq x y=>qW x && qW y
 | .cond _ x y=>qW x && qW y
 | .label _=>true
 | _=>false
section
variable {S:Env} {st:St} {Q:AExit→St→Prop}
theorem fo {c : Operand} {x y z : Code} {t : Bool} {s1 s2 : St} (hf : (qW x && qW y) = true) (hc : st.ev S c = .t t) (h1 : t = true → cw S x (PZ s1) st) (h2 : t = false → cw S y (PZ s2) st)
  (h:cw S z Q (St.ite t s1 s2)):cw S (.seq (.cond c x y) z) Q st:=by
 refine ua (ln hc (fun ht => ?_) fun ht => ?_)
 ·subst ht
  refine dC x (fun e s hs => ?_) (h1 rfl)
  cases e with
  | normal=>have:s=s1:=hs;subst this;exact h
  | _=>exact hs.elim
 ·subst ht
  refine dC y (fun e s hs => ?_) (h2 rfl)
  cases e with
  | normal=>have:s=s2:=hs;subst this;exact h
  | _=>exact hs.elim
theorem gK {c : Operand} {x y : Code} {t : Bool} {s1 s2 : St} (hf : (qW x && qW y) = true) (hc : st.ev S c = .t t) (h1 : t = true → cw S x (PZ s1) st) (h2 : t = false → cw S y (PZ s2) st)
  (h:Q .normal (St.ite t s1 s2)):cw S (.cond c x y) Q st:=by
 refine ln hc (fun ht => ?_) fun ht => ?_
 ·subst ht
  refine dC x (fun e s hs => ?_) (h1 rfl)
  cases e with
  | normal=>have:s=s1:=hs;subst this;exact h
  | _=>exact hs.elim
 ·subst ht
  refine dC y (fun e s hs => ?_) (h2 rfl)
  cases e with
  | normal=>have:s=s2:=hs;subst this;exact h
  | _=>exact hs.elim
variable {t:Bool} {s1 s2:St}
theorem ON {k:Nat}:(St.ite t s1 s2).fr k=if t=true then s1.fr k else s2.fr k:=rfl
theorem OS {k:Nat}:(St.ite t s1 s2).bx k=if t=true then s1.bx k else s2.bx k:=rfl
theorem Nm:(St.ite t s1 s2).nx=if t=true then s1.nx else s2.nx:=rfl
variable {p:Prop} [Decidable p]
theorem MQ {x y:BV}:(if p then SV.b x else SV.b y)=SV.b (if p then x else y):=by split <;> rfl
theorem QJ {x y:CV}:(if p then BV.c x else BV.c y)=BV.c (if p then x else y):=by split <;> rfl
theorem JL {x y:List CV}:(if p then BV.agg x else BV.agg y)=BV.agg (if p then x else y):=by split <;> rfl
theorem Gj {x y:CV} {l r:List CV}:(if p then x :: l else y :: r)=(if p then x else y) :: (if p then l else r):=by split <;> rfl
theorem Px {x y:PV}:(if p then CV.p x else CV.p y)=CV.p (if p then x else y):=by split <;> rfl
theorem Kb {x y:Value}:(if p then PV.val x else PV.val y)=PV.val (if p then x else y):=by split <;> rfl
theorem KN {k:IntKind} {x y:Int}:(if p then Value.int k x else Value.int k y)=Value.int k (if p then x else y):=by split <;> rfl
theorem Gz {x y:Bool}:(if p then Value.bool x else Value.bool y)=Value.bool (if p then x else y):=by split <;> rfl
theorem JC {sz n m:Nat} {f g:Nat→Nat→PV}:(if p then PV.lst sz n f else PV.lst sz m g)=PV.lst sz (if p then n else m) (if p then f else g):=by split <;> rfl
theorem LB {i n m:Nat}:(if p then CV.own i n else CV.own i m)=CV.own i (if p then n else m):=by split <;> rfl
theorem Hu {x y:Bx}:(if p then some x else some y)=some (if p then x else y):=by split <;> rfl
theorem Ir {x y:List CV}:(if p then Bx.fix x else Bx.fix y)=Bx.fix (if p then x else y):=by split <;> rfl
theorem Kj {e s n m:Nat} {f g:Nat→Nat→PV}:(if p then Bx.arr e s n f else Bx.arr e s m g)=Bx.arr e s (if p then n else m) (if p then f else g):=by split <;> rfl
theorem GO {α:Type} {x:α}:(if p then x else x)=x:=by split <;> rfl
end
theorem SU {p:Prop} [Decidable p] {a b:Bool}:((if p then a else b)=true)=((p→a=true)∧(¬p→b=true)):=by split <;> simp_all
theorem RD {p:Prop} [Decidable p] {a b:Bool}:((if p then a else b)=false)=((p→a=false)∧(¬p→b=false)):=by split <;> simp_all
theorem aw {X:Type} {F:X→St} {I:X→Prop} {m:X→Nat} {k:Nat} {st:St} (x':X) (hle:Le st (F x')) (hI:I x') (hm:m x'<k):Wk (fun s=>∃ x',s=F x'∧I x'∧m x'<k) st :=
 ⟨F x',hle,x',rfl,hI,hm⟩
theorem ik {S:Env} {st:St} {f:FuncId} {args args':List BV} {K:SV→St→Prop} {X:SV} (hk:K X st) (ha:gM (args.map (eo st.bx)) args') (hl:gI args') (hf:X.flat) (h:aC S f args' (fun r=>r=X)) (hp:S.rcv (f+1000000)=false:=by rfl):du S st f args (Sl.of K) :=
 .lend args' _ h ha (ch hl) hf hk hp
theorem gn:gM [] []=True:=rfl
theorem fA {x y:BV} {r s:List BV}:gM (x :: r) (y :: s)=(BV.le x y∧gM r s):=rfl
theorem kW {x:BV}:BV.le x x:=fun _ _ _ _ h=>h
theorem uP {x y:PV} (h:PV.le x y):BV.le (.c (.p x)) (.c (.p y)):=fun _ ok w u hu=>h ok w u hu
theorem Hz {S:Env} {st:St} {Q:AExit→St→Prop} {id:Nat} {l:List Oper} {y:Code} (h:∀ K:St→Prop,(∀ s,cw S y Q s→K s)→(∀ s s',Le s s'→cw S y Q s'→K s)→aY S l.toArray l st K):cw S (.seq (.region id l.toArray false) y) Q st:=by
 refine dC (S:=S) (.region id l.toArray false) (Q:=hC (fun st=>Wk (cw S y Q) st∨cw S y Q st) Q) (fun _ _ h=>h) (qk ?_)
 exact h _ (fun s hs => .inr hs) fun s s' hl hs => .inl ⟨s',hl,hs⟩
def Pq (x y:BV):Prop:=BV.lt 0 y∧∀ ok w u,bT bR ok w x u→bT bR ok w y u
def RI (x y:SV):Prop:=SV.lt 0 y∧∀ ok w u,bn bR ok w x u→bn bR ok w y u
def IP:List BV→List BV→Prop
 | [],[]=>True
 | x :: l,y :: r=>Pq x y∧IP l r
 | _,_=>False
theorem ix {S:Env} {f:FuncId} {args:List BV} {X:SV} (h:aC S f args fun r=>RI r X):aC S f args fun r=>r=X :=
 ⟨h.1,fun ok w vs h1 h2 h3 h4=>(h.2 ok w vs h1 h2 h3 h4).mono fun _ _ ⟨v,r,he,hR,_,hb,hd⟩=>⟨v,X,he,rfl,hR.1,hb,hR.2 _ _ _ hd⟩⟩
theorem Df {x y:BV} (h:Pq x y):RI (.b x) (.b y):=h
theorem jr {x:BV} (h:BV.lt 0 x):Pq x x:=⟨h,fun _ _ _ h=>h⟩
theorem kj {x y:PV} (h:PV.le x y):Pq (.c (.p x)) (.c (.p y)):=⟨trivial,fun ok w u hu=>h ok w u hu⟩
theorem sW {ok:Nat→Prop} {w:World}:∀ {l r:List BV},IP l r→l.length=r.length∧∀ {u:Nat→Value},(∀ j,bT bR ok w (l.getD j .any) (u j))→∀ j,bT bR ok w (r.getD j .any) (u j)
 | [],[],_=>⟨rfl,fun h=>h⟩
 | x :: l,y :: r,⟨h1,h2⟩=>by
  obtain ⟨q1,q2⟩:=sW (ok:=ok) (w:=w) h2
  refine ⟨by simp [q1],fun {u} hu j => ?_⟩
  cases j with
  | zero=>exact h1.2 ok w _ (hu 0)
  | succ j=>exact q2 (u:=fun k=>u (k+1)) (fun k=>hu (k+1)) j
theorem CL:∀ {l r:List BV},IP l r→∀ v ∈ r,BV.lt 0 v
 | [],[],_,v,hv=>by cases hv
 | x :: l,y :: r,h,v,hv=>by
  rcases List.mem_cons.1 hv with e|e
  ·rw [e];exact h.1.1
  ·exact CL h.2 v e
theorem gh {l r:List BV} (h:IP l r):RI (.tup l) (.tup r) :=
 ⟨CL h,fun ok w u ⟨us,hu,hs,hd⟩=>⟨us,hu,by rw [hs,(sW (ok:=ok) (w:=w) h).1],(sW h).2 hd⟩⟩
def EL:List CV→List CV→Prop
 | [],[]=>True
 | .p x :: l, .p y :: r=>(x=y∨PV.le x y)∧EL l r
 | _,_=>False
theorem tn:EL [] []=True:=rfl
theorem ns {x y:PV} {l r:List CV}:EL (.p x :: l) (.p y :: r)=((x=y∨PV.le x y)∧EL l r):=rfl
theorem uB {ok:Nat→Prop} {w:World}:∀ {l r:List CV},EL l r→l.length=r.length∧(∀ c ∈ r,CV.lt 0 c)∧∀ {u:Nat→Value},(∀ j,cd bR ok w (l.getD j .any) (u j))→∀ j,cd bR ok w (r.getD j .any) (u j)
 | [],[],_=>⟨rfl,by simp,fun h=>h⟩
 | .p x :: l, .p y :: r,h=>by
  rw [ns] at h
  obtain ⟨h1,h2⟩:=h
  obtain ⟨q1,q0,q2⟩:=uB (ok:=ok) (w:=w) h2
  refine ⟨by simp [q1],fun c hc => ?_,fun {u} hu j => ?_⟩
  ·rcases List.mem_cons.1 hc with e|e
   ·rw [e];trivial
   ·exact q0 c e
  ·cases j with
   | zero =>
    rcases h1 with e|e
    ·rw [← e];exact hu 0
    ·exact e _ _ _ (hu 0)
   | succ j=>exact q2 (u:=fun k=>u (k+1)) (fun k=>hu (k+1)) j
theorem yv {l r:List CV} (h:EL l r):Pq (.agg l) (.agg r):=by
 refine ⟨(uB (ok:=fun _=>True) (w:=default) h).2.1,fun ok w u ⟨us,hu,hs,h1,hd⟩ => ?_⟩
 obtain ⟨q1,_,q2⟩:=uB (ok:=ok) (w:=w) h
 exact ⟨us,hu,by rw [hs,q1],h1,q2 hd⟩
theorem By {k:IntKind} {a b:Int} (h:a=b):SV.b (.c (.p (.val (.int k a))))=SV.b (.c (.p (.val (.int k b)))):=by rw [h]
def aQ (l:List (Nat × SV)) (b:List (Nat × Bx)) (nx:Nat):St:=⟨nC l,gZ b,nx,fun _ => .any⟩
theorem Ju {l:List (Nat × SV)} {b:List (Nat × Bx)} {nx s:Nat}:(aQ l b nx).fr s=nC l s:=rfl
theorem KP {l:List (Nat × SV)} {b:List (Nat × Bx)} {nx s:Nat}:(aQ l b nx).bx s=gZ b s:=rfl
theorem KT {l:List (Nat × SV)} {b:List (Nat × Bx)} {nx:Nat}:(aQ l b nx).nx=nx:=rfl
def rY:List (Nat × Option Nat)→Nat→Option Nat
 | [],_=>some 0
 | (k,v) :: r,i=>if i=k then v else rY r i
theorem LJ {i:Nat}:rY [] i=some 0:=rfl
theorem Gs {k i:Nat} {v:Option Nat} {r:List (Nat × Option Nat)}:rY ((k,v) :: r) i=if i=k then v else rY r i:=rfl
def xx (r:Nat→Option Nat) (st:St) (bx':Nat→Option Bx) (nx:Nat):List (Nat × SV)→Prop
 | []=>True
 | (k,v) :: l=>(Be r st.bx bx' (st.fr k) v∧v.lt nx)∧xx r st bx' nx l
def yo (r:Nat→Option Nat) (st:St) (bx':Nat→Option Bx) (nx:Nat):List (Nat × Bx)→Prop
 | []=>True
 | (i,x) :: l=>(oz r st.bx bx' i x∧i<nx∧x.lt nx)∧yo r st bx' nx l
theorem pI {s:Nat}:∀ {l:List (Nat × SV)},nC l s = .any∨(s,nC l s) ∈ l
 | [] => .inl rfl
 | (k,v) :: l=>by
  rw [wE]
  split
  ·rename_i h;subst h;exact .inr (List.mem_cons_self ..)
  ·rcases pI (s:=s) (l:=l) with h|h
   ·exact .inl h
   ·exact .inr (List.mem_cons_of_mem _ h)
theorem iL {s:Nat} {x:Bx}:∀ {l:List (Nat × Bx)},gZ l s=some x→(s,x) ∈ l
 | [],h=>by cases h
 | (k,v) :: l,h=>by
  rw [kO] at h
  split at h
  ·rename_i e;subst e;cases h;exact List.mem_cons_self ..
  ·exact List.mem_cons_of_mem _ (iL h)
theorem oP {r:Nat→Option Nat} {st:St} {bx':Nat→Option Bx} {nx:Nat}:∀ {l:List (Nat × SV)},xx r st bx' nx l→∀ {k v},(k,v) ∈ l→Be r st.bx bx' (st.fr k) v∧v.lt nx
 | (_,_) :: _,h,_,_, .head _=>h.1
 | (_,_) :: _,h,_,_, .tail _ hm=>oP h.2 hm
theorem oH {r:Nat→Option Nat} {st:St} {bx':Nat→Option Bx} {nx:Nat}:∀ {l:List (Nat × Bx)},yo r st bx' nx l→∀ {k v},(k,v) ∈ l→oz r st.bx bx' k v∧k<nx∧v.lt nx
 | (_,_) :: _,h,_,_, .head _=>h.1
 | (_,_) :: _,h,_,_, .tail _ hm=>oH h.2 hm
def Bc (r:Nat→Option Nat):List Nat→Bool
 | []=>true
 | i :: l=>(l.all fun j=>i == j || r i == none || r i != r j) && Bc r l
theorem qq {r:Nat→Option Nat}:∀ {l:List Nat},Bc r l=true→∀ i j k,i ∈ l→j ∈ l→r i=some k→r j=some k→i=j
 | a :: l,h,i,j,k,hi,hj,h1,h2=>by
  simp only [Bc,Bool.and_eq_true,List.all_eq_true,Bool.or_eq_true,beq_iff_eq,bne_iff_ne] at h
  obtain ⟨ha,hl⟩:=h
  rcases List.mem_cons.1 hi with e1|e1 <;> rcases List.mem_cons.1 hj with e2|e2
  ·rw [e1,e2]
  ·subst e1
   rcases ha j e2 with (q|q)|q
   ·exact q
   ·rw [q] at h1;cases h1
   ·exact absurd (h1.trans h2.symm) q
  ·subst e2
   rcases ha i e1 with (q|q)|q
   ·exact q.symm
   ·rw [q] at h2;cases h2
   ·exact absurd (h2.trans h1.symm) q
  ·exact qq hl i j k e1 e2 h1 h2
theorem LX {st : St} {l : List (Nat × SV)} {b : List (Nat × Bx)} {nx : Nat} (r : List (Nat × Option Nat)) (h0 : rY r 0 = some 0) (hnx : 0 < nx) (hinj : Bc (rY r) (b.map (·.1)) = true)
  (hfr:xx (rY r) st (gZ b) nx l) (hb:yo (rY r) st (gZ b) nx b):Le st (aQ l b nx):=by
 have key:∀ i,gZ b i≠none→i ∈ b.map (·.1):=fun i hi=>by
  cases hx:gZ b i with
  | none=>exact absurd hx hi
  | some x=>exact List.mem_map.2 ⟨_,iL hx,rfl⟩
 refine ⟨⟨rY r,h0,fun _=>hnx,fun i j k hi hj h1 h2=>qq hinj i j k (key i hi) (key j hj) h1 h2,fun s => ?_,fun i x hx=>(oH hb (iL hx)).1,fun s=>by show Be _ _ _ _ .any;unfold Be;split <;> trivial⟩,fun s => ?_,fun i x hx=>(oH hb (iL hx)).2,fun _=>trivial⟩
 ·show Be _ _ _ _ (nC l s)
  rcases pI (s:=s) (l:=l) with h|h
  ·rw [h];unfold Be;split <;> trivial
  ·exact (oP hfr h).1
 ·show SV.lt nx (nC l s)
  rcases pI (s:=s) (l:=l) with h|h
  ·rw [h];trivial
  ·exact (oP hfr h).2
section
variable {r:Nat→Option Nat} {bx bx':Nat→Option Bx} {st:St} {nx:Nat}
theorem Hf:xx r st bx' nx []=True:=rfl
theorem Dv {k:Nat} {v:SV} {l:List (Nat × SV)}:xx r st bx' nx ((k,v) :: l)=((Be r st.bx bx' (st.fr k) v∧v.lt nx)∧xx r st bx' nx l):=rfl
theorem GW:yo r st bx' nx []=True:=rfl
theorem Es {k:Nat} {v:Bx} {l:List (Nat × Bx)}:yo r st bx' nx ((k,v) :: l)=((oz r st.bx bx' k v∧k<nx∧v.lt nx)∧yo r st bx' nx l):=rfl
theorem Md {x y:BV}:Be r bx bx' (.b x) (.b y)=Pp r bx bx' x y:=rfl
theorem xf {x:SV}:Be r bx bx' x .any=True:=by cases x <;> rfl
theorem LP {x y:CV}:Pp r bx bx' (.c x) (.c y)=yO r bx bx' x y:=by
 cases y with
 | p y=>cases y with
  | any=>cases x <;> rfl
  | _=>rfl
 | _=>rfl
theorem IX {x y:List CV}:Pp r bx bx' (.agg x) (.agg y)=Ik r bx bx' x y:=rfl
theorem KZ:Ik r bx bx' [] []=True:=rfl
theorem Ha {x y:CV} {l l':List CV}:Ik r bx bx' (x :: l) (y :: l')=(yO r bx bx' x y∧Ik r bx bx' l l'):=rfl
theorem IZ {x:CV}:yO r bx bx' x (.p .any)=True:=by cases x <;> rfl
theorem Ld {x:PV} {v:Value}:yO r bx bx' (.p x) (.p (.val v))=(x = .val v∨PV.le x (.val v)):=rfl
theorem Lw {x:PV} {sz n:Nat} {f:Nat→Nat→PV}:yO r bx bx' (.p x) (.p (.lst sz n f))=(x = .lst sz n f∨PV.le x (.lst sz n f)):=rfl
theorem Kc {x:PV} {i n:Nat}:yO r bx bx' (.p x) (.own i n)=(x = .val (.slice none 0 0)∧n=0∧r i=none):=rfl
theorem Jd {i o i' o':Nat}:yO r bx bx' (.ptr i o) (.ptr i' o')=(r i'=some i∧o=o'):=rfl
theorem KU {i s k o i' s' k' o':Nat}:yO r bx bx' (.pel i s k o) (.pel i' s' k' o')=(r i'=some i∧s=s'∧k=k'∧o=o'):=rfl
theorem IL {i n i' n':Nat}:yO r bx bx' (.own i n) (.own i' n')=(r i'=some i∧n=n'):=rfl
def BK (r:Nat→Option Nat) (id:Nat):List (Nat × Bx)→Prop
 | []=>True
 | (i,_) :: l=>r i≠some id∧BK r id l
theorem HX {id:Nat}:BK r id []=True:=rfl
theorem DM {id i:Nat} {x:Bx} {l:List (Nat × Bx)}:BK r id ((i,x) :: l)=(r i≠some id∧BK r id l):=rfl
theorem wS {id:Nat}:∀ {b:List (Nat × Bx)},BK r id b→∀ id',gZ b id'≠none→r id'≠some id
 | [],_,id',h=>(h rfl).elim
 | (i,x) :: l,h,id',hb=>by
  rw [kO] at hb
  by_cases e:id'=i
  ·subst e;exact h.1
  ·rw [if_neg e] at hb;exact wS h.2 id' hb
theorem wA {id:Nat}:∀ {b:List (Nat × Bx)},(∀ id',gZ b id'≠none→r id'≠some id)→BK r id b
 | [],_=>trivial
 | (i,x) :: l,h=>by
  refine ⟨h i (by rw [kO,if_pos rfl];simp),wA fun id' hb => ?_⟩
  refine h id' ?_
  rw [kO]
  split
  ·simp
  ·exact hb
def Mw (y:Option Bx) (n sz n':Nat) (f':Nat→Nat→PV) (p:Prop):Prop:=match y with
 | some (.arr _ s m f)=>s=sz∧n=n'∧n≤m∧(∀ i,i<n→∀ j,j<sz→PV.le (f i j) (f' i j))∧p
 | _=>False
theorem FW {i n sz n':Nat} {f':Nat→Nat→PV} {b:List (Nat × Bx)}:yO r bx (gZ b) (.own i n) (.p (.lst sz n' f'))=Mw (bx i) n sz n' f' (BK r i b):=by
 apply propext
 unfold Mw
 constructor
 ·rintro ⟨e,m,f,h1,h2,h3,h4,h5⟩
  rw [h1]
  exact ⟨rfl,h2,h3,h4,wA h5⟩
 ·intro h
  split at h
  ·rename_i hb
   obtain ⟨rfl,h2,h3,h4,h5⟩:=h
   exact ⟨_,_,_,hb,h2,h3,h4,wS h5⟩
  ·exact h.elim
theorem Dp {e s m n sz n':Nat} {f f':Nat→Nat→PV} {p:Prop}:Mw (some (.arr e s m f)) n sz n' f' p=(s=sz∧n=n'∧n≤m∧(∀ i,i<n→∀ j,j<sz→PV.le (f i j) (f' i j))∧p):=rfl
theorem Lx {s o s' o':Nat} {g g':Nat→PV}:yO r bx bx' (.ipt s g o) (.ipt s' g' o')=(s=s'∧o=o'∧(g=g'∨∀ j,j<s→PV.le (g j) (g' j))):=rfl
theorem IR {l l':List CV}:PH r bx bx' (.fix l) (.fix l')=Ik r bx bx' l l':=rfl
theorem Jk {e s n e' s' n':Nat} {f f':Nat→Nat→PV}:PH r bx bx' (.arr e s n f) (.arr e' s' n' f')=(e=e'∧s=s'∧n=n'∧(f=f'∨∀ i,i<n→∀ j,j<s→PV.le (f i j) (f' i j))):=rfl
def Lk (bx bx':Nat→Option Bx) (r:Nat→Option Nat) (y:Option Bx) (x:Bx):Prop:=match y with
 | some y=>PH r bx bx' y x
 | none=>False
def Ku (r:Nat→Option Nat) (bx bx':Nat→Option Bx) (k:Option Nat) (x:Bx):Prop:=match k with
 | some k=>Lk bx bx' r (bx k) x
 | none=>match x with
  | .arr _ s n _=>n=0∧0<s
  | _=>False
theorem HT {i:Nat} {x:Bx}:oz r bx bx' i x=Ku r bx bx' (r i) x:=by
 unfold oz Ku
 cases r i with
 | some k =>
  simp only [Lk]
  cases hk:bx k with
  | some y=>simp
  | none=>simp
 | none =>
  cases x with
  | fix=>simp
  | arr e s n f =>
   simp only [Bx.arr.injEq]
   exact propext ⟨fun ⟨_,_,_,⟨_,h1,h2,_⟩,h3⟩=>⟨h2,h1 ▸ h3⟩,fun ⟨h1,h2⟩=>⟨e,s,f,⟨rfl,rfl,h1,rfl⟩,h2⟩⟩
theorem EE {k:Nat} {x:Bx}:Ku r bx bx' (some k) x=Lk bx bx' r (bx k) x:=rfl
theorem Ds {e s n:Nat} {f:Nat→Nat→PV}:Ku r bx bx' none (.arr e s n f)=(n=0∧0<s):=rfl
theorem EU {y x:Bx}:Lk bx bx' r (some y) x=PH r bx bx' y x:=rfl
end
theorem EM {nx:Nat}:(∀ x:BV,x ∈ ([]:List BV)→BV.lt nx x)=True:=by simp
theorem BO {nx:Nat} {a:BV} {l:List BV}:(∀ x:BV,x ∈ a :: l→BV.lt nx x)=(BV.lt nx a∧∀ x:BV,x ∈ l→BV.lt nx x):=by simp
attribute [go_sem] EM BO
attribute [go_sem] ON OS Nm MQ QJ JL Gj Px Kb KN Gz JC LB Hu Ir Kj
attribute [go_sem ↓] GO
attribute [go_sem] Ju KP KT LJ Gs Hf Dv GW Es Md xf LP IX KZ Ha IZ Ld Lw Kc Jd KU IL FW Dp HX DM Lx IR Jk HT EE Ds EU
end Go.SL
namespace Go.SL
open Go
section
variable {S:Env} {ops:Array Oper} {rest:List Oper} {st:St} {K:St→Prop} {d:Option Nat} {ty:TypeId} {pos:String} {af:Array Edge} {j:Nat} {want g:Bool} {op:Go.Op}
theorem Ea {nx : Nat} {K1 : SV → Prop} {y : Option (Prop × SV)} (x : BV) (hy : y = none) (hro : ro S st.bx (st.ev S) op = none) (hx : x.lt st.nx) (hg : iX st ((ops[j]?).bind (·.dst)) want = some g)
  (h1:g=true→aY S ops (⟨d,op,ty,pos,af,none⟩ :: rest) st K) (h2:g=false→aY S ops rest (st.set d (.grd g x)) K) :
  rg (some g) nx y (Sl.of K1) (Sl.of (aY S ops (⟨d,op,ty,pos,af,some (j,want)⟩ :: rest) st K)):=by
 have key:aY S ops (⟨d,op,ty,pos,af,some (j,want)⟩ :: rest) st K:=by
  simp only [aY,fe,hg,hro]
  cases g with
  | true=>exact .inl ⟨fun _=>by have:=h1 rfl;simpa only [aY,fe,jE,hro] using this,fun h=>by cases h⟩
  | false=>exact .inr ⟨x,hx,(fun h=>by cases h),h2 rfl⟩
 subst hy
 exact key
variable {f:FuncId} {args args':List BV} {c:Prop} {X:BV}
theorem AQ (hg:g=true) (hc:c) (h:aC S f args' (fun r=>r = .b X)) (ha:gM (args.map (eo st.bx)) args') (hl:gI args') (hf:X.flat) (hk:K (st.set d (.b X))) (hp:S.rcv (f+1000000)=false:=by rfl):NP (some g) c S st f args d (Sl.of K) :=
 .inl ⟨fun _=>⟨hc, .lend args' _ h ha (ch hl) hf hk hp⟩,fun h=>by rw [hg] at h;cases h⟩
theorem Ek (X:BV) (hg:g=false) (hx:X.lt st.nx) (hk:K (st.set d (.grd g X))):NP (some g) c S st f args d (Sl.of K) :=
 .inr ⟨X,hx,(fun h=>by rw [hg] at h;cases h),hk⟩
end
theorem St.ite_t {s1 s2:St}:St.ite true s1 s2=s1:=rfl
theorem St.ite_f {s1 s2:St}:St.ite false s1 s2=s2:=rfl
section
variable {S:Env} {st:St} {f:FuncId} {K:SV→St→Prop} {Q:AExit→St→Prop}
theorem yg {P:St→Prop} {c:Code} (h:∀ s,cw S c Q s→P s) (h2:cw S c Q st):P st:=h _ h2
theorem aT {id:Nat} {l:List Oper} {y:Code} (h:∀ K:St→Prop,(∀ s s',Le s s'→cw S y Q s'→K s)→aY S l.toArray l st K):cw S (.seq (.region id l.toArray false) y) Q st :=
 Hz fun K _ hW=>h K hW
theorem jV {c:Operand} {x y z:Code} {t:Bool} (hc:st.ev S c = .t t) (ht:t=true) (h:cw S (.seq x z) Q st):cw S (.seq (.cond c x y) z) Q st:=wk hc (fun _=>h) (fun h=>by rw [ht] at h;cases h)
theorem nV {c:Operand} {x y z:Code} {t:Bool} (hc:st.ev S c = .t t) (ht:t=false) (h:cw S (.seq y z) Q st):cw S (.seq (.cond c x y) z) Q st:=wk hc (fun h=>by rw [ht] at h;cases h) (fun _=>h)
theorem Gk {c:Operand} {x y:Code} {t:Bool} (hc:st.ev S c = .t t) (ht:t=true) (h:cw S x Q st):cw S (.cond c x y) Q st:=ln hc (fun _=>h) (fun h=>by rw [ht] at h;cases h)
theorem zs {c:Operand} {x y:Code} {t:Bool} (hc:st.ev S c = .t t) (ht:t=false) (h:cw S y Q st):cw S (.cond c x y) Q st:=ln hc (fun h=>by rw [ht] at h;cases h) (fun _=>h)
end
def vB (k:IntKind) (a b:Int):Int:=k.wrap (BitVec.ofInt k.bits a &&& BitVec.ofInt k.bits b).toNat
def GU (k:IntKind) (a b:Int):Int:=k.wrap (BitVec.ofInt k.bits a ||| BitVec.ofInt k.bits b).toNat
def Tv (k:IntKind) (a b:Int):Int:=k.wrap (BitVec.ofInt k.bits a ^^^ BitVec.ofInt k.bits b).toNat
theorem LG {k:IntKind} {a b:Int}:k.wrap (BitVec.ofInt k.bits a &&& BitVec.ofInt k.bits b).toNat=vB k a b:=rfl
theorem Mq {k:IntKind} {a b:Int}:k.wrap (BitVec.ofInt k.bits a ||| BitVec.ofInt k.bits b).toNat=GU k a b:=rfl
theorem IY {k:IntKind} {a b:Int}:k.wrap (BitVec.ofInt k.bits a ^^^ BitVec.ofInt k.bits b).toNat=Tv k a b:=rfl
attribute [go_sem ↓] LG Mq IY
theorem KI {p:Prop} [Decidable p] {f g:Nat→Nat→PV} {i j:Nat}:(if p then f else g) i j=if p then f i j else g i j:=by split <;> rfl
attribute [go_sem] KI
end Go.SL
