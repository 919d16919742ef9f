/- Part of the proof: SlN, SlO, SlQ, SlR, SlS. -/
import Derived.Test.YtdjmpacladhijaaGreatDoorM2
set_option linter.unusedSimpArgs false
set_option linter.unusedVariables false
namespace Go.SL
open Go
section
structure Sl {α:Type} (x:α):Type where
def Sl.of {α:Type} (x:α):Sl x:=⟨⟩
def rk (x:Option (Prop × SV)) (c:Prop) {K:SV→Prop} (_:Sl K):Prop :=
 match x with
 | some (vc,r)=>c∧vc∧K r
 | none=>False
theorem Xh {vc c:Prop} {r:SV} {K:SV→Prop}:rk (some (vc,r)) c (Sl.of K)=(c∧vc∧K r):=rfl
def rg (g:Option Bool) (nx:Nat) (x:Option (Prop × SV)) {K:SV→Prop} (_:Sl K) {p:Prop} (_:Sl p):Prop :=
 match g,x with
 | some g,some (vc, .b r)=>r.lt nx∧(g=true→vc)∧K (.grd g r)
 | some g,some (vc, .grd q r)=>r.lt nx∧(g=true→vc∧q=true)∧K (.grd g r)
 | _,_=>p
theorem a1c {vc:Prop} {r:BV} {K:SV→Prop} {g u:Bool} {nx:Nat} {p:Prop} {q:Sl p}:rg (some g) nx (some (vc, .grd u r)) (Sl.of K) q=(r.lt nx∧(g=true→vc∧u=true)∧K (.grd g r)):=rfl
theorem Zq {vc:Prop} {r:BV} {K:SV→Prop} {g:Bool} {nx:Nat} {p:Prop} {q:Sl p}:rg (some g) nx (some (vc, .b r)) (Sl.of K) q=(r.lt nx∧(g=true→vc)∧K (.grd g r)):=rfl
def rc (x:Option (Prop × SV)) (c:Prop):Option (Prop × SV) :=
 match x with
 | some (vc,r)=>some (c∧vc,r)
 | none=>none
theorem Yp {vc c:Prop} {r:SV}:rc (some (vc,r)) c=some (c∧vc,r):=rfl
def dY (S:Env) (st:St) (f:FuncId) (args:List BV) {K:SV→St→Prop} (_:Sl K):Prop:=CallP S st f args K
def rgm (g:Option Bool) (c:Prop) (S:Env) (st:St) (f:FuncId) (args:List BV) (d:Option Nat) {K:St→Prop} (_:Sl K):Prop :=
 match g with
 | some g => ((g = true → c ∧ CallP S st f args fun r st' => K (st'.set d r)) ∧ (g = false → K (st.set d .any))) ∨
   ∃ x:BV,x.lt st.nx∧(g=true→c∧CallP S st f args fun r st'=>st'.set d r=st.set d (.b x))∧K (st.set d (.grd g x))
 | none=>False
section
variable {S:Env} {ops:Array Oper} {rest:List Oper} {st:St} {K:St→Prop} {d:Option Nat} {ty:TypeId} {pos:String} {af:Array Edge} {gd:Nat × Bool}
theorem a7d:bj S ops [] st K=K st:=rfl
theorem a3o {x:Operand}:bj S ops (⟨d, .move x,ty,pos,af,none⟩ :: rest) st K=bj S ops rest (st.set d (st.ev S x)) K:=by simp [bj,gh,lO,ro]
theorem UJ {x:Operand}:bj S ops (⟨d, .assign x,ty,pos,af,none⟩ :: rest) st K=bj S ops rest (st.set d (st.ev S x)) K:=by simp [bj,gh,lO,ro]
theorem a4w {c x y:Operand}:bj S ops (⟨d, .pick c x y,ty,pos,af,none⟩ :: rest) st K=rk (xo (st.ev S c) (st.ev S x) (st.ev S y)) True (Sl.of fun r=>bj S ops rest (st.set d r) K):=by
 simp only [bj,gh,lO,ro,rk];grind [fp]
theorem eP {o : Oper} {K' : St → Prop} (hr : ∀ x, o.op ≠ .move x) (ha : ∀ x, o.op ≠ .assign x) (hp : ∀ c x y, o.op ≠ .pick c x y) (hM : ∀ K, fp S st (st.ev S) o.op K = False) :
  lO S st o K'=rk (bK S st.bx (st.ev S) o.op) (bc (o.op.operands.toList.map (st.ev S))) (Sl.of fun r=>K' (st.set o.dst r)):=by
 unfold lO ro;grind [rk]
def lX (S:Env) (t:TypeId) (f:Nat) (x:SV):Option (Prop × SV) :=
 match S.fld t f with
 | some (off,sz,_)=>(rC off x).map fun y=>(sz≠0,y)
 | none=>none
def xq (i:Nat):SV→Option (Prop × SV)
 | .tup vs=>some (i<vs.length, .b (vs.getD i .any))
 | _=>none
def HH:SV→Option (Prop × SV)
 | .b (.c (.ptr id off))=>some (True, .b (.c (.ptr id off)))
 | .b (.c (.pel id sz i off))=>some (True, .b (.c (.pel id sz i off)))
 | .b (.c (.ipt sz g off))=>some (True, .b (.c (.ipt sz g off)))
 | _=>none
def RM:SV→SV→Option (Prop × SV)
 | .b (.c (.p (.val (.int k a)))), .b (.c (.p (.val (.int k' b))))=>some (k=k', .v (.int k (if b<a then b else a)))
 | _,_=>none
def Tw:SV→SV→Option (Prop × SV)
 | .b (.c (.p (.val (.int k a)))), .b (.c (.p (.val (.int k' b))))=>some (k=k', .v (.int k (if b>a then b else a)))
 | _,_=>none
theorem a1a {t:TypeId} {x:Operand}:bj S ops (⟨d, .load t x,ty,pos,af,none⟩ :: rest) st K=rk (fw S t st.bx (st.ev S x).strip) (st.ev S x).cond (Sl.of fun r=>bj S ops rest (st.set d r) K):=by
 simp only [bj,gh];rw [eP (by simp) (by simp) (by simp) (fun _=>rfl)];simp [bK,Op.operands,bc]
theorem Js {t : TypeId} {x : Operand} {f : Nat} : bj S ops (⟨d, .fieldAddr t x f, ty, pos, af, none⟩ :: rest) st K =
  rk (lX S t f (st.ev S x).strip) (st.ev S x).cond (Sl.of fun r=>bj S ops rest (st.set d r) K):=by
 simp only [bj,gh];rw [eP (by simp) (by simp) (by simp) (fun _=>rfl),show bK S st.bx (st.ev S) (.fieldAddr t x f)=lX S t f (st.ev S x).strip from rfl];simp [Op.operands,bc]
theorem Xn {t:TypeId} {x:Operand} {f:Nat}:bj S ops (⟨d, .field t x f,ty,pos,af,none⟩ :: rest) st K=rk (sT S t f (st.ev S x).strip) (st.ev S x).cond (Sl.of fun r=>bj S ops rest (st.set d r) K):=by
 simp only [bj,gh];rw [eP (by simp) (by simp) (by simp) (fun _=>rfl)];simp [bK,Op.operands,bc]
theorem GN {t : TypeId} {x i : Operand} : bj S ops (⟨d, .indexAddr t x i, ty, pos, af, none⟩ :: rest) st K =
  rk (kq S t (st.ev S x).strip (st.ev S i).strip) ((st.ev S x).cond∧(st.ev S i).cond) (Sl.of fun r=>bj S ops rest (st.set d r) K):=by
 simp only [bj,gh];rw [eP (by simp) (by simp) (by simp) (fun _=>rfl)];simp [bK,Op.operands,bc]
theorem Yi {t : TypeId} {x i : Operand} : bj S ops (⟨d, .index t x i, ty, pos, af, none⟩ :: rest) st K =
  rk (sZ S t (st.ev S x).strip (st.ev S i).strip) ((st.ev S x).cond∧(st.ev S i).cond) (Sl.of fun r=>bj S ops rest (st.set d r) K):=by
 simp only [bj,gh];rw [eP (by simp) (by simp) (by simp) (fun _=>rfl)];simp [bK,Op.operands,bc]
theorem Pr {x : Operand} {i : Nat} : bj S ops (⟨d, .extract x i, ty, pos, af, none⟩ :: rest) st K =
  rk (xq i (st.ev S x).strip) (st.ev S x).cond (Sl.of fun r=>bj S ops rest (st.set d r) K):=by
 simp only [bj,gh];rw [eP (by simp) (by simp) (by simp) (fun _=>rfl),show bK S st.bx (st.ev S) (.extract x i)=xq i (st.ev S x).strip from rfl];simp [Op.operands,bc]
theorem a6a {op : BinOp} {t yt : TypeId} {x y : Operand} : bj S ops (⟨d, .binOp op t x y yt, ty, pos, af, none⟩ :: rest) st K =
  rk (DT S op t (st.ev S x).strip (st.ev S y).strip) ((st.ev S x).cond∧(st.ev S y).cond) (Sl.of fun r=>bj S ops rest (st.set d r) K):=by
 simp only [bj,gh];rw [eP (by simp) (by simp) (by simp) (fun _=>rfl)];simp [bK,Op.operands,bc]
theorem a8B {op : UnOp} {t : TypeId} {x : Operand} : bj S ops (⟨d, .unOp op t x, ty, pos, af, none⟩ :: rest) st K =
  rk (PE op (st.ev S x).strip) (st.ev S x).cond (Sl.of fun r=>bj S ops rest (st.set d r) K):=by
 simp only [bj,gh];rw [eP (by simp) (by simp) (by simp) (fun _=>rfl)];simp [bK,Op.operands,bc]
theorem a2Y {s t : TypeId} {x : Operand} : bj S ops (⟨d, .convert s t x, ty, pos, af, none⟩ :: rest) st K =
  rk (wW S s t (st.ev S x).strip) (st.ev S x).cond (Sl.of fun r=>bj S ops rest (st.set d r) K):=by
 simp only [bj,gh];rw [eP (by simp) (by simp) (by simp) (fun _=>rfl)];simp [bK,Op.operands,bc]
def JA (S:Env) (st:St):Option Operand→Prop
 | none=>True
 | some x=>(st.ev S x).cond
theorem YH {t : TypeId} {x : Operand} {lo hi : Option Operand} : bj S ops (⟨d, .slice t x lo hi none, ty, pos, af, none⟩ :: rest) st K =
  rk (vS S t (st.ev S x).strip (lo.map fun x=>(st.ev S x).strip) (hi.map fun x=>(st.ev S x).strip)) ((st.ev S x).cond∧JA S st lo∧JA S st hi) (Sl.of fun r=>bj S ops rest (st.set d r) K):=by
 simp only [bj,gh];rw [eP (by simp) (by simp) (by simp) (fun _=>rfl)];cases lo <;> cases hi <;> simp [bK,Op.operands,bc,JA]
theorem Lq {x : Operand} : bj S ops (⟨d, .nilCheck x, ty, pos, af, none⟩ :: rest) st K =
  rk (HH (st.ev S x).strip) (st.ev S x).cond (Sl.of fun r=>bj S ops rest (st.set d r) K):=by
 simp only [bj,gh];rw [eP (by simp) (by simp) (by simp) (fun _=>rfl),show bK S st.bx (st.ev S) (.nilCheck x)=HH (st.ev S x).strip from rfl];simp [Op.operands,bc]
theorem a4Y {x : Operand} {t : TypeId} : bj S ops (⟨d, .call ⟨.builtin .len, #[x], #[t]⟩, ty, pos, af, none⟩ :: rest) st K =
  rk (DS S t (st.ev S x).strip) (st.ev S x).cond (Sl.of fun r=>bj S ops rest (st.set d r) K):=by
 simp only [bj,gh];rw [eP (by simp) (by simp) (by simp) (fun _=>by simp [fp])];simp [bK,Op.operands,Call.operands,bc]
theorem a4C {x y : Operand} {ts : Array TypeId} : bj S ops (⟨d, .call ⟨.builtin .min, #[x, y], ts⟩, ty, pos, af, none⟩ :: rest) st K =
  rk (RM (st.ev S x).strip (st.ev S y).strip) ((st.ev S x).cond∧(st.ev S y).cond) (Sl.of fun r=>bj S ops rest (st.set d r) K):=by
 simp only [bj,gh];rw [eP (by simp) (by simp) (by simp) (fun _=>by simp [fp]),show bK S st.bx (st.ev S) (.call ⟨.builtin .min, #[x,y],ts⟩)=RM (st.ev S x).strip (st.ev S y).strip from rfl];simp [Op.operands,Call.operands,bc]
theorem a5k {x y : Operand} {ts : Array TypeId} : bj S ops (⟨d, .call ⟨.builtin .max, #[x, y], ts⟩, ty, pos, af, none⟩ :: rest) st K =
  rk (Tw (st.ev S x).strip (st.ev S y).strip) ((st.ev S x).cond∧(st.ev S y).cond) (Sl.of fun r=>bj S ops rest (st.set d r) K):=by
 simp only [bj,gh];rw [eP (by simp) (by simp) (by simp) (fun _=>by simp [fp]),show bK S st.bx (st.ev S) (.call ⟨.builtin .max, #[x,y],ts⟩)=Tw (st.ev S x).strip (st.ev S y).strip from rfl];simp [Op.operands,Call.operands,bc]
def mk (x:Option (Prop × SV × St)) {K:SV→St→Prop} (_:Sl K):Prop :=
 match x with
 | some (vc,r,s)=>vc∧K r s
 | none=>False
theorem ZL {vc:Prop} {r:SV} {s:St} {K:SV→St→Prop}:mk (some (vc,r,s)) (Sl.of K)=(vc∧K r s):=rfl
def Gg (S:Env) (st:St) (t:TypeId):Option (Prop × SV × St) :=
 match S.zero t with
 | some z=>some (True, .b (.c (.ptr st.nx 0)),st.newBox (.fix (z.map CV.ofV)))
 | none=>none
def Za (st:St) (x:SV):Option (Prop × SV × St) :=
 match x with
 | .b v=>some (v.one, .b (.c (.ptr st.nx 0)),st.newBox (.fix v.cells))
 | _=>none
def ue (S:Env) (st:St) (t:TypeId) (ps:List (Nat × Operand)):Option (Prop × SV × St) :=
 match S.bld t,S.zero t with
 | some pl,some z=>match kR (tq pl) (st.ev S) ps (z.map CV.ofV) with
  | some (vc,cs)=>some (vc, .b (.agg cs),st)
  | none=>none
 | _,_=>none
def oH (S:Env) (st:St) (t:TypeId) (len:Nat) (ps:List (Nat × Operand)):Option (Prop × SV × St) :=
 match S.el t with
 | some (none,e,s,_)=>match S.zero e with
  | some z=>match kR (fun i=>some (i * s,s)) (st.ev S) ps ((List.range (len * s)).map fun i=>CV.ofV (z.getD (i % z.length) undef)) with
   | some (vc,cs)=>some (vc∧0<s∧z.length=s∧len * s≤16777216∧0≤len, .b (.c (.own st.nx len)),st.newBox (.arr e s len fun i j=>(cs.getD (i * s+j) .any).toP))
   | none=>none
  | none=>none
 | _=>none
def Fg (S:Env) (st:St) (t:TypeId) (p x:SV):Option (Prop × SV × St) :=
 match p,x,S.ti t with
 | .b (.c (.ptr id off)), .b v,some (sz,_)=>match st.bx id with
  | some (.fix cs)=>some (v.cells.length=sz∧off+sz≤cs.length∧v.one, .any,st.setBox id (.fix (mN cs off v.cells)))
  | _=>none
 | .b (.c (.pel id s i off)), .b v,some (sz,_)=>match st.bx id with
  | some (.arr e s' n f) => some (s = s' ∧ i < n ∧ off + sz ≤ s ∧ v.cells.length = sz ∧ v.one ∧ v.lt 0, .any,
    st.setBox id (.arr e s' n fun i' j=>if i'=i then (if off≤j∧j<off+sz then (v.cells.getD (j - off) .any).toP else f i j) else f i' j))
  | _=>none
 | _,_,_=>none
def Env.byt (S:Env) (e:TypeId):Option Nat:=(S.P.info? e).map (·.bytes)
def Mo (S:Env) (st:St) (t:TypeId) (fz:Bool) (l c:SV):Option (Prop × SV × St) :=
 match l,c,S.el t with
 | .b (.c (.p (.val (.int _ l)))), .b (.c (.p (.val (.int _ c)))),some (none,e,s,_)=>match S.zero e,S.byt e with
  | some z, some by' => some (0 ≤ l ∧ l ≤ c ∧ (by' : Int) * c ≤ 281474976710656 ∧ c ≤ 9223372036854775807 ∧ 0 < s ∧ z.length = s,
    mkV fz st.nx s l.toNat z,st.newBoxO (mkB fz e s l.toNat z))
  | _,_=>none
 | _,_,_=>none
def zn (S:Env) (st:St) (t t':TypeId) (x y:SV):Option (Prop × SV × St) :=
 match S.el t,yE st.bx y with
 | some (none,e,s,_),some (vc,sz,m,g)=>match S.byt e,S.zero e,x with
  | some by',some z, .b (.c (.p (.val (.slice none 0 0)))) =>
   some (vc∧t=t'∧(sz=s∨m=0)∧0<s∧z.length=s∧m * by'≤140737488355328∧m≤maxLen, .b (.c (.own st.nx m)),st.newBox (.arr e s m g))
  | some by',some z, .b (.c (.own id n))=>match st.bx id with
   | some (.arr e' s' n' f) =>
    some (vc∧t=t'∧e=e'∧s=s'∧n≤n'∧(sz=s∨m=0)∧0<s∧z.length=s∧(n+m) * by'≤140737488355328∧n+m≤maxLen,
     .b (.c (.own st.nx (n+m))),(st.delBox id).newBox (.arr e s (n+m) (dV n f g)))
   | _=>none
  | _,_,_=>none
 | _,_=>none
def Na (S:Env) (st:St) (t:TypeId) (x y:SV):Option (Prop × SV × St) :=
 match S.el t,x,y with
 | some (none,_,s,_), .b (.c (.sub id s1 lo n)), .b (.c (.p (.lst sz m g)))=>match st.bx id with
  | some (.arr e' s2 n' f)=>some (s1=s∧s2=s∧sz=s∧n≤m∧lo+n≤n'∧0<n, .b (.c (.p (.val (.int .i64 n)))),st.setBox id (.arr e' s2 n' fun i j=>if lo≤i∧i<lo+n then g (i - lo) j else f i j))
  | _=>none
 | _,_,_=>none
theorem Xy {t t':TypeId} {x y:Operand} {K:SV→St→Prop}:fp S st (st.ev S) (.call ⟨.builtin .copy, #[x,y], #[t,t']⟩) K=mk (Na S st t (st.ev S x).strip (st.ev S y).strip) (Sl.of K):=by
 simp only [fp,Na];grind [mk]
theorem Rg {t:TypeId} {K:SV→St→Prop}:fp S st (st.ev S) (.alloc t) K=mk (Gg S st t) (Sl.of K):=by grind [fp,mk,Gg]
theorem a3V {t:TypeId} {x:Operand} {K:SV→St→Prop}:fp S st (st.ev S) (.box t x) K=mk (Za st (st.ev S x).strip) (Sl.of K):=by grind [fp,mk,Za]
theorem II {t:TypeId} {ps:Array (Nat × Operand)} {K:SV→St→Prop}:fp S st (st.ev S) (.build t ps) K=mk (ue S st t ps.toList) (Sl.of K):=by grind [fp,mk,ue]
theorem CI {t:TypeId} {n:Nat} {ps:Array (Nat × Operand)} {K:SV→St→Prop}:fp S st (st.ev S) (.buildSlice t n ps) K=mk (oH S st t n ps.toList) (Sl.of K):=by grind [fp,mk,oH]
theorem To {t:TypeId} {p x:Operand} {K:SV→St→Prop}:fp S st (st.ev S) (.store t p x) K=mk (Fg S st t (st.ev S p).strip (st.ev S x).strip) (Sl.of K):=by
 simp only [fp,Fg];split
 ·grind [mk]
 ·grind [mk]
 grind [mk]
theorem WK {t:TypeId} {l c:Operand} {K:SV→St→Prop}:fp S st (st.ev S) (.makeSlice t l c) K=mk (Mo S st t (S.frz t l) (st.ev S l).strip (st.ev S c).strip) (Sl.of K):=by
 simp only [fp,Mo,Env.byt];split
 ·rename_i e s _ _ _ _;cases hz:S.zero e with
  | none=>simp_all [mk]
  | some z =>
   cases hi:S.P.info? e with
   | none=>simp_all [mk]
   | some i=>simp_all [mk]
 grind [mk]
theorem Qd {t t':TypeId} {x y:Operand} {K:SV→St→Prop}:fp S st (st.ev S) (.call ⟨.builtin .append, #[x,y], #[t,t']⟩) K=mk (zn S st t t' (st.ev S x).strip (st.ev S y).strip) (Sl.of K):=by
 simp only [fp,zn,Env.byt];split
 ·rename_i e s ag vc sz m g _ _;cases hi:S.P.info? e with
  | none=>simp_all [mk]
  | some i =>
   cases hz:S.zero e with
   | none=>simp_all [mk]
   | some z =>
    simp only [*,Option.map_some];split
    ·simp_all [mk]
    ·grind [mk]
    grind [mk]
 grind [mk]
theorem yO {o:Oper} {K':St→Prop} (hro:ro S st.bx (st.ev S) o.op=none):lO S st o K'=(bc (o.op.operands.toList.map (st.ev S))∧fp S st (st.ev S) o.op fun r st'=>K' (st'.set o.dst r)):=by grind [lO,ro]
theorem VO {t : TypeId} : bj S ops (⟨d, .alloc t, ty, pos, af, none⟩ :: rest) st K =
  mk (Gg S st t) (Sl.of fun r st'=>bj S ops rest (st'.set d r) K):=by
 simp only [bj,gh];rw [yO rfl,Rg];simp [Op.operands,bc]
theorem a5F {t : TypeId} {x : Operand} : bj S ops (⟨d, .box t x, ty, pos, af, none⟩ :: rest) st K =
  ((st.ev S x).cond∧mk (Za st (st.ev S x).strip) (Sl.of fun r st'=>bj S ops rest (st'.set d r) K)):=by
 simp only [bj,gh];rw [yO rfl,a3V];simp [Op.operands,bc]
theorem Xw {t : TypeId} {ps : Array (Nat × Operand)} : bj S ops (⟨d, .build t ps, ty, pos, af, none⟩ :: rest) st K =
  (bc (ps.toList.map fun p=>st.ev S p.2)∧mk (ue S st t ps.toList) (Sl.of fun r st'=>bj S ops rest (st'.set d r) K)):=by
 simp only [bj,gh];rw [yO rfl,II];simp [Op.operands];exact fun _=>Iff.rfl
theorem Gl {t : TypeId} {n : Nat} {ps : Array (Nat × Operand)} : bj S ops (⟨d, .buildSlice t n ps, ty, pos, af, none⟩ :: rest) st K =
  (bc (ps.toList.map fun p=>st.ev S p.2)∧mk (oH S st t n ps.toList) (Sl.of fun r st'=>bj S ops rest (st'.set d r) K)):=by
 simp only [bj,gh];rw [yO rfl,CI];simp [Op.operands];exact fun _=>Iff.rfl
theorem Zs {t : TypeId} {x y : Operand} : bj S ops (⟨d, .store t x y, ty, pos, af, none⟩ :: rest) st K =
  (((st.ev S x).cond∧(st.ev S y).cond)∧mk (Fg S st t (st.ev S x).strip (st.ev S y).strip) (Sl.of fun r st'=>bj S ops rest (st'.set d r) K)):=by
 simp only [bj,gh];rw [yO rfl,To];simp [Op.operands,bc]
theorem a2K {t : TypeId} {x y : Operand} : bj S ops (⟨d, .makeSlice t x y, ty, pos, af, none⟩ :: rest) st K =
  (((st.ev S x).cond∧(st.ev S y).cond)∧mk (Mo S st t (S.frz t x) (st.ev S x).strip (st.ev S y).strip) (Sl.of fun r st'=>bj S ops rest (st'.set d r) K)):=by
 simp only [bj,gh];rw [yO rfl,WK];simp [Op.operands,bc]
theorem UL {x y : Operand} {t t' : TypeId} : bj S ops (⟨d, .call ⟨.builtin .append, #[x, y], #[t, t']⟩, ty, pos, af, none⟩ :: rest) st K =
  (((st.ev S x).cond∧(st.ev S y).cond)∧mk (zn S st t t' (st.ev S x).strip (st.ev S y).strip) (Sl.of fun r st'=>bj S ops rest (st'.set d r) K)):=by
 simp only [bj,gh];rw [yO rfl,Qd];simp [Op.operands,Call.operands,bc]
theorem a1L {x y : Operand} {t t' : TypeId} : bj S ops (⟨d, .call ⟨.builtin .copy, #[x, y], #[t, t']⟩, ty, pos, af, none⟩ :: rest) st K =
  (((st.ev S x).cond∧(st.ev S y).cond)∧mk (Na S st t (st.ev S x).strip (st.ev S y).strip) (Sl.of fun r st'=>bj S ops rest (st'.set d r) K)):=by
 simp only [bj,gh];rw [yO rfl,Xy];simp [Op.operands,Call.operands,bc]
theorem a1J {f : FuncId} {args : Array Operand} {ts : Array TypeId} : bj S ops (⟨d, .call ⟨.value (.func f), args, ts⟩, ty, pos, af, none⟩ :: rest) st K =
  (bc (args.toList.map (st.ev S))∧dY S st f (args.toList.map fun x=>fS (st.ev S x)) (Sl.of fun r st'=>bj S ops rest (st'.set d r) K)):=by
 simp only [bj,gh];rw [yO (by simp [ro,bK])];simp [Op.operands,Call.operands,bc,fp,St.ev,SV.cond,dY]
end
section
variable {S:Env} {ops:Array Oper} {rest:List Oper} {st:St} {K:St→Prop} {d:Option Nat} {ty:TypeId} {pos:String} {af:Array Edge} {j:Nat} {want:Bool} {bx:Nat→Option Bx} {ev:Operand→SV}
theorem lF {op:Op} (hr:∀ x,op ≠ .move x) (ha:∀ x,op ≠ .assign x) (hp:∀ c x y,op ≠ .pick c x y):ro S bx ev op=rc (bK S bx ev op) (bc (op.operands.toList.map ev)):=by
 unfold ro rc;grind
theorem Zh {x:Operand}:ro S bx ev (.move x)=some (True,ev x):=rfl
theorem Pg {x:Operand}:ro S bx ev (.assign x)=some (True,ev x):=rfl
theorem a0v {c x y:Operand}:ro S bx ev (.pick c x y)=xo (ev c) (ev x) (ev y):=rfl
theorem tc {t:TypeId} {x:Operand}:ro S bx ev (.load t x)=rc (fw S t bx (ev x).strip) (ev x).cond:=by rw [lF (by simp) (by simp) (by simp)];simp [bK,Op.operands,bc]
theorem FU {t:TypeId} {x:Operand} {f:Nat}:ro S bx ev (.fieldAddr t x f)=rc (lX S t f (ev x).strip) (ev x).cond:=by rw [lF (by simp) (by simp) (by simp)];simp [bK,lX,Op.operands,bc];rfl
theorem RH {t:TypeId} {x:Operand} {f:Nat}:ro S bx ev (.field t x f)=rc (sT S t f (ev x).strip) (ev x).cond:=by rw [lF (by simp) (by simp) (by simp)];simp [bK,Op.operands,bc]
theorem FY {t:TypeId} {x i:Operand}:ro S bx ev (.indexAddr t x i)=rc (kq S t (ev x).strip (ev i).strip) ((ev x).cond∧(ev i).cond):=by rw [lF (by simp) (by simp) (by simp)];simp [bK,Op.operands,bc]
theorem Sr {t:TypeId} {x i:Operand}:ro S bx ev (.index t x i)=rc (sZ S t (ev x).strip (ev i).strip) ((ev x).cond∧(ev i).cond):=by rw [lF (by simp) (by simp) (by simp)];simp [bK,Op.operands,bc]
theorem a1T {op:BinOp} {t yt:TypeId} {x y:Operand}:ro S bx ev (.binOp op t x y yt)=rc (DT S op t (ev x).strip (ev y).strip) ((ev x).cond∧(ev y).cond):=by rw [lF (by simp) (by simp) (by simp)];simp [bK,Op.operands,bc]
theorem a7e {op:UnOp} {t:TypeId} {x:Operand}:ro S bx ev (.unOp op t x)=rc (PE op (ev x).strip) (ev x).cond:=by rw [lF (by simp) (by simp) (by simp)];simp [bK,Op.operands,bc]
theorem Zl {s t:TypeId} {x:Operand}:ro S bx ev (.convert s t x)=rc (wW S s t (ev x).strip) (ev x).cond:=by rw [lF (by simp) (by simp) (by simp)];simp [bK,Op.operands,bc]
theorem Iy {x:Operand}:ro S bx ev (.nilCheck x)=rc (HH (ev x).strip) (ev x).cond:=by rw [lF (by simp) (by simp) (by simp)];simp [bK,HH,Op.operands,bc];rfl
theorem a2z {x:Operand} {t:TypeId}:ro S bx ev (.call ⟨.builtin .len, #[x], #[t]⟩)=rc (DS S t (ev x).strip) (ev x).cond:=by rw [lF (by simp) (by simp) (by simp)];simp [bK,Op.operands,Call.operands,bc]
theorem a7M {op : Op} : bj S ops (⟨d, op, ty, pos, af, some (j, want)⟩ :: rest) st K =
  rg (mz st ((ops[j]?).bind (·.dst)) want) st.nx (ro S st.bx (st.ev S) op) (Sl.of fun r=>bj S ops rest (st.set d r) K) (Sl.of (bj S ops (⟨d,op,ty,pos,af,some (j,want)⟩ :: rest) st K)):=by
 unfold rg;split
 ·rename_i g vc r h1 h2;simp only [bj,gh];grind
 ·rename_i g vc u r h1 h2;simp only [bj,gh];grind
 ·rfl
theorem a3a {f : FuncId} {args : Array Operand} {ts : Array TypeId} : bj S ops (⟨d, .call ⟨.value (.func f), args, ts⟩, ty, pos, af, some (j, want)⟩ :: rest) st K =
  rgm (mz st ((ops[j]?).bind (·.dst)) want) (bc (args.toList.map (st.ev S))) S st f (args.toList.map fun x=>fS (st.ev S x)) d (Sl.of fun st'=>bj S ops rest st' K):=by
 simp only [bj,gh];cases mz st ((ops[j]?).bind (·.dst)) want with
 | none=>rfl
 | some g =>
  simp only [rgm];rw [show ro S st.bx (st.ev S) (.call ⟨.value (.func f),args,ts⟩)=none by simp [ro,bK]];have hm : ∀ K' : St → Prop, lO S st ⟨d, .call ⟨.value (.func f), args, ts⟩, ty, pos, af, some (j, want)⟩ K' =
    (bc (args.toList.map (st.ev S))∧CallP S st f (args.toList.map fun x=>fS (st.ev S x)) fun r st'=>K' (st'.set d r)):=fun K'=>by
   rw [yO (by simp [ro,bK])];simp [Op.operands,Call.operands,bc,fp,St.ev,SV.cond]
  grind
end
def rgB (g:Option Bool) (nx:Nat) (x:Option (Prop × SV × St)) (c:Prop) {K:SV→Prop} (_:Sl K) {p:Prop} (_:Sl p):Prop :=
 match g,x with
 | some g,some (vc, .b r,_)=>(r.lt nx∧(g=true→c∧vc)∧K (.grd g r))∨p
 | _,_=>p
theorem UP {vc c:Prop} {r:BV} {K:SV→Prop} {g:Bool} {nx:Nat} {p:Prop} {q:Sl p} {s:St} (h:r.lt nx∧(g=true→c∧vc)∧K (.grd g r)):rgB (some g) nx (some (vc, .b r,s)) c (Sl.of K) q := .inl h
section
variable {S:Env} {ops:Array Oper} {rest:List Oper} {st:St} {K:St→Prop} {d:Option Nat} {ty:TypeId} {pos:String} {af:Array Edge} {j:Nat} {want:Bool}
theorem Py {t:TypeId} {ps:List (Nat × Operand)} {vc:Prop} {r:SV} {s:St} (h:ue S st t ps=some (vc,r,s)):s=st:=by
 unfold ue at h;grind
theorem VR {t : TypeId} {ps : Array (Nat × Operand)} : bj S ops (⟨d, .build t ps, ty, pos, af, some (j, want)⟩ :: rest) st K =
  rgB (mz st ((ops[j]?).bind (·.dst)) want) st.nx (ue S st t ps.toList) (bc (ps.toList.map fun p=>st.ev S p.2)) (Sl.of fun r=>bj S ops rest (st.set d r) K) (Sl.of (bj S ops (⟨d, .build t ps,ty,pos,af,some (j,want)⟩ :: rest) st K)):=by
 unfold rgB;split
 ·rename_i g vc r s h1 h2;have hs:=Py h2;subst hs;refine propext ⟨fun h => .inr h,fun h => ?_⟩;rcases h with h|h
  ·simp only [bj,gh];rw [h1];have hro:ro S s.bx (s.ev S) (.build t ps)=none:=rfl;simp only [hro];refine .inr ⟨r,h.1,fun hg => ?_,h.2.2⟩;rw [yO hro];refine ⟨?_, ?_⟩
   ·have:=(h.2.1 hg).1;simp only [Op.operands,List.map_map];exact this
   grind [fp,mk,II]
  ·exact h
 ·rfl
end
section
variable {S:Env} {ops:Array Oper} {rest:List Oper} {st:St} {K:St→Prop} {d:Option Nat} {ty:TypeId} {pos:String} {af:Array Edge} {gd:Nat × Bool}
theorem a2u {t:Nat}:st.ev S (.tmp t)=st.fr t:=rfl
theorem QZ {v:Value}:st.ev S (.const v) = .b (.c (.p (.val v))):=rfl
theorem WB {f:Nat}:st.ev S (.func f) = .v (.func (.func f) #[] #[]):=rfl
theorem Oi {g:Nat}:st.ev S (.global g)=(match S.gl g with|some (n,f) => .b (.c (.ipt n f 0))|none => .any):=rfl
theorem QQ {v:SV}:st.set none v=st:=rfl
theorem a1W {k s:Nat} {v:SV}:(st.set (some k) v).fr s=if s=k then v else st.fr s:=rfl
theorem eR {k:Option Nat} {v:SV}:(st.set k v).bx=st.bx:=by cases k <;> rfl
theorem gV {k:Option Nat} {v:SV}:(st.set k v).nx=st.nx:=by cases k <;> rfl
theorem Pk {x:Bx}:(st.newBox x).fr=st.fr:=rfl
theorem Pp {x:Bx} {i:Nat}:(st.newBox x).bx i=if i=st.nx then some x else st.bx i:=rfl
theorem kZ {x:Bx}:(st.newBox x).nx=st.nx+1:=rfl
theorem Zx {x:Option Bx}:(st.newBoxO x).fr=st.fr:=rfl
theorem Wm {x:Option Bx} {i:Nat}:(st.newBoxO x).bx i=if i=st.nx then x else st.bx i:=rfl
theorem YJ {x:Option Bx}:(st.newBoxO x).nx=st.nx+1:=rfl
theorem Zr {x:Option Bx}:(st.newBoxO x).kf=st.kf:=rfl
theorem Pz {x:Bx} {i:Nat}:(st.setBox i x).fr=st.fr:=rfl
theorem PH {x:Bx} {i j:Nat}:(st.setBox i x).bx j=if j=i then some x else st.bx j:=rfl
theorem lk {x:Bx} {i:Nat}:(st.setBox i x).nx=st.nx:=rfl
theorem ON {i:Nat}:(st.delBox i).fr=st.fr:=rfl
theorem Qe {i j:Nat}:(st.delBox i).bx j=if j=i then none else st.bx j:=rfl
theorem lp {i:Nat}:(st.delBox i).nx=st.nx:=rfl
theorem a1l {args:List BV}:(zy args).fr=mB args 0:=rfl
theorem a1Y {args:List BV} {i:Nat}:(zy args).bx i=none:=rfl
theorem a4b {args:List BV}:(zy args).nx=0:=rfl
theorem a4g {cs:List PV} {args:List BV} {s:Nat}:(st1 cs args).fr s=if s=0 then .b (.c (.ptr 0 0)) else mB args 1 s:=rfl
theorem a3O {cs:List PV} {args:List BV} {i:Nat}:(st1 cs args).bx i=if i=0 then some (.fix (cs.map CV.p)) else none:=rfl
theorem a3B {cs:List PV} {args:List BV}:(st1 cs args).nx=1:=rfl
theorem JG {k s:Nat}:mB [] k s = .any:=rfl
theorem GT {x:BV} {r:List BV} {k s:Nat}:mB (x :: r) k s=if s=k then .b x else mB r (k+1) s:=rfl
theorem TR {s:Nat}:ma [] s = .any:=rfl
theorem DM {k s:Nat} {v:SV} {r:List (Nat × SV)}:ma ((k,v) :: r) s=if s=k then v else ma r s:=rfl
theorem RW {s:Nat}:iP [] s=none:=rfl
theorem mV {k s:Nat} {v:Bx} {r:List (Nat × Bx)}:iP ((k,v) :: r) s=if s=k then some v else iP r s:=rfl
theorem YO {x:BV}:(SV.b x).strip = .b x:=rfl
theorem Ox {p:Bool} {x:BV}:(SV.grd p x).strip = .b x:=rfl
theorem Pn {x:List BV}:(SV.tup x).strip = .tup x:=rfl
theorem a1K {x:BV}:(SV.b x).cond=True:=rfl
theorem Re {p:Bool} {x:BV}:(SV.grd p x).cond=(p=true):=rfl
theorem SB {x:List BV}:(SV.tup x).cond=True:=rfl
theorem SJ {x:BV}:fS (.b x)=x:=rfl
theorem KI {p:Bool} {x:BV}:fS (.grd p x)=x:=rfl
theorem Hw:bc []=True:=rfl
theorem Ga {x:SV} {r:List SV}:bc (x :: r)=(x.cond∧bc r):=rfl
theorem Lm:JA S st none=True:=rfl
theorem Lu {x:Operand}:JA S st (some x)=(st.ev S x).cond:=rfl
theorem ae {n:St→Prop} {Q:AExit→St→Prop}:ku n Q .normal st=n st:=rfl
theorem PS {n:St→Prop} {Q:AExit→St→Prop}:ku n Q .ret st=Q .ret st:=rfl
theorem JI {n:St→Prop} {Q:AExit→St→Prop} {id:Nat}:ku n Q (.exit id) st=Q (.exit id) st:=rfl
theorem dJ {id:Nat} {Q:AExit→St→Prop}:oQ id Q .normal st=Q .normal st:=rfl
theorem Kd {id:Nat} {Q:AExit→St→Prop}:oQ id Q .ret st=Q .ret st:=rfl
theorem IU {id id':Nat} {Q:AExit→St→Prop}:oQ id Q (.exit id') st=if id'=id then Q .normal st else Q (.exit id') st:=rfl
theorem Qk {rs:List ResultVar} {R:SV→Prop}:YV S rs R .ret st=FG S rs R st:=rfl
theorem Ju {rs:List ResultVar} {R:SV→Prop}:YV S rs R .normal st=FG S rs R st:=rfl
theorem SC {rs:List ResultVar} {R:SV→List PV→Prop}:a4G S rs R .ret st=UF S rs R st:=rfl
theorem Jy {rs:List ResultVar} {R:SV→List PV→Prop}:a4G S rs R .normal st=UF S rs R st:=rfl
end
section
variable {S:Env} {st:St} {Q:AExit→St→Prop}
theorem jM {id:Nat} {l:List Oper} {y:Code} (h:∀ K:St→Prop,(∀ s,cw S y Q s→K s)→bj S l.toArray l st K):cw S (.seq (.region id l.toArray false) y) Q st :=
 zB (xv (h _ fun _ h=>h))
theorem uS {id:Nat} {l:List Oper} (h:∀ K:St→Prop,(∀ s,Q .normal s→K s)→bj S l.toArray l st K):cw S (.region id l.toArray false) Q st :=
 xv (h _ fun _ h=>h)
theorem sx {id : Nat} {l : List Oper} {y : Code} (hd : BH S.rcv l.toArray (fun i => (Region.before l.toArray).getD i 0) = true) (hm : dc l.toArray (fun i => (Region.before l.toArray).getD i 0) = true)
  (h:∀ K:St→Prop,(∀ s,cw S y Q s→K s)→bj S l.toArray l st K):cw S (.seq (.region id l.toArray true) y) Q st :=
 zB (MS hd hm (h _ fun _ h=>h))
theorem Vf {id : Nat} {l : List Oper} (hd : BH S.rcv l.toArray (fun i => (Region.before l.toArray).getD i 0) = true) (hm : dc l.toArray (fun i => (Region.before l.toArray).getD i 0) = true)
  (h:∀ K:St→Prop,(∀ s,Q .normal s→K s)→bj S l.toArray l st K):cw S (.region id l.toArray true) Q st :=
 MS hd hm (h _ fun _ h=>h)
theorem gQ {x y z:Code} (h:cw S (.seq x (.seq y z)) Q st):cw S (.seq (.seq x y) z) Q st :=
 fJ x (fun e s hs=>by cases e <;> exact hs) h
theorem DK {c:Operand} {x y z:Code} {t:Bool} (hc:st.ev S c = .t t) (h1:t=true→cw S (.seq x z) Q st) (h2:t=false→cw S (.seq y z) Q st):cw S (.seq (.cond c x y) z) Q st :=
 qG hc h1 h2
theorem Un {z:Code} (h:cw S z Q st):cw S (.seq .skip z) Q st := .inr h
theorem oc {z:Code} (h:Q .ret st):cw S (.seq .ret z) Q st:=h
theorem Tm {z:Code} {id:Nat} (h:Q (.exit id) st):cw S (.seq (.exit id) z) Q st:=h
theorem eo {z x:Code} {id:Nat} (h:∀ K:St→Prop,(∀ s,cw S z Q s→K s)→cw S x (oQ id (ku K Q)) st):cw S (.seq (.block id x) z) Q st :=
 zB (h _ fun _ h=>h)
end
def iy:List BV→Prop
 | []=>True
 | x :: r=>x.lt 0∧iy r
theorem bN:∀ {l:List BV},iy l→∀ x ∈ l,BV.lt 0 x
 | _ :: _,h,_, .head _=>h.1
 | _ :: _,h,_, .tail _ hm=>bN h.2 _ hm
theorem ik:∀ (l:List BV),ju l l
 | []=>trivial
 | _ :: r=>⟨fun _ _ _ _ h=>h,ik r⟩
section
variable {S:Env} {st:St} {f:FuncId} {args args':List BV} {K:SV→St→Prop}
theorem zp {X:SV} (h:aB S f args (fun r=>r=X)) (hl:iy args) (hk:K X st):dY S st f args (Sl.of K) :=
 .pure args _ h (ik _) (bN hl) hk
theorem SH {X:SV} (h:HT S f args X) (hl:iy args) (hk:K X st):dY S st f args (Sl.of K) := .ext args X h (ik _) (bN hl) hk
theorem FD {X:SV} (hk:K X st) (ha:args=args') (hl:iy args') (h:aB S f args' (fun r=>r=X)):dY S st f args (Sl.of K) :=
 .pure args' _ h (ha ▸ ik _) (bN hl) hk
theorem Si {X:BV} {g:Bool} {c:Prop} {d:Option Nat} {K:St→Prop} (h:g=true→aB S f args (fun r=>r = .b X)) (hl:iy args) (hx:X.lt st.nx) (hc:g=true→c) (hk:K (st.set d (.grd g X))):rgm (some g) c S st f args d (Sl.of K) :=
 .inr ⟨X,hx,fun hg=>⟨hc hg, .pure args _ (h hg) (ik _) (bN hl) rfl⟩,hk⟩
end
attribute [go_sem] List.getElem?_toArray Option.bind_some Option.map_some Option.map_none Option.getD_some Option.getD_none true_and and_true List.drop_succ_cons List.drop_zero List.drop_nil List.take_succ_cons List.take_zero List.take_nil List.getD_cons_zero List.getD_cons_succ List.getD_nil List.length_cons List.length_nil List.map_cons List.map_nil List.cons_append List.nil_append List.append_nil List.getElem?_cons_zero List.getElem?_cons_succ iy cond_true cond_false
def lE (nx:Nat):List CV→Prop
 | []=>True
 | x :: r=>CV.lt nx x∧lE nx r
theorem oi {nx:Nat}:∀ {l:List CV},lE nx l↔∀ c ∈ l,CV.lt nx c
 | []=>by simp [lE]
 | x :: r=>by simp [lE,oi (l:=r)]
def yB (nx:Nat):List BV→Prop
 | []=>True
 | x :: r=>BV.lt nx x∧yB nx r
theorem DN {nx:Nat}:∀ {l:List BV},yB nx l↔∀ c ∈ l,BV.lt nx c
 | []=>by simp [yB]
 | x :: r=>by simp [yB,DN (l:=r)]
section
variable {nx:Nat}
theorem a3g {cs:List CV}:BV.lt nx (.agg cs)=lE nx cs:=propext oi.symm
theorem a6S {l:List PV}:BV.lt nx (.agg (l.map CV.p))=True:=by simp [BV.lt,CV.lt]
theorem a0r {l:List PV}:lE nx (l.map CV.p)=True:=by rw [oi];simp [CV.lt]
theorem a7T {x:CV}:BV.lt nx (.c x)=CV.lt nx x:=rfl
theorem a6R {x:PV}:CV.lt nx (.p x)=True:=rfl
theorem a2F {i o:Nat}:CV.lt nx (.ptr i o)=(i<nx):=rfl
theorem a3e {i s o n:Nat}:CV.lt nx (.pel i s n o)=(i<nx):=rfl
theorem a1s {i n:Nat}:CV.lt nx (.own i n)=(i<nx):=rfl
theorem a1o {s o:Nat} {g:Nat→PV}:CV.lt nx (.ipt s g o)=True:=rfl
theorem a2O:lE nx []=True:=rfl
theorem Ze {x:CV} {r:List CV}:lE nx (x :: r)=(CV.lt nx x∧lE nx r):=rfl
theorem XO:yB nx []=True:=rfl
theorem Tb {x:BV} {r:List BV}:yB nx (x :: r)=(BV.lt nx x∧yB nx r):=rfl
theorem a7j {x:BV}:SV.lt nx (.b x)=BV.lt nx x:=rfl
theorem ZQ {x:List BV}:SV.lt nx (.tup x)=yB nx x:=propext DN.symm
theorem YL {x:BV} {p:Bool}:SV.lt nx (.grd p x)=BV.lt nx x:=rfl
theorem YK:SV.lt nx .any=True:=rfl
theorem WU {l:List CV}:Bx.lt nx (.fix l)=lE nx l:=propext oi.symm
theorem Yn {e s n:Nat} {f:Nat→Nat→PV}:Bx.lt nx (.arr e s n f)=True:=rfl
end
attribute [go_sem] a3g a0r a7T a6R a2F a3e a1s a1o a2O Ze XO Tb a7j ZQ YL YK WU Yn
attribute [go_sem ↓] a6S
attribute [go_sem ↓] a7M
attribute [go_sem ↓ 1100] a3a VR
attribute [go_sem] Zh Pg a0v tc FU RH FY Sr a1T a7e Zl Iy a2z
attribute [go_sem] Xh Zq a1c ZL Yp
attribute [go_sem ↓] a7d a3o UJ a4w a1a Js Xn GN Yi Pr a6a a8B a2Y YH Lq a4Y a4C a5k VO a5F Xw Gl Zs a2K UL a1L a1J
attribute [go_sem] a5m a5t a6v a4O Oq Zx Wm YJ Zr
attribute [go_sem] a2u QZ WB Oi QQ a1W eR gV Pk Pp kZ Pz PH lk ON Qe lp a1l a1Y a4b a4g a3O a3B JG GT TR DM RW mV YO Ox Pn a1K Re SB SJ KI Hw Ga Lm Lu ae PS JI dJ Kd IU Qk Ju SC Jy
attribute [go_sem] rH xo fw rC sT kq sZ DT Su PE wW DS lX xq HH RM Tw vS HR? Gg Za ue oH Fg Mo zn Na kR tq mN yE BV.cells BV.one CV.one CV.ofV CV.toP mz FG wP Wa UF LO iV gq qD
end
section
open Go.RowKit (wrap64)
theorem eK {n:Int} (h1 : -9223372036854775808≤n) (h2:n≤9223372036854775807):IntKind.i64.wrap n=n:=IntWalk.i64_in n ⟨h1,h2⟩
theorem a5U {n:Int} (h1:0≤n) (h2:n≤65535):IntKind.u16.wrap n=n:=IntWalk.u16_in n ⟨h1,h2⟩
theorem rI {n:Int} (h1:0≤n) (h2:n≤18446744073709551615):IntKind.u64.wrap n=n:=by grind [IntKind.wrap,IntKind.bits,IntKind.signed]
theorem Ms {n k:Int}:((n.tdiv k).natAbs)≤n.natAbs:=by rw [Int.natAbs_tdiv];exact Nat.div_le_self _ _
theorem If {n k:Int} (h1 : -9223372036854775808≤n) (h2:n≤9223372036854775807) (hk:2≤k):IntKind.i64.wrap (n.tdiv k)=n.tdiv k:=by
 have h := @Ms n k;refine eK (by omega) ?_;by_cases h0:n = -9223372036854775808
 ·subst h0;have:(-9223372036854775808:Int).tdiv k≤0:=by
   rw [Int.neg_tdiv];have:=Int.tdiv_nonneg (a:=9223372036854775808) (b:=k) (by omega) (by omega);omega
  omega
 ·omega
theorem Ar (n:Int) : -9223372036854775808≤IntKind.i64.wrap n∧IntKind.i64.wrap n≤9223372036854775807:=by grind [IntKind.wrap,IntKind.bits,IntKind.signed]
theorem Tn {a b:Int} (h:0≤a):a.tdiv b=a / b:=Int.tdiv_eq_ediv_of_nonneg h
theorem a6b {a b:Int} (h:0≤a):a.tmod b=a % b:=Int.tmod_eq_emod_of_nonneg h
def aQ {α:Type} [Inhabited α] (enc:α→List PV) (xs:List α):Nat→Nat→PV:=fun i j=>(enc (xs.getD i default)).getD j .any
theorem PV.le_refl (x:PV):PV.le x x:=fun _ _ _ h=>h
theorem bP {sz:Nat} {f:Nat→Nat→PV}:PV.le (.val (.slice none 0 0)) (.lst sz 0 f):=fun _ _ u h=>by grind [bq,World.cell?,Value.oneCell']
theorem gX {sz n:Nat} {f g:Nat→Nat→PV} (h:∀ i,i<n→∀ j,j<sz→f i j=g i j):PV.le (.lst sz n f) (.lst sz n g):=fun _ _ u hu=>by grind [World.cell?,Value.oneCell',bq]
theorem Xb {k:IntKind} {n:Int}:(Value.int k n).oneCell'=true:=rfl
theorem TO {b:Bool}:(Value.bool b).oneCell'=true:=rfl
theorem Li {s:ByteArray}:(Value.string s).oneCell'=true:=rfl
theorem PM {o n:Nat}:(Value.slice none o n).oneCell'=true:=rfl
attribute [go_sem] Xb TO Li PM
theorem Qz {α:Type} [Inhabited α] {enc:α→List PV} {xs:List α} {i j:Nat}:aQ enc xs i j=(enc (xs.getD i default)).getD j .any:=rfl
theorem OM:maxLen=9223372036854775807:=by decide
attribute [go_sem] OM
theorem WD {a b:Bool}:(bif a then b else false)=(a && b):=by grind
theorem a4y {a b:Bool}:(bif a then true else b)=(a || b):=by grind
attribute [go_sem] WD a4y
theorem gD {α : Type} [Inhabited α] {enc : α → List PV} {xs : List α} {x : α} {s : Nat} {g : Nat → Nat → PV} (hg : ∀ j, j < s → g 0 j = (enc x).getD j .any) :
  ∀ i,i<xs.length+1→∀ j,j<s→PV.le (dV xs.length (aQ enc xs) g i j) (aQ enc (xs ++ [x]) i j):=fun i hi j hj=>by
 grind [dV,aQ,PV.le,PV.le_refl]
attribute [go_sem] Qz
end
section
def atN (s1:St):AExit→St→Prop
 | .normal,s=>s=s1
 | _,_=>False
theorem bd {s:St}:atN s .normal s:=rfl
def St.ite (t:Bool) (s1 s2:St):St :=
 { fr:=fun k=>if t=true then s1.fr k else s2.fr k,bx:=fun i=>if t=true then s1.bx i else s2.bx i,nx:=if t=true then s1.nx else s2.nx,kf:=fun k=>if t=true then s1.kf k else s2.kf k }
def yp:Code→Bool
 | .skip=>true
 | .region .. => true
 | .seq x y=>yp x && yp y
 | .cond _ x y=>yp x && yp y
 | .label _=>true
 | _=>false
section
variable {S:Env} {st:St} {Q:AExit→St→Prop}
theorem dC {c : Operand} {x y z : Code} {t : Bool} {s1 s2 : St} (hf : (yp x && yp y) = true) (hc : st.ev S c = .t t) (h1 : t = true → cw S x (atN s1) st) (h2 : t = false → cw S y (atN s2) st)
  (h:cw S z Q (St.ite t s1 s2)):cw S (.seq (.cond c x y) z) Q st:=by
 refine zB (qG hc (fun ht => ?_) fun ht => ?_)
 ·subst ht;refine fJ x (fun e s hs => ?_) (h1 rfl);cases e with
  | normal=>have:s=s1:=hs;subst this;exact h
  | _=>exact hs.elim
 ·subst ht;refine fJ y (fun e s hs => ?_) (h2 rfl);cases e with
  | normal=>have:s=s2:=hs;subst this;exact h
  | _=>exact hs.elim
theorem dE {c : Operand} {x y : Code} {t : Bool} {s1 s2 : St} (hf : (yp x && yp y) = true) (hc : st.ev S c = .t t) (h1 : t = true → cw S x (atN s1) st) (h2 : t = false → cw S y (atN s2) st)
  (h:Q .normal (St.ite t s1 s2)):cw S (.cond c x y) Q st:=by
 refine qG hc (fun ht => ?_) fun ht => ?_
 ·subst ht;refine fJ x (fun e s hs => ?_) (h1 rfl);cases e with
  | normal=>have:s=s1:=hs;subst this;exact h
  | _=>exact hs.elim
 ·subst ht;refine fJ y (fun e s hs => ?_) (h2 rfl);cases e with
  | normal=>have:s=s2:=hs;subst this;exact h
  | _=>exact hs.elim
variable {t:Bool} {s1 s2:St}
theorem a1X {k:Nat}:(St.ite t s1 s2).fr k=if t=true then s1.fr k else s2.fr k:=rfl
theorem a2T {k:Nat}:(St.ite t s1 s2).bx k=if t=true then s1.bx k else s2.bx k:=rfl
theorem a1g:(St.ite t s1 s2).nx=if t=true then s1.nx else s2.nx:=rfl
variable {p:Prop} [Decidable p]
theorem a2U {x y:BV}:(if p then SV.b x else SV.b y)=SV.b (if p then x else y):=by grind
theorem a6n {x y:CV}:(if p then BV.c x else BV.c y)=BV.c (if p then x else y):=by grind
theorem QW {x y:CV} {l r:List CV}:(if p then x :: l else y :: r)=(if p then x else y) :: (if p then l else r):=by grind
theorem a5a {x y:PV}:(if p then CV.p x else CV.p y)=CV.p (if p then x else y):=by grind
theorem Wd {x y:Value}:(if p then PV.val x else PV.val y)=PV.val (if p then x else y):=by grind
theorem ZZ {k:IntKind} {x y:Int}:(if p then Value.int k x else Value.int k y)=Value.int k (if p then x else y):=by grind
theorem TD {x y:Bool}:(if p then Value.bool x else Value.bool y)=Value.bool (if p then x else y):=by grind
theorem So {x y:Bx}:(if p then some x else some y)=some (if p then x else y):=by grind
theorem WC {x y:List CV}:(if p then Bx.fix x else Bx.fix y)=Bx.fix (if p then x else y):=by grind
theorem WE {e s n m:Nat} {f g:Nat→Nat→PV}:(if p then Bx.arr e s n f else Bx.arr e s m g)=Bx.arr e s (if p then n else m) (if p then f else g):=by grind
theorem UI {α:Type} {x:α}:(if p then x else x)=x:=by grind
end
theorem a7G {p:Prop} [Decidable p] {a b:Bool}:((if p then a else b)=true)=((p→a=true)∧(¬p→b=true)):=by grind
theorem a9C {p:Prop} [Decidable p] {a b:Bool}:((if p then a else b)=false)=((p→a=false)∧(¬p→b=false)):=by grind
theorem ao {X:Type} {F:X→St} {I:X→Prop} {m:X→Nat} {k:Nat} {st:St} (x':X) (hle:Le st (F x')) (hI:I x') (hm:m x'<k):Wk (fun s=>∃ x',s=F x'∧I x'∧m x'<k) st :=
 ⟨F x',hle,x',rfl,hI,hm⟩
theorem fT {S:Env} {st:St} {f:FuncId} {args args':List BV} {K:SV→St→Prop} {X:SV} (hk:K X st) (ha:ju (args.map (gq st.bx)) args') (hl:iy args') (hf:X.flat) (h:aB S f args' (fun r=>r=X)) (hp:S.rcv (f+1000000)=false:=by rfl):dY S st f args (Sl.of K) :=
 .lend args' _ h ha (bN hl) hf hk hp
theorem fY:ju [] []=True:=rfl
theorem fi {x y:BV} {r s:List BV}:ju (x :: r) (y :: s)=(BV.le x y∧ju r s):=rfl
theorem jm {x:BV}:BV.le x x:=fun _ _ _ _ h=>h
theorem qJ {x y:PV} (h:PV.le x y):BV.le (.c (.p x)) (.c (.p y)):=fun _ ok w u hu=>h ok w u hu
theorem UG {S:Env} {st:St} {Q:AExit→St→Prop} {id:Nat} {l:List Oper} {y:Code} (h:∀ K:St→Prop,(∀ s,cw S y Q s→K s)→(∀ s s',Le s s'→cw S y Q s'→K s)→bj S l.toArray l st K):cw S (.seq (.region id l.toArray false) y) Q st:=by grind [fJ,ku,Wk,cw,xv]
def BLe (x y:BV):Prop:=BV.lt 0 y∧∀ ok w u,di dd ok w x u→di dd ok w y u
def SLe (x y:SV):Prop:=SV.lt 0 y∧∀ ok w u,bB dd ok w x u→bB dd ok w y u
def VL:List BV→List BV→Prop
 | [],[]=>True
 | x :: l,y :: r=>BLe x y∧VL l r
 | _,_=>False
theorem bo {S:Env} {f:FuncId} {args:List BV} {X:SV} (h:aB S f args fun r=>SLe r X):aB S f args fun r=>r=X :=
 ⟨h.1,fun ok w vs h1 h2 h3 h4=>(h.2 ok w vs h1 h2 h3 h4).mono fun _ _ ⟨v,r,he,hR,_,hb,hd⟩=>⟨v,X,he,rfl,hR.1,hb,hR.2 _ _ _ hd⟩⟩
theorem fR {x y:BV} (h:BLe x y):SLe (.b x) (.b y):=h
theorem cD {x:BV} (h:BV.lt 0 x):BLe x x:=⟨h,fun _ _ _ h=>h⟩
theorem fg {x y:PV} (h:PV.le x y):BLe (.c (.p x)) (.c (.p y)):=⟨trivial,fun ok w u hu=>h ok w u hu⟩
theorem Cc {ok:Nat→Prop} {w:World}:∀ {l r:List BV},VL l r→l.length=r.length∧∀ {u:Nat→Value},(∀ j,di dd ok w (l.getD j .any) (u j))→∀ j,di dd ok w (r.getD j .any) (u j)
 | [],[],_=>⟨rfl,fun h=>h⟩
 | x :: l,y :: r,⟨h1,h2⟩=>by
  obtain ⟨q1,q2⟩:=Cc (ok:=ok) (w:=w) h2;refine ⟨by simp [q1],fun {u} hu j => ?_⟩;cases j with
  | zero=>exact h1.2 ok w _ (hu 0)
  | succ j=>exact q2 (u:=fun k=>u (k+1)) (fun k=>hu (k+1)) j
theorem MP:∀ {l r:List BV},VL l r→∀ v ∈ r,BV.lt 0 v
 | [],[],_,v,hv=>by cases hv
 | x :: l,y :: r,h,v,hv=>by
  rcases List.mem_cons.1 hv with e|e
  ·rw [e];exact h.1.1
  ·exact MP h.2 v e
theorem cJ {l r:List BV} (h:VL l r):SLe (.tup l) (.tup r) :=
 ⟨MP h,fun ok w u ⟨us,hu,hs,hd⟩=>⟨us,hu,by rw [hs,(Cc (ok:=ok) (w:=w) h).1],(Cc h).2 hd⟩⟩
def Hu:List CV→List CV→Prop
 | [],[]=>True
 | .p x :: l, .p y :: r=>(x=y∨PV.le x y)∧Hu l r
 | _,_=>False
theorem cA:Hu [] []=True:=rfl
theorem bM {x y:PV} {l r:List CV}:Hu (.p x :: l) (.p y :: r)=((x=y∨PV.le x y)∧Hu l r):=rfl
theorem Az {ok:Nat→Prop} {w:World}:∀ {l r:List CV},Hu l r→l.length=r.length∧(∀ c ∈ r,CV.lt 0 c)∧∀ {u:Nat→Value},(∀ j,cR dd ok w (l.getD j .any) (u j))→∀ j,cR dd ok w (r.getD j .any) (u j)
 | [],[],_=>⟨rfl,by simp,fun h=>h⟩
 | .p x :: l, .p y :: r,h=>by
  rw [bM] at h;obtain ⟨h1,h2⟩:=h;obtain ⟨q1,q0,q2⟩:=Az (ok:=ok) (w:=w) h2;refine ⟨by simp [q1],fun c hc => ?_,fun {u} hu j => ?_⟩
  ·grind [CV.lt]
  ·cases j with
   | zero =>
    rcases h1 with e|e
    ·grind
    ·exact e _ _ _ (hu 0)
   | succ j=>exact q2 (u:=fun k=>u (k+1)) (fun k=>hu (k+1)) j
theorem dG {l r:List CV} (h:Hu l r):BLe (.agg l) (.agg r):=by
 refine ⟨(Az (ok:=fun _=>True) (w:=default) h).2.1,fun ok w u ⟨us,hu,hs,h1,hd⟩ => ?_⟩;obtain ⟨q1,_,q2⟩:=Az (ok:=ok) (w:=w) h;exact ⟨us,hu,by rw [hs,q1],h1,q2 hd⟩
theorem Lw {k:IntKind} {a b:Int} (h:a=b):SV.b (.c (.p (.val (.int k a))))=SV.b (.c (.p (.val (.int k b)))):=by rw [h]
def aP (l:List (Nat × SV)) (b:List (Nat × Bx)) (nx:Nat):St:=⟨ma l,iP b,nx,fun _ => .any⟩
theorem YQ {l:List (Nat × SV)} {b:List (Nat × Bx)} {nx s:Nat}:(aP l b nx).fr s=ma l s:=rfl
theorem Xm {l:List (Nat × SV)} {b:List (Nat × Bx)} {nx s:Nat}:(aP l b nx).bx s=iP b s:=rfl
theorem ZP {l:List (Nat × SV)} {b:List (Nat × Bx)} {nx:Nat}:(aP l b nx).nx=nx:=rfl
def tE:List (Nat × Option Nat)→Nat→Option Nat
 | [],_=>some 0
 | (k,v) :: r,i=>if i=k then v else tE r i
theorem WV {i:Nat}:tE [] i=some 0:=rfl
theorem fh {k i:Nat} {v:Option Nat} {r:List (Nat × Option Nat)}:tE ((k,v) :: r) i=if i=k then v else tE r i:=rfl
def qV (r:Nat→Option Nat) (st:St) (bx':Nat→Option Bx) (nx:Nat):List (Nat × SV)→Prop
 | []=>True
 | (k,v) :: l=>(Ck r st.bx bx' (st.fr k) v∧v.lt nx)∧qV r st bx' nx l
def Cm (r:Nat→Option Nat) (st:St) (bx':Nat→Option Bx) (nx:Nat):List (Nat × Bx)→Prop
 | []=>True
 | (i,x) :: l=>(iE r st.bx bx' i x∧i<nx∧x.lt nx)∧Cm r st bx' nx l
theorem lS {s:Nat}:∀ {l:List (Nat × SV)},ma l s = .any∨(s,ma l s) ∈ l
 | [] => .inl rfl
 | (k,v) :: l=>by
  rw [DM];split
  ·grind
  ·rcases lS (s:=s) (l:=l) with h|h
   ·grind
   grind
theorem jJ {s:Nat} {x:Bx}:∀ {l:List (Nat × Bx)},iP l s=some x→(s,x) ∈ l
 | [],h=>by cases h
 | (k,v) :: l,h=>by
  rw [mV] at h;split at h
  ·grind
  ·exact List.mem_cons_of_mem _ (jJ h)
theorem lV {r:Nat→Option Nat} {st:St} {bx':Nat→Option Bx} {nx:Nat}:∀ {l:List (Nat × SV)},qV r st bx' nx l→∀ {k v},(k,v) ∈ l→Ck r st.bx bx' (st.fr k) v∧v.lt nx
 | (_,_) :: _,h,_,_, .head _=>h.1
 | (_,_) :: _,h,_,_, .tail _ hm=>lV h.2 hm
theorem su {r:Nat→Option Nat} {st:St} {bx':Nat→Option Bx} {nx:Nat}:∀ {l:List (Nat × Bx)},Cm r st bx' nx l→∀ {k v},(k,v) ∈ l→iE r st.bx bx' k v∧k<nx∧v.lt nx
 | (_,_) :: _,h,_,_, .head _=>h.1
 | (_,_) :: _,h,_,_, .tail _ hm=>su h.2 hm
def IX (r:Nat→Option Nat):List Nat→Bool
 | []=>true
 | i :: l=>(l.all fun j=>i == j || r i == none || r i != r j) && IX r l
theorem sL {r:Nat→Option Nat}:∀ {l:List Nat},IX r l=true→∀ i j k,i ∈ l→j ∈ l→r i=some k→r j=some k→i=j
 | a :: l,h,i,j,k,hi,hj,h1,h2=>by
  simp only [IX,Bool.and_eq_true,List.all_eq_true,Bool.or_eq_true,beq_iff_eq,bne_iff_ne] at h;obtain ⟨ha,hl⟩:=h;rcases List.mem_cons.1 hi with e1|e1 <;> rcases List.mem_cons.1 hj with e2|e2
  ·rw [e1,e2]
  ·grind
  ·grind
  ·exact sL hl i j k e1 e2 h1 h2
theorem tP {st : St} {l : List (Nat × SV)} {b : List (Nat × Bx)} {nx : Nat} (r : List (Nat × Option Nat)) (h0 : tE r 0 = some 0) (hnx : 0 < nx) (hinj : IX (tE r) (b.map (·.1)) = true)
  (hfr:qV (tE r) st (iP b) nx l) (hb:Cm (tE r) st (iP b) nx b):Le st (aP l b nx):=by
 have key:∀ i,iP b i≠none→i ∈ b.map (·.1):=fun i hi=>by
  cases hx:iP b i with
  | none=>grind
  | some x=>exact List.mem_map.2 ⟨_,jJ hx,rfl⟩
 refine ⟨⟨tE r,h0,fun _=>hnx,fun i j k hi hj h1 h2=>sL hinj i j k (key i hi) (key j hj) h1 h2,fun s => ?_,fun i x hx=>(su hb (jJ hx)).1,fun s=>by show Ck _ _ _ _ .any;grind [Ck]⟩,fun s => ?_,fun i x hx=>(su hb (jJ hx)).2,fun _=>trivial⟩
 ·show Ck _ _ _ _ (ma l s);rcases lS (s:=s) (l:=l) with h|h
  ·grind [Ck]
  ·exact (lV hfr h).1
 ·show SV.lt nx (ma l s);rcases lS (s:=s) (l:=l) with h|h
  ·rw [h];trivial
  ·exact (lV hfr h).2
section
variable {r:Nat→Option Nat} {bx bx':Nat→Option Bx} {st:St} {nx:Nat}
theorem RE:qV r st bx' nx []=True:=rfl
theorem NP {k:Nat} {v:SV} {l:List (Nat × SV)}:qV r st bx' nx ((k,v) :: l)=((Ck r st.bx bx' (st.fr k) v∧v.lt nx)∧qV r st bx' nx l):=rfl
theorem Sn:Cm r st bx' nx []=True:=rfl
theorem NX {k:Nat} {v:Bx} {l:List (Nat × Bx)}:Cm r st bx' nx ((k,v) :: l)=((iE r st.bx bx' k v∧k<nx∧v.lt nx)∧Cm r st bx' nx l):=rfl
theorem a0S {x y:BV}:Ck r bx bx' (.b x) (.b y)=leB r bx bx' x y:=rfl
theorem vK {x:SV}:Ck r bx bx' x .any=True:=by cases x <;> rfl
theorem a0R {x y:CV}:leB r bx bx' (.c x) (.c y)=Gt r bx bx' x y:=by
 cases y with
 | p y=>cases y with
  | any=>cases x <;> rfl
  | _=>rfl
 | _=>rfl
theorem Xe {x y:List CV}:leB r bx bx' (.agg x) (.agg y)=LP r bx bx' x y:=rfl
theorem WJ:LP r bx bx' [] []=True:=rfl
theorem Vb {x y:CV} {l l':List CV}:LP r bx bx' (x :: l) (y :: l')=(Gt r bx bx' x y∧LP r bx bx' l l'):=rfl
theorem Wy {x:CV}:Gt r bx bx' x (.p .any)=True:=by cases x <;> rfl
theorem YI {x:PV} {v:Value}:Gt r bx bx' (.p x) (.p (.val v))=(x = .val v∨PV.le x (.val v)):=rfl
theorem WO {x:PV} {sz n:Nat} {f:Nat→Nat→PV}:Gt r bx bx' (.p x) (.p (.lst sz n f))=(x = .lst sz n f∨PV.le x (.lst sz n f)):=rfl
theorem XP {x:PV} {i n:Nat}:Gt r bx bx' (.p x) (.own i n)=(x = .val (.slice none 0 0)∧n=0∧r i=none):=rfl
theorem Wp {i o i' o':Nat}:Gt r bx bx' (.ptr i o) (.ptr i' o')=(r i'=some i∧o=o'):=rfl
theorem a0l {i s k o i' s' k' o':Nat}:Gt r bx bx' (.pel i s k o) (.pel i' s' k' o')=(r i'=some i∧s=s'∧k=k'∧o=o'):=rfl
theorem Xg {i n i' n':Nat}:Gt r bx bx' (.own i n) (.own i' n')=(r i'=some i∧n=n'):=rfl
def IL (r:Nat→Option Nat) (id:Nat):List (Nat × Bx)→Prop
 | []=>True
 | (i,_) :: l=>r i≠some id∧IL r id l
theorem UB {id:Nat}:IL r id []=True:=rfl
theorem Nv {id i:Nat} {x:Bx} {l:List (Nat × Bx)}:IL r id ((i,x) :: l)=(r i≠some id∧IL r id l):=rfl
theorem Dn {id:Nat}:∀ {b:List (Nat × Bx)},IL r id b→∀ id',iP b id'≠none→r id'≠some id
 | [],_,id',h=>(h rfl).elim
 | (i,x) :: l,h,id',hb=>by
  rw [mV] at hb;by_cases e:id'=i
  ·subst e;exact h.1
  ·rw [if_neg e] at hb;exact Dn h.2 id' hb
theorem DI {id:Nat}:∀ {b:List (Nat × Bx)},(∀ id',iP b id'≠none→r id'≠some id)→IL r id b
 | [],_=>trivial
 | (i,x) :: l,h=>by
  refine ⟨h i (by grind [iP,mV]),DI fun id' hb => ?_⟩;grind [iP,mV]
def a2I (y:Option Bx) (n sz n':Nat) (f':Nat→Nat→PV) (p:Prop):Prop:=match y with
 | some (.arr _ s m f)=>s=sz∧n=n'∧n≤m∧(∀ i,i<n→∀ j,j<sz→PV.le (f i j) (f' i j))∧p
 | _=>False
theorem Qm {i n sz n':Nat} {f':Nat→Nat→PV} {b:List (Nat × Bx)}:Gt r bx (iP b) (.own i n) (.p (.lst sz n' f'))=a2I (bx i) n sz n' f' (IL r i b):=by
 apply propext;unfold a2I;constructor
 ·rintro ⟨e,m,f,h1,h2,h3,h4,h5⟩;grind [IL,DI]
 ·intro h;split at h
  ·rename_i hb;obtain ⟨rfl,h2,h3,h4,h5⟩:=h;exact ⟨_,_,_,hb,h2,h3,h4,Dn h5⟩
  grind
theorem PW {e s m n sz n':Nat} {f f':Nat→Nat→PV} {p:Prop}:a2I (some (.arr e s m f)) n sz n' f' p=(s=sz∧n=n'∧n≤m∧(∀ i,i<n→∀ j,j<sz→PV.le (f i j) (f' i j))∧p):=rfl
theorem WZ {s o s' o':Nat} {g g':Nat→PV}:Gt r bx bx' (.ipt s g o) (.ipt s' g' o')=(s=s'∧o=o'∧(g=g'∨∀ j,j<s→PV.le (g j) (g' j))):=rfl
theorem XT {l l':List CV}:QY r bx bx' (.fix l) (.fix l')=LP r bx bx' l l':=rfl
theorem VW {e s n e' s' n':Nat} {f f':Nat→Nat→PV}:QY r bx bx' (.arr e s n f) (.arr e' s' n' f')=(e=e'∧s=s'∧n=n'∧(f=f'∨∀ i,i<n→∀ j,j<s→PV.le (f i j) (f' i j))):=rfl
def Xf (bx bx':Nat→Option Bx) (r:Nat→Option Nat) (y:Option Bx) (x:Bx):Prop:=match y with
 | some y=>QY r bx bx' y x
 | none=>False
def XQ (r:Nat→Option Nat) (bx bx':Nat→Option Bx) (k:Option Nat) (x:Bx):Prop:=match k with
 | some k=>Xf bx bx' r (bx k) x
 | none=>match x with
  | .arr _ s n _=>n=0∧0<s
  | _=>False
theorem Rz {i:Nat} {x:Bx}:iE r bx bx' i x=XQ r bx bx' (r i) x:=by
 unfold iE XQ;cases r i with
 | some k =>
  simp only [Xf];grind
 | none =>
  grind
theorem PF {k:Nat} {x:Bx}:XQ r bx bx' (some k) x=Xf bx bx' r (bx k) x:=rfl
theorem Ps {e s n:Nat} {f:Nat→Nat→PV}:XQ r bx bx' none (.arr e s n f)=(n=0∧0<s):=rfl
theorem OT {y x:Bx}:Xf bx bx' r (some y) x=QY r bx bx' y x:=rfl
end
theorem OK {nx:Nat}:(∀ x:BV,x ∈ ([]:List BV)→BV.lt nx x)=True:=by simp
theorem JJ {nx:Nat} {a:BV} {l:List BV}:(∀ x:BV,x ∈ a :: l→BV.lt nx x)=(BV.lt nx a∧∀ x:BV,x ∈ l→BV.lt nx x):=by simp
attribute [go_sem] OK JJ
attribute [go_sem] a1X a2T a1g a2U a6n QW a5a Wd ZZ TD So WC WE
attribute [go_sem ↓] UI
attribute [go_sem] YQ Xm ZP WV fh RE NP Sn NX a0S vK a0R Xe WJ Vb Wy YI WO XP Wp a0l Xg Qm PW UB Nv WZ XT VW Rz PF Ps OT
end
section
section
variable {S:Env} {ops:Array Oper} {rest:List Oper} {st:St} {K:St→Prop} {d:Option Nat} {ty:TypeId} {pos:String} {af:Array Edge} {j:Nat} {want g:Bool} {op:Go.Op}
theorem xL {nx : Nat} {K1 : SV → Prop} {y : Option (Prop × SV)} (x : BV) (hy : y = none) (hro : ro S st.bx (st.ev S) op = none) (hx : x.lt st.nx) (hg : mz st ((ops[j]?).bind (·.dst)) want = some g)
  (h1:g=true→bj S ops (⟨d,op,ty,pos,af,none⟩ :: rest) st K) (h2:g=false→bj S ops rest (st.set d (.grd g x)) K) :
  rg (some g) nx y (Sl.of K1) (Sl.of (bj S ops (⟨d,op,ty,pos,af,some (j,want)⟩ :: rest) st K)):=by
 have key:bj S ops (⟨d,op,ty,pos,af,some (j,want)⟩ :: rest) st K:=by
  simp only [bj,gh,hg,hro];cases g with
  | true=>exact .inl ⟨fun _=>by have:=h1 rfl;simpa only [bj,gh,lO,hro] using this,fun h=>by cases h⟩
  | false=>grind
 subst hy;exact key
variable {f:FuncId} {args args':List BV} {c:Prop} {X:BV}
theorem BJ (hg:g=true) (hc:c) (h:aB S f args' (fun r=>r = .b X)) (ha:ju (args.map (gq st.bx)) args') (hl:iy args') (hf:X.flat) (hk:K (st.set d (.b X))) (hp:S.rcv (f+1000000)=false:=by rfl):rgm (some g) c S st f args d (Sl.of K) :=
 .inl ⟨fun _=>⟨hc, .lend args' _ h ha (bN hl) hf hk hp⟩,fun h=>by grind⟩
theorem Df (X:BV) (hg:g=false) (hx:X.lt st.nx) (hk:K (st.set d (.grd g X))):rgm (some g) c S st f args d (Sl.of K) :=
 .inr ⟨X,hx,(fun h=>by grind),hk⟩
end
theorem St.ite_t {s1 s2:St}:St.ite true s1 s2=s1:=rfl
theorem St.ite_f {s1 s2:St}:St.ite false s1 s2=s2:=rfl
section
variable {S:Env} {st:St} {f:FuncId} {K:SV→St→Prop} {Q:AExit→St→Prop}
theorem gM {P:St→Prop} {c:Code} (h:∀ s,cw S c Q s→P s) (h2:cw S c Q st):P st:=h _ h2
theorem aX {id:Nat} {l:List Oper} {y:Code} (h:∀ K:St→Prop,(∀ s s',Le s s'→cw S y Q s'→K s)→bj S l.toArray l st K):cw S (.seq (.region id l.toArray false) y) Q st :=
 UG fun K _ hW=>h K hW
theorem iL {c:Operand} {x y z:Code} {t:Bool} (hc:st.ev S c = .t t) (ht:t=true) (h:cw S (.seq x z) Q st):cw S (.seq (.cond c x y) z) Q st:=DK hc (fun _=>h) (fun h=>by grind)
theorem oZ {c:Operand} {x y z:Code} {t:Bool} (hc:st.ev S c = .t t) (ht:t=false) (h:cw S (.seq y z) Q st):cw S (.seq (.cond c x y) z) Q st:=DK hc (fun h=>by grind) (fun _=>h)
theorem pN {c:Operand} {x y:Code} {t:Bool} (hc:st.ev S c = .t t) (ht:t=true) (h:cw S x Q st):cw S (.cond c x y) Q st:=qG hc (fun _=>h) (fun h=>by grind)
theorem ph {c:Operand} {x y:Code} {t:Bool} (hc:st.ev S c = .t t) (ht:t=false) (h:cw S y Q st):cw S (.cond c x y) Q st:=qG hc (fun h=>by grind) (fun _=>h)
end
def CK (k:IntKind) (a b:Int):Int:=k.wrap (BitVec.ofInt k.bits a &&& BitVec.ofInt k.bits b).toNat
def QT (k:IntKind) (a b:Int):Int:=k.wrap (BitVec.ofInt k.bits a ||| BitVec.ofInt k.bits b).toNat
def a7F (k:IntKind) (a b:Int):Int:=k.wrap (BitVec.ofInt k.bits a ^^^ BitVec.ofInt k.bits b).toNat
theorem ZV {k:IntKind} {a b:Int}:k.wrap (BitVec.ofInt k.bits a &&& BitVec.ofInt k.bits b).toNat=CK k a b:=rfl
theorem a2S {k:IntKind} {a b:Int}:k.wrap (BitVec.ofInt k.bits a ||| BitVec.ofInt k.bits b).toNat=QT k a b:=rfl
theorem Zd {k:IntKind} {a b:Int}:k.wrap (BitVec.ofInt k.bits a ^^^ BitVec.ofInt k.bits b).toNat=a7F k a b:=rfl
attribute [go_sem ↓] ZV a2S Zd
theorem YS {p:Prop} [Decidable p] {f g:Nat→Nat→PV} {i j:Nat}:(if p then f else g) i j=if p then f i j else g i j:=by grind
attribute [go_sem] YS
end
section
def JB (c:Nat):SV→Prop
 | .b (.c (.ptr id _))=>c=1∨c=4+id
 | .b (.c (.pel _ _ _ _))=>c=2
 | .b (.c (.ipt _ _ _))=>c=3
 | _=>False
def ji:List (Nat × Nat)→St→Prop
 | [],_=>True
 | (t,c) :: r,s=>JB c (s.fr t)∧ji r s
def AY:List (Nat × Nat)→Nat
 | []=>0
 | (_,c) :: r=>max (c - 3) (AY r)
def tU:List (Nat × Nat)→Nat→Nat
 | [],_=>0
 | (t,c) :: r,s=>if s=t then c else tU r s
theorem a0A {t:Nat}:∀ {l:List (Nat × Nat)},tU l t - 3≤AY l
 | []=>Nat.zero_le _
 | (k,c) :: r=>by
  unfold tU AY;split
  ·omega
  ·have:=a0A (t:=t) (l:=r);omega
theorem qR {s:St} {t:Nat}:∀ {l:List (Nat × Nat)},ji l s→tU l t≠0→JB (tU l t) (s.fr t)
 | [],_,h=>absurd rfl h
 | (k,c) :: r,h,hn=>by
  unfold tU at hn ⊢;split
  ·grind [ji,tU,JB]
  ·rename_i e;rw [if_neg e] at hn;exact qR h.2 hn
section
variable {S:Env} {ops:Array Oper} {st s1 s2 s':St}
theorem MX {o:Oper} {t:Nat} (h:Ex S ops st o s') (hd:o.dst≠some t):s'.fr t=st.fr t:=by grind [fF,dO]
theorem Fs {t:Nat}:∀ {l:List Oper} {st s':St},LW S ops l st s'→(∀ o ∈ l,o.dst≠some t)→s'.fr t=st.fr t
 | [],_,_,h,_=>by rw [show _=_ from h]
 | o :: r,st,s',⟨s,h1,h2⟩,hd=>(Fs h2 fun x hx=>hd x (List.mem_cons_of_mem _ hx)).trans (MX h1 (hd o (List.mem_cons_self ..)))
theorem yM {x y : Oper} {d p q : Nat} {t t' : TypeId} {vop : Operand} (hx : x.op = .load t (.tmp q)) (hxd : x.dst = some d) (hxg : x.guard = none)
  (hy:y.op = .store t' (.tmp p) vop) (hyd:y.dst=none) (hyg:y.guard=none) (hdp:d≠p) (hdv:vop ≠ .tmp d) {c c':Nat} (hp:JB c (st.fr p)) (hq:JB c' (st.fr q)) (hc:c=2∧(c'=1∨c'=3))
  (h1:Ex S ops st x s1) (h2:Ex S ops s1 y s2):∃ s3,Ex S ops st y s3∧Ex S ops s3 x s2:=by
 obtain ⟨rfl,hc⟩:=hc;obtain ⟨idp,szp,ip,offp,hpv⟩:∃ id sz i off,st.fr p = .b (.c (.pel id sz i off)):=by
  unfold JB at hp;grind
 have e1:s1=st.set (some d) (s1.fr d)∧s1.bx=st.bx∧s1.nx=st.nx:=by
  obtain ⟨v,b,n,rfl,hb,_⟩:=fF h1;have:qp S.rcv x≤1:=by simp [qp,fM,hx]
  obtain ⟨rfl,rfl⟩:=hb this;rw [hxd];refine ⟨?_,eR,gV⟩;simp [St.set]
 have hev:∀ z:Operand,z ≠ .tmp d→s1.ev S z=st.ev S z:=fun z hz=>by
  rw [e1.1];cases z with
  | tmp k=>grind [St.ev,St.set]
  | _=>rfl
 have hvp:s1.ev S (.tmp p)=st.ev S (.tmp p):=hev _ (fun e=>hdp (by grind));have hvv:=hev vop hdv;have hro:∀ b ev,ro S b ev (.store t' (.tmp p) vop)=none:=fun _ _=>rfl;unfold Ex gh at h2;rw [hyg] at h2;simp only [lO,hy,hro,hyd] at h2;obtain ⟨hcond,h2⟩:=h2;simp only [Op.operands] at hcond;have hev1:(st.ev S (.tmp p)).strip = .b (.c (.pel idp szp ip offp)):=by simp [St.ev,hpv,SV.strip]
 simp only [fp,hvp,hvv,hev1,e1.2.1] at h2;split at h2
 ·grind
 ·rename_i id s i off v sz ag q1 q2 q3;cases q1;split at h2
  ·rename_i e s' n f hb;obtain ⟨hvc,h2⟩:=h2;refine ⟨st.setBox idp (.arr e s' n fun i' j=>if i'=ip then (if offp≤j∧j<offp+sz then (v.cells.getD (j - offp) .any).toP else f ip j) else f i' j), ?_, ?_⟩
   ·unfold Ex gh;rw [hyg];simp only [lO,hy,hro,hyd];refine ⟨?_, ?_⟩
    ·grind [Op.operands]
    ·simp only [fp,hev1,q2,q3,hb];exact ⟨hvc,rfl⟩
   ·subst h2;unfold Ex gh at h1 ⊢;rw [hxg] at h1 ⊢;simp only [lO,hx,tc] at h1 ⊢;have hload:∀ r,rc (fw S t st.bx (st.ev S (.tmp q)).strip) (st.ev S (.tmp q)).cond=some r→rc (fw S t (st.setBox idp (.arr e s' n fun i' j=>if i'=ip then (if offp≤j∧j<offp+sz then (v.cells.getD (j - offp) .any).toP else f ip j) else f i' j)).bx (st.ev S (.tmp q)).strip) (st.ev S (.tmp q)).cond=some r:=fun r hr=>by
     unfold JB at hq;grind [rc,fw,St.setBox,SV.strip,St.ev,SV.cond]
    cases hr:rc (fw S t st.bx (st.ev S (.tmp q)).strip) (st.ev S (.tmp q)).cond with
    | none=>grind [fp]
    | some r =>
     rw [hr] at h1;have:=hload r hr;rw [show (St.ev S (st.setBox idp (.arr e s' n fun i' j=>if i'=ip then (if offp≤j∧j<offp+sz then (v.cells.getD (j - offp) .any).toP else f ip j) else f i' j)) (.tmp q))=st.ev S (.tmp q) from rfl,this];refine ⟨h1.1, ?_⟩;rw [← h1.2,hxd];rfl
  grind
 grind
theorem wT {x y : Oper} {d p q : Nat} {t t' : TypeId} {vop : Operand} (hx : x.op = .load t (.tmp q)) (hxd : x.dst = some d) (hxg : x.guard = none)
  (hy:y.op = .store t' (.tmp p) vop) (hyd:y.dst=none) (hyg:y.guard=none) (hdp:d≠p) (hdv:vop ≠ .tmp d) {c c':Nat} (hp:JB c (st.fr p)) (hq:JB c' (st.fr q)) (hc:4≤c∧4≤c'∧c≠c')
  (h1:Ex S ops st x s1) (h2:Ex S ops s1 y s2):∃ s3,Ex S ops st y s3∧Ex S ops s3 x s2:=by
 obtain ⟨hc1,hc2,hc3⟩:=hc;obtain ⟨idp,offp,hpv,rfl⟩:∃ id off,st.fr p = .b (.c (.ptr id off))∧c=4+id:=by
  unfold JB at hp;grind
 obtain ⟨idq,offq,hqv,rfl⟩:∃ id off,st.fr q = .b (.c (.ptr id off))∧c'=4+id:=by
  unfold JB at hq;grind
 have e1:s1=st.set (some d) (s1.fr d)∧s1.bx=st.bx∧s1.nx=st.nx:=by
  obtain ⟨v,b,n,rfl,hb,_⟩:=fF h1;have:qp S.rcv x≤1:=by simp [qp,fM,hx]
  obtain ⟨rfl,rfl⟩:=hb this;rw [hxd];refine ⟨?_,eR,gV⟩;simp [St.set]
 have hev:∀ z:Operand,z ≠ .tmp d→s1.ev S z=st.ev S z:=fun z hz=>by
  rw [e1.1];cases z with
  | tmp k=>grind [St.ev,St.set]
  | _=>rfl
 have hvp:s1.ev S (.tmp p)=st.ev S (.tmp p):=hev _ (fun e=>hdp (by grind));have hvv:=hev vop hdv;have hro:∀ b ev,ro S b ev (.store t' (.tmp p) vop)=none:=fun _ _=>rfl;unfold Ex gh at h2;rw [hyg] at h2;simp only [lO,hy,hro,hyd] at h2;obtain ⟨hcond,h2⟩:=h2;simp only [Op.operands] at hcond;have hev1:(st.ev S (.tmp p)).strip = .b (.c (.ptr idp offp)):=by simp [St.ev,hpv,SV.strip]
 simp only [fp,hvp,hvv,hev1,e1.2.1] at h2;split at h2
 ·rename_i id off v sz ag q1 q2 q3;cases q1;split at h2
  ·rename_i cs hb;obtain ⟨hvc,h2⟩:=h2;refine ⟨st.setBox idp (.fix (mN cs offp v.cells)), ?_, ?_⟩
   ·unfold Ex gh;rw [hyg];simp only [lO,hy,hro,hyd];refine ⟨?_, ?_⟩
    ·grind [Op.operands]
    ·simp only [fp,hev1,q2,q3,hb];exact ⟨hvc,rfl⟩
   ·subst h2;unfold Ex gh at h1 ⊢;rw [hxg] at h1 ⊢;simp only [lO,hx,tc] at h1 ⊢;have hload:∀ r,rc (fw S t st.bx (st.ev S (.tmp q)).strip) (st.ev S (.tmp q)).cond=some r→rc (fw S t (st.setBox idp (.fix (mN cs offp v.cells))).bx (st.ev S (.tmp q)).strip) (st.ev S (.tmp q)).cond=some r:=fun r hr=>by grind [fw,St.setBox,SV.strip,St.ev,SV.cond]
    cases hr:rc (fw S t st.bx (st.ev S (.tmp q)).strip) (st.ev S (.tmp q)).cond with
    | none=>grind [fp]
    | some r =>
     rw [hr] at h1;have:=hload r hr;rw [show (St.ev S (st.setBox idp (.fix (mN cs offp v.cells))) (.tmp q))=st.ev S (.tmp q) from rfl,this];refine ⟨h1.1, ?_⟩;rw [← h1.2,hxd];rfl
  grind
 ·grind
 grind
def jB (lb:Nat) (st:St):Prop:=(∀ i,st.nx≤i→st.bx i=none)∧lb≤st.nx
theorem jB.set {lb:Nat} {st:St} (h:jB lb st) (d:Option Nat) (v:SV):jB lb (st.set d v) :=
 ⟨fun i hi=>by rw [eR];rw [gV] at hi;exact h.1 i hi,by rw [gV];exact h.2⟩
theorem jB.newBox {lb:Nat} {st:St} (h:jB lb st) (x:Bx):jB lb (st.newBox x):=⟨fun i hi=>by
 simp only [St.newBox] at hi ⊢
 rw [if_neg (by omega)];exact h.1 i (by omega),Nat.le_succ_of_le h.2⟩
theorem jB.newBoxO {lb:Nat} {st:St} (h:jB lb st) (x:Option Bx):jB lb (st.newBoxO x):=⟨fun i hi=>by
 have hi:st.nx+1≤i:=hi;show (if i=st.nx then x else st.bx i)=none;rw [if_neg (by omega)]
 exact h.1 i (by omega),Nat.le_trans h.2 (Nat.le_succ _)⟩
theorem jB.delBox {lb:Nat} {st:St} (h:jB lb st) (id:Nat):jB lb (st.delBox id):=⟨fun i hi=>by
 simp only [St.delBox] at hi ⊢;split
 ·rfl
 ·exact h.1 i hi,h.2⟩
theorem jB.setBox {lb:Nat} {st:St} (h:jB lb st) {id:Nat} {y:Bx} (hb:st.bx id=some y) (x:Bx):jB lb (st.setBox id x):=⟨fun i hi=>by
 simp only [St.setBox] at hi ⊢;split
 ·rename_i e;subst e;rw [h.1 i hi] at hb;cases hb
 ·exact h.1 i hi,h.2⟩
theorem HA {lb:Nat} {f:FuncId} {args:List BV} {K:SV→St→Prop} (h:CallP S st f args K) (w:jB lb st):∃ r s',K r s'∧jB lb s':=by
 cases h with
 | pure args' X h ha hl hk=>grind
 | ext args' X h ha hl hk=>grind
 | lend args' X h ha hl hf hk=>grind
 | recv id off cs0 cs rest args' X Y h he hb hoff hcs ha hl hr hy hk=>exact ⟨_,_,hk,w.setBox hb _⟩
 | recvEl id sz i e n g cs rest args' X Y h he hb hi hsz hcs ha hl hr hy hk=>exact ⟨_,_,hk,w.setBox hb _⟩
 | inl X bx' nx' h hr hw hk hn=>grind [jB]
 | own args' e sz n g h ha hl hr hk=>exact ⟨_,_,hk,w.newBox _⟩
theorem a1P {lb:Nat} {ev:Operand→SV} {op:Op} {K:SV→St→Prop} (h:fp S st ev op K) (w:jB lb st):∃ r s',K r s'∧jB lb s':=by
 cases op with
 | build t parts =>
  simp only [fp] at h;grind
 | alloc t =>
  simp only [fp] at h;split at h
  ·exact ⟨_,_,h,w.newBox _⟩
  grind
 | box t x =>
  simp only [fp] at h;split at h
  ·exact ⟨_,_,h.2,w.newBox _⟩
  grind
 | buildSlice t len parts =>
  simp only [fp] at h;split at h
  ·split at h
   ·split at h
    ·exact ⟨_,_,h.2,w.newBox _⟩
    grind
   grind
  grind
 | store t p x =>
  simp only [fp] at h;split at h
  ·split at h
   ·rename_i hb;exact ⟨_,_,h.2,w.setBox hb _⟩
   grind
  ·split at h
   ·rename_i hb;exact ⟨_,_,h.2,w.setBox hb _⟩
   grind
  grind
 | makeSlice t l c =>
  simp only [fp] at h;split at h
  ·split at h
   ·exact ⟨_,_,h.2,w.newBoxO _⟩
   grind
  grind
 | call c =>
  simp only [fp] at h;split at h
  ·split at h
   ·split at h
    ·exact ⟨_,_,h.2,w.newBox _⟩
    ·split at h
     ·exact ⟨_,_,h.2,(w.delBox _).newBox _⟩
     grind
    grind
   grind
  ·split at h
   ·split at h
    ·grind [jB,St.setBox,jB.setBox]
    grind
   grind
  ·exact HA h w
  ·grind [HA]
  grind
 | _=>exact h.elim
theorem Tq {lb:Nat} {o:Oper} {K:St→Prop} (h:lO S st o K) (w:jB lb st):∃ s',K s'∧jB lb s':=by
 unfold lO at h;split at h
 ·exact ⟨_,h.2,w.set _ _⟩
 ·obtain ⟨r,s',hk,hw⟩:=a1P h.2 w;exact ⟨_,hk,hw.set _ _⟩
theorem ym {lb:Nat} {o:Oper} (h:Ex S ops st o s') (w:jB lb st):jB lb s':=by
 unfold Ex gh at h;split at h
 ·grind [Tq,lO]
 ·split at h
  ·rename_i g hg;split at h
   ·rw [← h.2.2];exact w.set _ _
   ·rw [← h.2.2];exact w.set _ _
   ·rcases h with h|⟨x,_,_,h⟩
    ·cases g with
     | true =>
      grind [Tq,lO]
     | false=>rw [← h.2 rfl];exact w.set _ _
    ·rw [← h];exact w.set _ _
  grind
def zq (rcv:Nat→Bool) (o:Oper):Bool:=o.guard.isNone && match o.op with
 | .alloc _=>true
 | .box _ _=>true
 | .buildSlice _ _ _=>true
 | .makeSlice _ _ _=>true
 | .call c=>match c.callee with
  | .value (.func f) => !rcv f && rcv (f+2000000)
  | _=>false
 | _=>false
theorem HV {o:Oper} (ha:zq S.rcv o=true) (h:Ex S ops st o s'):∀ i,i≠st.nx→s'.bx i=st.bx i:=by
 intro i hi;simp only [zq,Bool.and_eq_true,Option.isNone_iff_eq_none] at ha;obtain ⟨hg,ha⟩:=ha;unfold Ex gh at h;rw [hg] at h;simp only [lO] at h;split at ha
 ·grind [St.newBox,eR,ro,fp]
 ·grind [St.newBox,eR,ro,fp]
 ·rename_i t l ps ho;rw [ho] at h;simp only [show ro S st.bx (st.ev S) (.buildSlice t l ps)=none from rfl,fp] at h;split at h
  ·grind [St.newBox,eR]
  grind
 ·rename_i t l c ho;rw [ho] at h;simp only [show ro S st.bx (st.ev S) (.makeSlice t l c)=none from rfl,fp] at h;grind [St.newBoxO,eR]
 ·rename_i c ho;obtain ⟨cal,⟨al⟩,⟨tl⟩⟩:=c;simp only at ha;split at ha
  ·rename_i f;rw [ho] at h;simp only [Bool.and_eq_true,Bool.not_eq_true'] at ha;have hro:ro S st.bx (st.ev S) (.call ⟨.value (.func f),⟨al⟩,⟨tl⟩⟩)=none:=by simp [ro,bK]
   rw [hro] at h;have h2:=h.2;unfold fp at h2;simp only at h2;cases h2 with
   | pure args' X h ha2 hl hk=>grind [eR]
   | ext args' X h ha2 hl hk=>grind [eR]
   | lend args' X h ha2 hl hf hk hp=>grind [eR]
   | recv id off cs0 cs rest args' X Y h he hb hoff hcs ha2 hl hr hy hk=>grind
   | recvEl id sz i e n g cs rest args' X Y h he hb hi hsz hcs ha2 hl hr hy hk=>grind
   | inl X bx' nx' h hr hw hk hn=>grind
   | own args' e sz n g h ha2 hl hr hk=>grind [St.newBox,eR]
  ·cases ha
 ·cases ha
def Fj (o:Oper):Bool:=o.guard.isNone && match o.op with
 | .load _ _=>true
 | _=>false
def wa (rcv:Nat→Bool) (ops:Array Oper) (x y:Oper):Bool :=
 (match x.dst with|some d => !(cc ops y).contains d|none=>true) && (match y.dst with|some d => !(cc ops x).contains d|none=>true) &&
 (match x.dst,y.dst with|some d,some e=>d != e|_,_=>true) && Fj x && zq rcv y
theorem Np {t:TypeId} {b b':Nat→Option Bx} {v:SV} {r:Prop × SV} (h:fw S t b v=some r) (hb:∀ i y,b i=some y→b' i=some y):fw S t b' v=some r:=by
 unfold fw at h ⊢;grind
theorem ml {lb:Nat} {x y:Oper} (hi:wa S.rcv ops x y=true) (w:jB lb st) (h1:Ex S ops st x s1) (h2:Ex S ops s1 y s2):∃ s3,Ex S ops st y s3∧Ex S ops s3 x s2:=by
 simp only [wa,Bool.and_eq_true] at hi;obtain ⟨⟨⟨⟨hxy,hyx⟩,hdd⟩,hl⟩,ha⟩:=hi;have hab:=HV ha h2;simp only [Fj,Bool.and_eq_true,Option.isNone_iff_eq_none] at hl;obtain ⟨hxg,hl⟩:=hl;split at hl
 case h_2=>cases hl
 rename_i t q hxo;obtain ⟨v1,b1,n1,e1,k1,p1,z1⟩:=fF h1;have hc1:qp S.rcv x≤1:=by simp [qp,fM,hxo]
 obtain ⟨rfl,rfl⟩:=k1 hc1;obtain ⟨v2,b2,n2,e2,k2,p2,z2⟩:=fF h2;have hs1:s1.bx=st.bx∧s1.nx=st.nx:=by rw [e1];exact ⟨eR,gV⟩
 have ag1:∀ t ∈ cc ops y,s1.fr t=st.fr t:=by rw [e1];exact iG (nx':=0) (bx':=st.bx) hxy
 have q2:=p2 st ag1 hs1.1.symm hs1.2.symm;refine ⟨_,q2, ?_⟩;have comm:s2=St.set (St.set ⟨st.fr,b2,n2,st.kf⟩ y.dst v2) x.dst v1:=by
  rw [e2,e1];simp only [dO,St.mk.injEq,and_true];funext s;by_cases c1:some s=x.dst
  ·grind
  ·grind
 have hbx:∀ i y',st.bx i=some y'→b2 i=some y':=fun i y' hi=>by
  have hne:i≠s1.nx:=by
   rw [hs1.2];intro e;have:=w.1 i (by omega);rw [this] at hi;cases hi
  simp_all [eR]
 have ag2:∀ t ∈ cc ops x,(St.set ⟨st.fr,b2,n2,st.kf⟩ y.dst v2).fr t=st.fr t:=iG (nx':=0) (bx':=st.bx) hyx;have hevq:(St.set ⟨st.fr,b2,n2,st.kf⟩ y.dst v2).ev S q=st.ev S q :=
  (fD (S:=S) (ops:=ops) (o:=x) (fun t ht=>(ag2 t ht).symm) q (by grind [Op.operands])).symm
 unfold Ex gh at h1 ⊢;rw [hxg] at h1 ⊢;simp only [lO,hxo,tc] at h1 ⊢;rw [hevq,eR];cases hr:fw S t st.bx (st.ev S q).strip with
 | none=>grind [rc,fp]
 | some r =>
  grind [rc,St.set,Np]
def a5O (kl:List (Nat × Nat)) (ops:Array Oper) (mi:Nat) (j i:Nat) (x y:Oper):Bool :=
 match x.op,y.op,x.dst with
 | .load _ (.tmp q), .store _ (.tmp p) vop,some d =>
  x.guard.isNone && y.guard.isNone && y.dst.isNone && d != p && d != q && (match vop with | .tmp e=>e != d|_=>true) && ((Nat.beq (tU kl p) 2 && (Nat.beq (tU kl q) 1 || Nat.beq (tU kl q) 3)) || (Nat.ble 4 (tU kl p) && Nat.ble 4 (tU kl q) && tU kl p != tU kl q)) &&
   (List.range ops.size).all fun k=>Nat.ble k j || (match ops[k]? with
    | some z=>z.dst != some q && (z.dst != some p || (Nat.blt k i && mi.testBit k))
    | none=>true)
 | _,_,_=>false
def YZ (rcv:Nat→Bool) (kl:List (Nat × Nat)) (ops:Array Oper) (x y:Oper):Bool :=
 (match x.dst with|some d => !(cc ops y).contains d|none=>true) && (match y.dst with|some d => !(cc ops x).contains d|none=>true) &&
 (match x.dst,y.dst with|some d,some e=>d != e|_,_=>true) && zq rcv x && (match y.op with
 | .load _ (.tmp q)=>y.guard.isNone && Nat.ble 4 (tU kl q) && (List.range ops.size).all fun k=>match ops[k]? with
  | some z=>z.dst != some q
  | none=>true
 | _=>false)
theorem yQ {kl : List (Nat × Nat)} {x y : Oper} {t : TypeId} {q id off : Nat} (hi : YZ S.rcv kl ops x y = true) (hyo : y.op = .load t (.tmp q)) (hyg : y.guard = none) (hq : st.fr q = .b (.c (.ptr id off))) (hid : id < st.nx)
  (h1:Ex S ops st x s1) (h2:Ex S ops s1 y s2):∃ s3,Ex S ops st y s3∧Ex S ops s3 x s2:=by
 simp only [YZ,Bool.and_eq_true] at hi;obtain ⟨⟨⟨⟨hxy,hyx⟩,hdd⟩,ha⟩,_⟩:=hi;have hab:=HV ha h1;obtain ⟨v1,b1,n1,e1,k1,p1,z1⟩:=fF h1;obtain ⟨v2,b2,n2,e2,k2,p2,z2⟩:=fF h2;have hc2:qp S.rcv y≤1:=by simp [qp,fM,hyo,hyg]
 obtain ⟨rfl,rfl⟩:=k2 hc2;have hfrq:s1.fr q=st.fr q:=by
  rw [e1];refine iG (nx':=0) (bx':=st.bx) hxy q ?_;simp [cc,hyo,Op.operands]
 have hload:rc (fw S t s1.bx (s1.ev S (.tmp q)).strip) (s1.ev S (.tmp q)).cond=rc (fw S t st.bx (st.ev S (.tmp q)).strip) (st.ev S (.tmp q)).cond:=by simp only [St.ev,hfrq,hq,SV.strip,SV.cond,fw,hab id (by omega)]
 have hy:Ex S ops st y (st.set y.dst v2):=by
  unfold Ex gh at h2 ⊢;rw [hyg] at h2 ⊢;simp only [lO,hyo,tc] at h2 ⊢;rw [hload] at h2;cases hr:rc (fw S t st.bx (st.ev S (.tmp q)).strip) (st.ev S (.tmp q)).cond with
  | none=>grind [fp]
  | some r =>
   rw [hr] at h2;refine ⟨h2.1, ?_⟩;have h3:s1.set y.dst r.2=St.set ⟨s1.fr,s1.bx,s1.nx,s1.kf⟩ y.dst v2:=h2.2.trans e2;rw [dO,dO] at h3;simp only [St.mk.injEq,and_true] at h3;rw [dO,dO];simp only [St.mk.injEq,and_true];funext s;have:=congrFun h3 s;grind
 refine ⟨_,hy, ?_⟩;have ag:∀ t ∈ cc ops x,st.fr t=(st.set y.dst v2).fr t:=fun t ht=>(iG (fr:=st.fr) (kf:=st.kf) (nx':=0) (bx':=st.bx) (bx:=st.bx) (nx:=st.nx) hyx t ht).symm;have:=p1 (st.set y.dst v2) ag eR gV;have comm:s2=St.set ⟨(st.set y.dst v2).fr,b1,n1,(st.set y.dst v2).kf⟩ x.dst v1:=by
  rw [e2,e1];simp only [dO,St.mk.injEq,and_true];funext s;by_cases c1:some s=x.dst
  ·grind
  ·grind
 grind
def qz (rcv:Nat→Bool) (ops:Array Oper) (m:Nat→Nat) (kl:List (Nat × Nat)):Bool :=
 (List.range ops.size).all fun i=>match ops[i]? with
  | none=>false
  | some o=>(o.after.all fun e => !Region.binds .any e || Nat.blt e.on i) &&
   (List.range i).all fun j=>match ops[j]? with
    | none=>false
    | some x=>(yv rcv ops x o || wa rcv ops x o || a5O kl ops (m i) j i x o || YZ rcv kl ops x o) || ((m i).testBit j)
theorem zC {m : Nat → Nat} {kl : List (Nat × Nat)} {i : Nat} {o : Oper} {l2 : List Nat} (hd : qz S.rcv ops m kl = true) (ho : ops[i]? = some o) (hlt : i < ops.size) : ∀ (l1 : List Nat) {st s' : St}, (l1 ++ i :: l2).Pairwise (· < ·) →
  (∀ k ∈ l1 ++ i :: l2,k<ops.size)→(∀ j ∈ l1,(m i).testBit j=false)→LW S ops (l1.map (fun i=>ops.getD i default) ++ o :: l2.map (fun i=>ops.getD i default)) st s'→ji kl s'→jB (AY kl) st →
  ∃ s,Ex S ops st o s∧LW S ops (l1.map (fun i=>ops.getD i default) ++ l2.map (fun i=>ops.getD i default)) s s'
 | [],_,_,_,_,_,h,_,_=>h
 | j :: l1,st,s',hp,hall,ht,⟨s,h1,h2⟩,hk,hwf=>by
  have hpc:=List.pairwise_cons.1 hp;obtain ⟨s2,h3,h4⟩:=zC hd ho hlt l1 hpc.2 (fun k hk=>hall k (List.mem_cons_of_mem _ hk)) (fun k hk=>ht k (List.mem_cons_of_mem _ hk)) h2 hk (ym h1 hwf);have hji:j<i:=hpc.1 i (List.mem_append_right _ (List.mem_cons_self ..));have hjlt:j<ops.size:=hall j (List.mem_cons_self ..);have hx:ops[j]?=some (ops.getD j default):=by rw [Array.getD_eq_getD_getElem?,Array.getElem?_eq_getElem hjlt];rfl
  have d1:=List.all_eq_true.1 hd i (List.mem_range.2 hlt);rw [ho] at d1;simp only [Bool.and_eq_true] at d1;have d2:=List.all_eq_true.1 d1.2 j (List.mem_range.2 hji);rw [hx] at d2;simp only [Bool.or_eq_true,ht j (List.mem_cons_self ..),Bool.false_eq_true,or_false] at d2;have key:∃ s3,Ex S ops st o s3∧Ex S ops s3 (ops.getD j default) s2:=by
   rcases d2 with ((d2|d2)|d2)|d2
   ·grind [zm]
   ·grind [ml]
   ·unfold a5O at d2;split at d2
    ·rename_i _ t q t' p vop d hxo hyo hxd;simp only [Bool.and_eq_true,Nat.beq_eq,Nat.ble_eq,Bool.or_eq_true,bne_iff_ne,Option.isNone_iff_eq_none] at d2;obtain ⟨⟨⟨⟨⟨⟨⟨g1,g2⟩,g3⟩,g4⟩,g5⟩,g6⟩,g7⟩,g9⟩:=d2;have hw:∀ k,j<k→k<ops.size→(ops.getD k default).dst≠some q∧((ops.getD k default).dst≠some p∨(k<i∧(m i).testBit k=true)):=fun k hk1 hk2=>by
      have:=List.all_eq_true.1 g9 k (List.mem_range.2 hk2);rw [show ops[k]?=some (ops.getD k default) by simp_all] at this;simp only [Bool.or_eq_true,Nat.ble_eq,Bool.and_eq_true,bne_iff_ne] at this;rcases this with h|h
      ·omega
      simp_all
     have hq1:s'.fr q=s.fr q:=Fs h2 fun z hz=>by
      rcases List.mem_append.1 hz with hz|hz
      ·obtain ⟨k,hk1,rfl⟩:=List.mem_map.1 hz;simp_all
      ·rcases List.mem_cons.1 hz with hz|hz
       ·grind
       grind
     have hp1:s'.fr p=s.fr p:=Fs h2 fun z hz=>by
      rcases List.mem_append.1 hz with hz|hz
      ·obtain ⟨k,hk1,rfl⟩:=List.mem_map.1 hz;rcases (hw k (hpc.1 k (List.mem_append_left _ hk1)) (hall k (List.mem_cons_of_mem _ (List.mem_append_left _ hk1)))).2 with h|h
       ·exact h
       grind
      ·rcases List.mem_cons.1 hz with hz|hz
       ·grind
       ·obtain ⟨k,hk1,rfl⟩:=List.mem_map.1 hz;rcases (hw k (hpc.1 k (List.mem_append_right _ (List.mem_cons_of_mem _ hk1))) (hall k (List.mem_cons_of_mem _ (List.mem_append_right _ (List.mem_cons_of_mem _ hk1))))).2 with h|h
        ·exact h
        ·have:=(List.pairwise_cons.1 (List.pairwise_append.1 hpc.2).2.1).1 k hk1;omega
     have hp2:s.fr p=st.fr p:=MX h1 (by grind);have hq2:s.fr q=st.fr q:=MX h1 (by grind);have hpk:=qR hk (t:=p) (by omega);have hqk:=qR hk (t:=q) (by omega);rw [hp1,hp2] at hpk;rw [hq1,hq2] at hqk;have g6':vop ≠ .tmp d:=fun e=>by grind
     grind [yM,wT]
    ·cases d2
   ·have d3:=d2;simp only [YZ,Bool.and_eq_true] at d3;obtain ⟨⟨⟨⟨_,_⟩,_⟩,_⟩,d3⟩:=d3;split at d3
    ·rename_i t q hyo;simp only [Bool.and_eq_true,Option.isNone_iff_eq_none,Nat.ble_eq] at d3;obtain ⟨⟨hyg,hkd⟩,hall2⟩:=d3;have hz:∀ k,k<ops.size→(ops.getD k default).dst≠some q:=fun k hk2=>by simp_all
     have hoi:o=ops.getD i default:=by rw [Array.getD_eq_getD_getElem?,ho];rfl
     have hq1:s'.fr q=s.fr q:=Fs h2 fun z hz2=>by
      rcases List.mem_append.1 hz2 with hz2|hz2
      ·grind
      ·rcases List.mem_cons.1 hz2 with hz2|hz2
       ·grind
       grind
     have hq2:s.fr q=st.fr q:=MX h1 (hz j hjlt);have hqk:=qR hk (t:=q) (by omega);rw [hq1,hq2] at hqk;unfold JB at hqk;split at hqk
     ·rename_i id off hfr;have hlb:=a0A (t:=q) (l:=kl);exact yQ d2 hyo hyg hfr (by have:=hwf.2;omega) h1 h3
     ·omega
     ·omega
     grind
    ·cases d3
  grind [Ex,LW]
theorem XV {m : Nat → Nat} {kl : List (Nat × Nat)} (hd : qz S.rcv ops m kl = true) (hm : dc ops m = true) {K : St → Prop} : ∀ (fuel : Nat) (listed : Array Bool) (rest : List Nat) (st s' : St),
  listed.size=ops.size→rest.Pairwise (· < ·)→(∀ i,i ∈ rest↔i<ops.size∧listed.getD i true=false)→iv ops listed→LW S ops (rest.map fun i=>ops.getD i default) st s'→K s'→ji kl s'→jB (AY kl) st→rest.length≤fuel →
  iY S ops fuel listed st K:=by
 have hed:∀ i o,ops[i]?=some o→∀ e ∈ o.after,Region.binds .any e=true→e.on<i:=fun i o ho e he hb=>by
  have hlt:i<ops.size:=by
   rcases Nat.lt_or_ge i ops.size with h|h
   ·exact h
   ·grind
  have:=List.all_eq_true.1 hd i (List.mem_range.2 hlt);rw [ho] at this;simp only [Bool.and_eq_true] at this;have:=this.1;obtain ⟨k,hk,rfl⟩:=Array.mem_iff_getElem.1 he;have:=(Array.all_eq_true.1 this) k hk;simp_all
 have noready:∀ (listed:Array Bool) (rest:List Nat),listed.size=ops.size→rest.Pairwise (· < ·)→(∀ i,i ∈ rest↔i<ops.size∧listed.getD i true=false)→Region.ready .any ops listed=[]→rest=[]:=by
  intro listed rest hs hp hr hno;cases rest with
  | nil=>rfl
  | cons i r =>
   exfalso;obtain ⟨hlt,hl⟩:=(hr i).1 (List.mem_cons_self ..)
   have:i ∈ Region.ready .any ops listed:=(de hs).2 ⟨_,Array.getElem?_eq_getElem hlt,hl,fun e he hb=>by
    have hle:=hed i _ (Array.getElem?_eq_getElem hlt) e he hb;cases hq:listed.getD e.on false with
    | true=>rfl
    | false =>
     exfalso;have hq':listed.getD e.on true=false:=by
      have hl2:e.on<listed.size:=by omega
      rw [Array.getD,dif_pos hl2] at hq ⊢;exact hq
     have hmem:=(hr e.on).2 ⟨by omega,hq'⟩;rcases List.mem_cons.1 hmem with h|h
     ·omega
     ·have:=(List.pairwise_cons.1 hp).1 _ h;omega⟩
   grind
 intro fuel
 induction fuel with
 | zero =>
  intro listed rest st s' hs hp hr hcl hx hk hkl hwf hlen;have hnil:rest=[]:=List.eq_nil_of_length_eq_zero (by omega);subst hnil;have hst:st=s':=hx;subst hst;refine ⟨?_,hk⟩;rw [List.eq_nil_iff_forall_not_mem];grind [de]
 | succ fuel ih =>
  intro listed rest st s' hs hp hr hcl hx hk hkl hwf hlen;refine ⟨fun hno => ?_,fun i hi => ?_⟩
  ·grind [LW]
  ·obtain ⟨o,ho,hl,hdep⟩:=(de hs).1 hi;have hlt:i<ops.size:=by
    rcases Nat.lt_or_ge i ops.size with h|h
    ·exact h
    ·grind
   have hmem:=(hr i).2 ⟨hlt,hl⟩;rw [ho];obtain ⟨l1,l2,rfl⟩:=List.append_of_mem hmem;have hpw:=List.pairwise_append.1 hp;have hoi:ops.getD i default=o:=by rw [Array.getD_eq_getD_getElem?,ho];rfl
   rw [List.map_append,List.map_cons,hoi] at hx;have hdep':∀ e ∈ o.after,Region.binds .any e=true→mw listed e.on:=fun e he hb=>by grind [mw]
   have hind:∀ j ∈ l1,(m i).testBit j=false:=fun j hj=>by
    have hji:j<i:=hpw.2.2 j hj i (List.mem_cons_self ..);obtain ⟨hjlt,hjl⟩:=(hr j).1 (List.mem_append_left _ hj);cases h2:(m i).testBit j with
    | false=>rfl
    | true =>
     exfalso;have h3:=List.all_eq_true.1 hm i (List.mem_range.2 hlt);rw [ho] at h3;have h4:=List.all_eq_true.1 h3 j (List.mem_range.2 hji);simp only [h2,Bool.not_true,Bool.false_or] at h4;obtain ⟨k,hk',hh⟩:=Array.any_eq_true.1 h4;simp only [Bool.and_eq_true,Bool.or_eq_true,Nat.beq_eq] at hh;have hin:=hdep' _ (Array.getElem_mem hk') hh.1;have hle:=hed i o ho _ (Array.getElem_mem hk') hh.1;have:mw listed j:=by
      rcases hh.2 with q|q
      ·grind
      ·exact Bm hm hcl hed (fun _ _ _=>trivial) (i+1) _ (by omega) hin (by omega) j (by simp_all) q.1
     unfold mw at this;grind
   have hall:∀ k ∈ l1 ++ i :: l2,k<ops.size:=fun k hk2=>((hr k).1 hk2).1;obtain ⟨s1,h1,h2⟩:=zC hd ho hlt l1 hp hall hind hx hkl hwf;refine jT h1 ?_;have hget:∀ k b,(listed.setIfInBounds i true).getD k b=if k=i then true else listed.getD k b:=fun k b=>by
    simp only [Array.getD_eq_getD_getElem?,Array.getElem?_setIfInBounds];grind
   refine ih _ (l1 ++ l2) s1 s' (by grind) ?_ (fun k => ?_) (fun k x hx' hin e he hb => ?_) (by grind) hk hkl (ym h1 hwf) (by grind)
   ·grind
   ·have hk:=hr k;rw [hget];by_cases hki:k=i
    ·subst hki;simp only [if_true];constructor
     ·intro hmm;exfalso;rcases List.mem_append.1 hmm with q|q
      ·grind
      ·have:=(List.pairwise_cons.1 hpw.2.1).1 k q;omega
     grind
    grind
   ·unfold mw at hin ⊢;rw [hget] at hin ⊢;by_cases hek:e.on=i
    ·grind
    ·rw [if_neg hek];by_cases hki:k=i
     ·grind
     ·rw [if_neg hki] at hin;exact hcl k x hx' hin e he hb
theorem Gz {l:List Oper} {m:Nat→Nat} {kl:List (Nat × Nat)} (hd:qz S.rcv l.toArray m kl=true) (hm:dc l.toArray m=true) {K:St→Prop} (hwf:jB (AY kl) st) (h:bj S l.toArray l st fun s=>ji kl s∧K s):iY S l.toArray l.toArray.size (Array.replicate l.toArray.size false) st K:=by
 obtain ⟨s',h1,h2⟩:=Bu h;refine XV hd hm _ _ (List.range l.length) st s' (by simp) List.pairwise_lt_range (fun i => ?_) (fun i o ho hi => ?_) ?_ h2.2 h2.1 hwf (by simp)
 ·simp_all
 ·exfalso;have hlt:i<l.toArray.size:=by
   rcases Nat.lt_or_ge i l.toArray.size with h|h
   ·exact h
   ·grind
  unfold mw at hi;simp_all
 ·have:(List.range l.length).map (fun i=>l.toArray.getD i default)=l:=by
   apply List.ext_getElem
   ·simp
   ·simp_all
  grind
theorem bT {id : Nat} {l : List Oper} {y : Code} {Q : AExit → St → Prop} (kl : List (Nat × Nat)) (hd : qz S.rcv l.toArray (fun i => (Region.before l.toArray).getD i 0) kl = true) (hm : dc l.toArray (fun i => (Region.before l.toArray).getD i 0) = true)
  (hwf:jB (AY kl) st) (h:∀ K:St→Prop,(∀ s,ji kl s→cw S y Q s→K s)→bj S l.toArray l st K):cw S (.seq (.region id l.toArray true) y) Q st:=by
 refine zB ?_;simp only [cw,if_pos];exact Gz hd hm hwf (h _ fun s h1 h2=>⟨h1,h2⟩)
theorem gx {id : Nat} {l : List Oper} {Q : AExit → St → Prop} (kl : List (Nat × Nat)) (hd : qz S.rcv l.toArray (fun i => (Region.before l.toArray).getD i 0) kl = true) (hm : dc l.toArray (fun i => (Region.before l.toArray).getD i 0) = true)
  (hwf:jB (AY kl) st) (h:∀ K:St→Prop,(∀ s,ji kl s→Q .normal s→K s)→bj S l.toArray l st K):cw S (.region id l.toArray true) Q st:=by
 grind [cw,iY,Gz]
theorem zL {c:Operand} {x y z:Code} {t:Bool} {Q:AExit→St→Prop} (s0:St) (hc:st.ev S c = .t t) (h1:t=true→cw S x (ku (Wk fun s=>s=s0) Q) st) (h2:t=false→cw S y (ku (Wk fun s=>s=s0) Q) st) (h:cw S z Q s0):cw S (.seq (.cond c x y) z) Q st :=
 Se (fun s=>s=s0) (qG hc h1 h2) (fun s hs=>hs ▸ h)
theorem fx {z x:Code} {id:Nat} {Q:AExit→St→Prop} (h:∀ K:St→Prop,(∀ s s',Le s s'→cw S z Q s'→K s)→cw S x (oQ id (ku K Q)) st):cw S (.seq (.block id x) z) Q st:=by grind [fJ,ku,Wk,cw,wj]
theorem a0U {c i o:Nat}:JB c (.b (.c (.ptr i o)))=(c=1∨c=4+i):=rfl
theorem a2w {c i s k o:Nat}:JB c (.b (.c (.pel i s k o)))=(c=2):=rfl
theorem a0Z {c s o:Nat} {g:Nat→PV}:JB c (.b (.c (.ipt s g o)))=(c=3):=rfl
theorem a1G {s:St}:ji [] s=True:=rfl
theorem Yb {s:St} {t c:Nat} {r:List (Nat × Nat)}:ji ((t,c) :: r) s=(JB c (s.fr t)∧ji r s):=rfl
end
attribute [go_sem] AY a0U a2w a0Z a1G Yb
end
end Go.SL
