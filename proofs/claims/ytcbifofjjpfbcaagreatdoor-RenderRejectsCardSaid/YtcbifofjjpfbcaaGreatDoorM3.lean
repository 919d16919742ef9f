/- Part of the proof: SlN, SlO, SlQ, SlR, SlS. -/
import Derived.Test.YtcbifofjjpfbcaaGreatDoorM2
set_option linter.unusedSimpArgs false
set_option linter.unusedVariables false
namespace Go.SL
open Go
section
structure Sl {α:Type} (x:α):Type where
def Sl.of {α:Type} (x:α):Sl x:=⟨⟩
def rk (x:Option (Prop × SV)) (c:Prop) {K:SV→Prop} (_:Sl K):Prop :=
 match x with
 | some (vc,r)=>c∧vc∧K r
 | none=>False
theorem RA {vc c:Prop} {r:SV} {K:SV→Prop}:rk (some (vc,r)) c (Sl.of K)=(c∧vc∧K r):=rfl
def rg (g:Option Bool) (nx:Nat) (x:Option (Prop × SV)) {K:SV→Prop} (_:Sl K) {p:Prop} (_:Sl p):Prop :=
 match g,x with
 | some g,some (vc, .b r)=>r.lt nx∧(g=true→vc)∧K (.grd g r)
 | some g,some (vc, .grd q r)=>r.lt nx∧(g=true→vc∧q=true)∧K (.grd g r)
 | _,_=>p
theorem Td {vc:Prop} {r:BV} {K:SV→Prop} {g u:Bool} {nx:Nat} {p:Prop} {q:Sl p}:rg (some g) nx (some (vc, .grd u r)) (Sl.of K) q=(r.lt nx∧(g=true→vc∧u=true)∧K (.grd g r)):=rfl
theorem QU {vc:Prop} {r:BV} {K:SV→Prop} {g:Bool} {nx:Nat} {p:Prop} {q:Sl p}:rg (some g) nx (some (vc, .b r)) (Sl.of K) q=(r.lt nx∧(g=true→vc)∧K (.grd g r)):=rfl
def rc (x:Option (Prop × SV)) (c:Prop):Option (Prop × SV) :=
 match x with
 | some (vc,r)=>some (c∧vc,r)
 | none=>none
theorem QT {vc c:Prop} {r:SV}:rc (some (vc,r)) c=some (c∧vc,r):=rfl
def en (S:Env) (st:St) (f:FuncId) (args:List BV) {K:SV→St→Prop} (_:Sl K):Prop:=CallP S st f args K
def Vf (g:Option Bool) (c:Prop) (S:Env) (st:St) (f:FuncId) (args:List BV) (d:Option Nat) {K:St→Prop} (_:Sl K):Prop :=
 match g with
 | some g => ((g = true → c ∧ CallP S st f args fun r st' => K (st'.set d r)) ∧ (g = false → K (st.set d .any))) ∨
   ∃ x:BV,x.lt st.nx∧(g=true→c∧CallP S st f args fun r st'=>st'.set d r=st.set d (.b x))∧K (st.set d (.grd g x))
 | none=>False
section
variable {S:Env} {ops:Array Oper} {rest:List Oper} {st:St} {K:St→Prop} {d:Option Nat} {ty:TypeId} {pos:String} {af:Array Edge} {gd:Nat × Bool}
theorem Wg:aY S ops [] st K=K st:=rfl
theorem VM {x:Operand}:aY S ops (⟨d, .move x,ty,pos,af,none⟩ :: rest) st K=aY S ops rest (st.set d (st.ev S x)) K:=by simp [aY,eX,jM,ro]
theorem Ks {x:Operand}:aY S ops (⟨d, .assign x,ty,pos,af,none⟩ :: rest) st K=aY S ops rest (st.set d (st.ev S x)) K:=by simp [aY,eX,jM,ro]
theorem SZ {c x y:Operand}:aY S ops (⟨d, .pick c x y,ty,pos,af,none⟩ :: rest) st K=rk (sV (st.ev S c) (st.ev S x) (st.ev S y)) True (Sl.of fun r=>aY S ops rest (st.set d r) K):=by
 simp only [aY,eX,jM,ro,rk];grind [dX]
theorem dD {o : Oper} {K' : St → Prop} (hr : ∀ x, o.op ≠ .move x) (ha : ∀ x, o.op ≠ .assign x) (hp : ∀ c x y, o.op ≠ .pick c x y) (hM : ∀ K, dX S st (st.ev S) o.op K = False) :
  jM S st o K'=rk (bA S st.bx (st.ev S) o.op) (bc (o.op.operands.toList.map (st.ev S))) (Sl.of fun r=>K' (st.set o.dst r)):=by
 unfold jM ro;grind [rk]
def jL (S:Env) (t:TypeId) (f:Nat) (x:SV):Option (Prop × SV) :=
 match S.fld t f with
 | some (off,sz,_)=>(oL off x).map fun y=>(sz≠0,y)
 | none=>none
def te (i:Nat):SV→Option (Prop × SV)
 | .tup vs=>some (i<vs.length, .b (vs.getD i .any))
 | _=>none
def Lu:SV→Option (Prop × SV)
 | .b (.c (.ptr id off))=>some (True, .b (.c (.ptr id off)))
 | .b (.c (.pel id sz i off))=>some (True, .b (.c (.pel id sz i off)))
 | .b (.c (.ipt sz g off))=>some (True, .b (.c (.ipt sz g off)))
 | _=>none
def MY:SV→SV→Option (Prop × SV)
 | .b (.c (.p (.val (.int k a)))), .b (.c (.p (.val (.int k' b))))=>some (k=k', .v (.int k (if b<a then b else a)))
 | _,_=>none
def Ll:SV→SV→Option (Prop × SV)
 | .b (.c (.p (.val (.int k a)))), .b (.c (.p (.val (.int k' b))))=>some (k=k', .v (.int k (if b>a then b else a)))
 | _,_=>none
theorem UH {t:TypeId} {x:Operand}:aY S ops (⟨d, .load t x,ty,pos,af,none⟩ :: rest) st K=rk (ef S t st.bx (st.ev S x).strip) (st.ev S x).cond (Sl.of fun r=>aY S ops rest (st.set d r) K):=by
 simp only [aY,eX];rw [dD (by simp) (by simp) (by simp) (fun _=>rfl)];simp [bA,Op.operands,bc]
theorem BF {t : TypeId} {x : Operand} {f : Nat} : aY S ops (⟨d, .fieldAddr t x f, ty, pos, af, none⟩ :: rest) st K =
  rk (jL S t f (st.ev S x).strip) (st.ev S x).cond (Sl.of fun r=>aY S ops rest (st.set d r) K):=by
 simp only [aY,eX];rw [dD (by simp) (by simp) (by simp) (fun _=>rfl),show bA S st.bx (st.ev S) (.fieldAddr t x f)=jL S t f (st.ev S x).strip from rfl];simp [Op.operands,bc]
theorem NS {t:TypeId} {x:Operand} {f:Nat}:aY S ops (⟨d, .field t x f,ty,pos,af,none⟩ :: rest) st K=rk (rm S t f (st.ev S x).strip) (st.ev S x).cond (Sl.of fun r=>aY S ops rest (st.set d r) K):=by
 simp only [aY,eX];rw [dD (by simp) (by simp) (by simp) (fun _=>rfl)];simp [bA,Op.operands,bc]
theorem Dx {t : TypeId} {x i : Operand} : aY S ops (⟨d, .indexAddr t x i, ty, pos, af, none⟩ :: rest) st K =
  rk (iO S t (st.ev S x).strip (st.ev S i).strip) ((st.ev S x).cond∧(st.ev S i).cond) (Sl.of fun r=>aY S ops rest (st.set d r) K):=by
 simp only [aY,eX];rw [dD (by simp) (by simp) (by simp) (fun _=>rfl)];simp [bA,Op.operands,bc]
theorem Rn {t : TypeId} {x i : Operand} : aY S ops (⟨d, .index t x i, ty, pos, af, none⟩ :: rest) st K =
  rk (rA S t (st.ev S x).strip (st.ev S i).strip) ((st.ev S x).cond∧(st.ev S i).cond) (Sl.of fun r=>aY S ops rest (st.set d r) K):=by
 simp only [aY,eX];rw [dD (by simp) (by simp) (by simp) (fun _=>rfl)];simp [bA,Op.operands,bc]
theorem HI {x : Operand} {i : Nat} : aY S ops (⟨d, .extract x i, ty, pos, af, none⟩ :: rest) st K =
  rk (te i (st.ev S x).strip) (st.ev S x).cond (Sl.of fun r=>aY S ops rest (st.set d r) K):=by
 simp only [aY,eX];rw [dD (by simp) (by simp) (by simp) (fun _=>rfl),show bA S st.bx (st.ev S) (.extract x i)=te i (st.ev S x).strip from rfl];simp [Op.operands,bc]
theorem Wx {op : BinOp} {t yt : TypeId} {x y : Operand} : aY S ops (⟨d, .binOp op t x y yt, ty, pos, af, none⟩ :: rest) st K =
  rk (yB S op t (st.ev S x).strip (st.ev S y).strip) ((st.ev S x).cond∧(st.ev S y).cond) (Sl.of fun r=>aY S ops rest (st.set d r) K):=by
 simp only [aY,eX];rw [dD (by simp) (by simp) (by simp) (fun _=>rfl)];simp [bA,Op.operands,bc]
theorem YC {op : UnOp} {t : TypeId} {x : Operand} : aY S ops (⟨d, .unOp op t x, ty, pos, af, none⟩ :: rest) st K =
  rk (Hr op (st.ev S x).strip) (st.ev S x).cond (Sl.of fun r=>aY S ops rest (st.set d r) K):=by
 simp only [aY,eX];rw [dD (by simp) (by simp) (by simp) (fun _=>rfl)];simp [bA,Op.operands,bc]
theorem Ut {s t : TypeId} {x : Operand} : aY S ops (⟨d, .convert s t x, ty, pos, af, none⟩ :: rest) st K =
  rk (sU S s t (st.ev S x).strip) (st.ev S x).cond (Sl.of fun r=>aY S ops rest (st.set d r) K):=by
 simp only [aY,eX];rw [dD (by simp) (by simp) (by simp) (fun _=>rfl)];simp [bA,Op.operands,bc]
def DF (S:Env) (st:St):Option Operand→Prop
 | none=>True
 | some x=>(st.ev S x).cond
theorem Rq {t : TypeId} {x : Operand} {lo hi : Option Operand} : aY S ops (⟨d, .slice t x lo hi none, ty, pos, af, none⟩ :: rest) st K =
  rk (rO S t (st.ev S x).strip (lo.map fun x=>(st.ev S x).strip) (hi.map fun x=>(st.ev S x).strip)) ((st.ev S x).cond∧DF S st lo∧DF S st hi) (Sl.of fun r=>aY S ops rest (st.set d r) K):=by
 simp only [aY,eX];rw [dD (by simp) (by simp) (by simp) (fun _=>rfl)];cases lo <;> cases hi <;> simp [bA,Op.operands,bc,DF]
theorem Eb {x : Operand} : aY S ops (⟨d, .nilCheck x, ty, pos, af, none⟩ :: rest) st K =
  rk (Lu (st.ev S x).strip) (st.ev S x).cond (Sl.of fun r=>aY S ops rest (st.set d r) K):=by
 simp only [aY,eX];rw [dD (by simp) (by simp) (by simp) (fun _=>rfl),show bA S st.bx (st.ev S) (.nilCheck x)=Lu (st.ev S x).strip from rfl];simp [Op.operands,bc]
theorem Xp {x : Operand} {t : TypeId} : aY S ops (⟨d, .call ⟨.builtin .len, #[x], #[t]⟩, ty, pos, af, none⟩ :: rest) st K =
  rk (zk S t (st.ev S x).strip) (st.ev S x).cond (Sl.of fun r=>aY S ops rest (st.set d r) K):=by
 simp only [aY,eX];rw [dD (by simp) (by simp) (by simp) (fun _=>by simp [dX])];simp [bA,Op.operands,Call.operands,bc]
theorem WM {x y : Operand} {ts : Array TypeId} : aY S ops (⟨d, .call ⟨.builtin .min, #[x, y], ts⟩, ty, pos, af, none⟩ :: rest) st K =
  rk (MY (st.ev S x).strip (st.ev S y).strip) ((st.ev S x).cond∧(st.ev S y).cond) (Sl.of fun r=>aY S ops rest (st.set d r) K):=by
 simp only [aY,eX];rw [dD (by simp) (by simp) (by simp) (fun _=>by simp [dX]),show bA S st.bx (st.ev S) (.call ⟨.builtin .min, #[x,y],ts⟩)=MY (st.ev S x).strip (st.ev S y).strip from rfl];simp [Op.operands,Call.operands,bc]
theorem XI {x y : Operand} {ts : Array TypeId} : aY S ops (⟨d, .call ⟨.builtin .max, #[x, y], ts⟩, ty, pos, af, none⟩ :: rest) st K =
  rk (Ll (st.ev S x).strip (st.ev S y).strip) ((st.ev S x).cond∧(st.ev S y).cond) (Sl.of fun r=>aY S ops rest (st.set d r) K):=by
 simp only [aY,eX];rw [dD (by simp) (by simp) (by simp) (fun _=>by simp [dX]),show bA S st.bx (st.ev S) (.call ⟨.builtin .max, #[x,y],ts⟩)=Ll (st.ev S x).strip (st.ev S y).strip from rfl];simp [Op.operands,Call.operands,bc]
def mk (x:Option (Prop × SV × St)) {K:SV→St→Prop} (_:Sl K):Prop :=
 match x with
 | some (vc,r,s)=>vc∧K r s
 | none=>False
theorem Re {vc:Prop} {r:SV} {s:St} {K:SV→St→Prop}:mk (some (vc,r,s)) (Sl.of K)=(vc∧K r s):=rfl
def Bk (S:Env) (st:St) (t:TypeId):Option (Prop × SV × St) :=
 match S.zero t with
 | some z=>some (True, .b (.c (.ptr st.nx 0)),st.newBox (.fix (z.map CV.ofV)))
 | none=>none
def PE (st:St) (x:SV):Option (Prop × SV × St) :=
 match x with
 | .b v=>some (v.one, .b (.c (.ptr st.nx 0)),st.newBox (.fix v.cells))
 | _=>none
def qm (S:Env) (st:St) (t:TypeId) (ps:List (Nat × Operand)):Option (Prop × SV × St) :=
 match S.bld t,S.zero t with
 | some pl,some z=>match je (pa pl) (st.ev S) ps (z.map CV.ofV) with
  | some (vc,cs)=>some (vc, .b (.agg cs),st)
  | none=>none
 | _,_=>none
def lN (S:Env) (st:St) (t:TypeId) (len:Nat) (ps:List (Nat × Operand)):Option (Prop × SV × St) :=
 match S.el t with
 | some (none,e,s,_)=>match S.zero e with
  | some z=>match je (fun i=>some (i * s,s)) (st.ev S) ps ((List.range (len * s)).map fun i=>CV.ofV (z.getD (i % z.length) undef)) with
   | some (vc,cs)=>some (vc∧0<s∧z.length=s∧len * s≤16777216∧0≤len, .b (.c (.own st.nx len)),st.newBox (.arr e s len fun i j=>(cs.getD (i * s+j) .any).toP))
   | none=>none
  | none=>none
 | _=>none
def Ah (S:Env) (st:St) (t:TypeId) (p x:SV):Option (Prop × SV × St) :=
 match p,x,S.ti t with
 | .b (.c (.ptr id off)), .b v,some (sz,_)=>match st.bx id with
  | some (.fix cs)=>some (v.cells.length=sz∧off+sz≤cs.length∧v.one, .any,st.setBox id (.fix (kZ cs off v.cells)))
  | _=>none
 | .b (.c (.pel id s i off)), .b v,some (sz,_)=>match st.bx id with
  | some (.arr e s' n f) => some (s = s' ∧ i < n ∧ off + sz ≤ s ∧ v.cells.length = sz ∧ v.one ∧ v.lt 0, .any,
    st.setBox id (.arr e s' n fun i' j=>if i'=i then (if off≤j∧j<off+sz then (v.cells.getD (j - off) .any).toP else f i j) else f i' j))
  | _=>none
 | _,_,_=>none
def Env.byt (S:Env) (e:TypeId):Option Nat:=(S.P.info? e).map (·.bytes)
def GN (S:Env) (st:St) (t:TypeId) (fz:Bool) (l c:SV):Option (Prop × SV × St) :=
 match l,c,S.el t with
 | .b (.c (.p (.val (.int _ l)))), .b (.c (.p (.val (.int _ c)))),some (none,e,s,_)=>match S.zero e,S.byt e with
  | some z, some by' => some (0 ≤ l ∧ l ≤ c ∧ (by' : Int) * c ≤ 281474976710656 ∧ c ≤ 9223372036854775807 ∧ 0 < s ∧ z.length = s,
    Xe fz st.nx s l.toNat z,st.newBoxO (Xx fz e s l.toNat z))
  | _,_=>none
 | _,_,_=>none
def vg (S:Env) (st:St) (t t':TypeId) (x y:SV):Option (Prop × SV × St) :=
 match S.el t,tZ st.bx y with
 | some (none,e,s,_),some (vc,sz,m,g)=>match S.byt e,S.zero e,x with
  | some by',some z, .b (.c (.p (.val (.slice none 0 0)))) =>
   some (vc∧t=t'∧(sz=s∨m=0)∧0<s∧z.length=s∧m * by'≤140737488355328∧m≤maxLen, .b (.c (.own st.nx m)),st.newBox (.arr e s m g))
  | some by',some z, .b (.c (.own id n))=>match st.bx id with
   | some (.arr e' s' n' f) =>
    some (vc∧t=t'∧e=e'∧s=s'∧n≤n'∧(sz=s∨m=0)∧0<s∧z.length=s∧(n+m) * by'≤140737488355328∧n+m≤maxLen,
     .b (.c (.own st.nx (n+m))),(st.delBox id).newBox (.arr e s (n+m) (gY n f g)))
   | _=>none
  | _,_,_=>none
 | _,_=>none
def GZ (S:Env) (st:St) (t:TypeId) (x y:SV):Option (Prop × SV × St) :=
 match S.el t,x,y with
 | some (none,_,s,_), .b (.c (.sub id s1 lo n)), .b (.c (.p (.lst sz m g)))=>match st.bx id with
  | some (.arr e' s2 n' f)=>some (s1=s∧s2=s∧sz=s∧n≤m∧lo+n≤n'∧0<n, .b (.c (.p (.val (.int .i64 n)))),st.setBox id (.arr e' s2 n' fun i j=>if lo≤i∧i<lo+n then g (i - lo) j else f i j))
  | _=>none
 | _,_,_=>none
theorem NI {t t':TypeId} {x y:Operand} {K:SV→St→Prop}:dX S st (st.ev S) (.call ⟨.builtin .copy, #[x,y], #[t,t']⟩) K=mk (GZ S st t (st.ev S x).strip (st.ev S y).strip) (Sl.of K):=by
 simp only [dX,GZ];grind [mk]
theorem LA {t:TypeId} {K:SV→St→Prop}:dX S st (st.ev S) (.alloc t) K=mk (Bk S st t) (Sl.of K):=by grind [dX,mk,Bk]
theorem SC {t:TypeId} {x:Operand} {K:SV→St→Prop}:dX S st (st.ev S) (.box t x) K=mk (PE st (st.ev S x).strip) (Sl.of K):=by grind [dX,mk,PE]
theorem DA {t:TypeId} {ps:Array (Nat × Operand)} {K:SV→St→Prop}:dX S st (st.ev S) (.build t ps) K=mk (qm S st t ps.toList) (Sl.of K):=by grind [dX,mk,qm]
theorem xZ {t:TypeId} {n:Nat} {ps:Array (Nat × Operand)} {K:SV→St→Prop}:dX S st (st.ev S) (.buildSlice t n ps) K=mk (lN S st t n ps.toList) (Sl.of K):=by grind [dX,mk,lN]
theorem KE {t:TypeId} {p x:Operand} {K:SV→St→Prop}:dX S st (st.ev S) (.store t p x) K=mk (Ah S st t (st.ev S p).strip (st.ev S x).strip) (Sl.of K):=by
 simp only [dX,Ah];split
 ·grind [mk]
 ·grind [mk]
 grind [mk]
theorem QH {t:TypeId} {l c:Operand} {K:SV→St→Prop}:dX S st (st.ev S) (.makeSlice t l c) K=mk (GN S st t (S.frz t l) (st.ev S l).strip (st.ev S c).strip) (Sl.of K):=by
 simp only [dX,GN,Env.byt];split
 ·rename_i e s _ _ _ _;cases hz:S.zero e with
  | none=>simp_all [mk]
  | some z =>
   cases hi:S.P.info? e with
   | none=>simp_all [mk]
   | some i=>simp_all [mk]
 grind [mk]
theorem HL {t t':TypeId} {x y:Operand} {K:SV→St→Prop}:dX S st (st.ev S) (.call ⟨.builtin .append, #[x,y], #[t,t']⟩) K=mk (vg S st t t' (st.ev S x).strip (st.ev S y).strip) (Sl.of K):=by
 simp only [dX,vg,Env.byt];split
 ·rename_i e s ag vc sz m g _ _;cases hi:S.P.info? e with
  | none=>simp_all [mk]
  | some i =>
   cases hz:S.zero e with
   | none=>simp_all [mk]
   | some z =>
    simp only [*,Option.map_some];split
    ·simp_all [mk]
    ·grind [mk]
    grind [mk]
 grind [mk]
theorem vE {o:Oper} {K':St→Prop} (hro:ro S st.bx (st.ev S) o.op=none):jM S st o K'=(bc (o.op.operands.toList.map (st.ev S))∧dX S st (st.ev S) o.op fun r st'=>K' (st'.set o.dst r)):=by grind [jM,ro]
theorem OE {t : TypeId} : aY S ops (⟨d, .alloc t, ty, pos, af, none⟩ :: rest) st K =
  mk (Bk S st t) (Sl.of fun r st'=>aY S ops rest (st'.set d r) K):=by
 simp only [aY,eX];rw [vE rfl,LA];simp [Op.operands,bc]
theorem Xm {t : TypeId} {x : Operand} : aY S ops (⟨d, .box t x, ty, pos, af, none⟩ :: rest) st K =
  ((st.ev S x).cond∧mk (PE st (st.ev S x).strip) (Sl.of fun r st'=>aY S ops rest (st'.set d r) K)):=by
 simp only [aY,eX];rw [vE rfl,SC];simp [Op.operands,bc]
theorem PJ {t : TypeId} {ps : Array (Nat × Operand)} : aY S ops (⟨d, .build t ps, ty, pos, af, none⟩ :: rest) st K =
  (bc (ps.toList.map fun p=>st.ev S p.2)∧mk (qm S st t ps.toList) (Sl.of fun r st'=>aY S ops rest (st'.set d r) K)):=by
 simp only [aY,eX];rw [vE rfl,DA];simp [Op.operands];exact fun _=>Iff.rfl
theorem Bd {t : TypeId} {n : Nat} {ps : Array (Nat × Operand)} : aY S ops (⟨d, .buildSlice t n ps, ty, pos, af, none⟩ :: rest) st K =
  (bc (ps.toList.map fun p=>st.ev S p.2)∧mk (lN S st t n ps.toList) (Sl.of fun r st'=>aY S ops rest (st'.set d r) K)):=by
 simp only [aY,eX];rw [vE rfl,xZ];simp [Op.operands];exact fun _=>Iff.rfl
theorem OL {t : TypeId} {x y : Operand} : aY S ops (⟨d, .store t x y, ty, pos, af, none⟩ :: rest) st K =
  (((st.ev S x).cond∧(st.ev S y).cond)∧mk (Ah S st t (st.ev S x).strip (st.ev S y).strip) (Sl.of fun r st'=>aY S ops rest (st'.set d r) K)):=by
 simp only [aY,eX];rw [vE rfl,KE];simp [Op.operands,bc]
theorem VD {t : TypeId} {x y : Operand} : aY S ops (⟨d, .makeSlice t x y, ty, pos, af, none⟩ :: rest) st K =
  (((st.ev S x).cond∧(st.ev S y).cond)∧mk (GN S st t (S.frz t x) (st.ev S x).strip (st.ev S y).strip) (Sl.of fun r st'=>aY S ops rest (st'.set d r) K)):=by
 simp only [aY,eX];rw [vE rfl,QH];simp [Op.operands,bc]
theorem Md {x y : Operand} {t t' : TypeId} : aY S ops (⟨d, .call ⟨.builtin .append, #[x, y], #[t, t']⟩, ty, pos, af, none⟩ :: rest) st K =
  (((st.ev S x).cond∧(st.ev S y).cond)∧mk (vg S st t t' (st.ev S x).strip (st.ev S y).strip) (Sl.of fun r st'=>aY S ops rest (st'.set d r) K)):=by
 simp only [aY,eX];rw [vE rfl,HL];simp [Op.operands,Call.operands,bc]
theorem TR {x y : Operand} {t t' : TypeId} : aY S ops (⟨d, .call ⟨.builtin .copy, #[x, y], #[t, t']⟩, ty, pos, af, none⟩ :: rest) st K =
  (((st.ev S x).cond∧(st.ev S y).cond)∧mk (GZ S st t (st.ev S x).strip (st.ev S y).strip) (Sl.of fun r st'=>aY S ops rest (st'.set d r) K)):=by
 simp only [aY,eX];rw [vE rfl,NI];simp [Op.operands,Call.operands,bc]
theorem Ui {f : FuncId} {args : Array Operand} {ts : Array TypeId} : aY S ops (⟨d, .call ⟨.value (.func f), args, ts⟩, ty, pos, af, none⟩ :: rest) st K =
  (bc (args.toList.map (st.ev S))∧en S st f (args.toList.map fun x=>fh (st.ev S x)) (Sl.of fun r st'=>aY S ops rest (st'.set d r) K)):=by
 simp only [aY,eX];rw [vE (by simp [ro,bA])];simp [Op.operands,Call.operands,bc,dX,St.ev,SV.cond,en]
end
section
variable {S:Env} {ops:Array Oper} {rest:List Oper} {st:St} {K:St→Prop} {d:Option Nat} {ty:TypeId} {pos:String} {af:Array Edge} {j:Nat} {want:Bool} {bx:Nat→Option Bx} {ev:Operand→SV}
theorem nb {op:Op} (hr:∀ x,op ≠ .move x) (ha:∀ x,op ≠ .assign x) (hp:∀ c x y,op ≠ .pick c x y):ro S bx ev op=rc (bA S bx ev op) (bc (op.operands.toList.map ev)):=by
 unfold ro rc;grind
theorem NA {x:Operand}:ro S bx ev (.move x)=some (True,ev x):=rfl
theorem IY {x:Operand}:ro S bx ev (.assign x)=some (True,ev x):=rfl
theorem OG {c x y:Operand}:ro S bx ev (.pick c x y)=sV (ev c) (ev x) (ev y):=rfl
theorem pH {t:TypeId} {x:Operand}:ro S bx ev (.load t x)=rc (ef S t bx (ev x).strip) (ev x).cond:=by rw [nb (by simp) (by simp) (by simp)];simp [bA,Op.operands,bc]
theorem Aw {t:TypeId} {x:Operand} {f:Nat}:ro S bx ev (.fieldAddr t x f)=rc (jL S t f (ev x).strip) (ev x).cond:=by rw [nb (by simp) (by simp) (by simp)];simp [bA,jL,Op.operands,bc];rfl
theorem Bp {t:TypeId} {x i:Operand}:ro S bx ev (.indexAddr t x i)=rc (iO S t (ev x).strip (ev i).strip) ((ev x).cond∧(ev i).cond):=by rw [nb (by simp) (by simp) (by simp)];simp [bA,Op.operands,bc]
theorem Sr {op:BinOp} {t yt:TypeId} {x y:Operand}:ro S bx ev (.binOp op t x y yt)=rc (yB S op t (ev x).strip (ev y).strip) ((ev x).cond∧(ev y).cond):=by rw [nb (by simp) (by simp) (by simp)];simp [bA,Op.operands,bc]
theorem Ye {op:UnOp} {t:TypeId} {x:Operand}:ro S bx ev (.unOp op t x)=rc (Hr op (ev x).strip) (ev x).cond:=by rw [nb (by simp) (by simp) (by simp)];simp [bA,Op.operands,bc]
theorem Pm {s t:TypeId} {x:Operand}:ro S bx ev (.convert s t x)=rc (sU S s t (ev x).strip) (ev x).cond:=by rw [nb (by simp) (by simp) (by simp)];simp [bA,Op.operands,bc]
theorem VO {x:Operand} {t:TypeId}:ro S bx ev (.call ⟨.builtin .len, #[x], #[t]⟩)=rc (zk S t (ev x).strip) (ev x).cond:=by rw [nb (by simp) (by simp) (by simp)];simp [bA,Op.operands,Call.operands,bc]
theorem YO {op : Op} : aY S ops (⟨d, op, ty, pos, af, some (j, want)⟩ :: rest) st K =
  rg (jV st ((ops[j]?).bind (·.dst)) want) st.nx (ro S st.bx (st.ev S) op) (Sl.of fun r=>aY S ops rest (st.set d r) K) (Sl.of (aY S ops (⟨d,op,ty,pos,af,some (j,want)⟩ :: rest) st K)):=by
 unfold rg;split
 ·rename_i g vc r h1 h2;simp only [aY,eX];grind
 ·rename_i g vc u r h1 h2;simp only [aY,eX];grind
 ·rfl
theorem UI {f : FuncId} {args : Array Operand} {ts : Array TypeId} : aY S ops (⟨d, .call ⟨.value (.func f), args, ts⟩, ty, pos, af, some (j, want)⟩ :: rest) st K =
  Vf (jV st ((ops[j]?).bind (·.dst)) want) (bc (args.toList.map (st.ev S))) S st f (args.toList.map fun x=>fh (st.ev S x)) d (Sl.of fun st'=>aY S ops rest st' K):=by
 simp only [aY,eX];cases jV st ((ops[j]?).bind (·.dst)) want with
 | none=>rfl
 | some g =>
  simp only [Vf];rw [show ro S st.bx (st.ev S) (.call ⟨.value (.func f),args,ts⟩)=none by simp [ro,bA]];have hm : ∀ K' : St → Prop, jM S st ⟨d, .call ⟨.value (.func f), args, ts⟩, ty, pos, af, some (j, want)⟩ K' =
    (bc (args.toList.map (st.ev S))∧CallP S st f (args.toList.map fun x=>fh (st.ev S x)) fun r st'=>K' (st'.set d r)):=fun K'=>by
   rw [vE (by simp [ro,bA])];simp [Op.operands,Call.operands,bc,dX,St.ev,SV.cond]
  grind
end
def Yp (g:Option Bool) (nx:Nat) (x:Option (Prop × SV × St)) (c:Prop) {K:SV→Prop} (_:Sl K) {p:Prop} (_:Sl p):Prop :=
 match g,x with
 | some g,some (vc, .b r,_)=>(r.lt nx∧(g=true→c∧vc)∧K (.grd g r))∨p
 | _,_=>p
theorem KQ {vc c:Prop} {r:BV} {K:SV→Prop} {g:Bool} {nx:Nat} {p:Prop} {q:Sl p} {s:St} (h:r.lt nx∧(g=true→c∧vc)∧K (.grd g r)):Yp (some g) nx (some (vc, .b r,s)) c (Sl.of K) q := .inl h
section
variable {S:Env} {ops:Array Oper} {rest:List Oper} {st:St} {K:St→Prop} {d:Option Nat} {ty:TypeId} {pos:String} {af:Array Edge} {j:Nat} {want:Bool}
theorem Iy {t:TypeId} {ps:List (Nat × Operand)} {vc:Prop} {r:SV} {s:St} (h:qm S st t ps=some (vc,r,s)):s=st:=by
 unfold qm at h;grind
theorem RO {t : TypeId} {ps : Array (Nat × Operand)} : aY S ops (⟨d, .build t ps, ty, pos, af, some (j, want)⟩ :: rest) st K =
  Yp (jV st ((ops[j]?).bind (·.dst)) want) st.nx (qm S st t ps.toList) (bc (ps.toList.map fun p=>st.ev S p.2)) (Sl.of fun r=>aY S ops rest (st.set d r) K) (Sl.of (aY S ops (⟨d, .build t ps,ty,pos,af,some (j,want)⟩ :: rest) st K)):=by
 unfold Yp;split
 ·rename_i g vc r s h1 h2;have hs:=Iy h2;subst hs;refine propext ⟨fun h => .inr h,fun h => ?_⟩;rcases h with h|h
  ·simp only [aY,eX];rw [h1];have hro:ro S s.bx (s.ev S) (.build t ps)=none:=rfl;simp only [hro];refine .inr ⟨r,h.1,fun hg => ?_,h.2.2⟩;rw [vE hro];refine ⟨?_, ?_⟩
   ·have:=(h.2.1 hg).1;simp only [Op.operands,List.map_map];exact this
   grind [dX,mk,DA]
  ·exact h
 ·rfl
end
section
variable {S:Env} {ops:Array Oper} {rest:List Oper} {st:St} {K:St→Prop} {d:Option Nat} {ty:TypeId} {pos:String} {af:Array Edge} {gd:Nat × Bool}
theorem Ty {t:Nat}:st.ev S (.tmp t)=st.fr t:=rfl
theorem MZ {v:Value}:st.ev S (.const v) = .b (.c (.p (.val v))):=rfl
theorem Ps {f:Nat}:st.ev S (.func f) = .v (.func (.func f) #[] #[]):=rfl
theorem HY {g:Nat}:st.ev S (.global g)=(match S.gl g with|some (n,f) => .b (.c (.ipt n f 0))|none => .any):=rfl
theorem JI {v:SV}:st.set none v=st:=rfl
theorem VK {k s:Nat} {v:SV}:(st.set (some k) v).fr s=if s=k then v else st.fr s:=rfl
theorem dG {k:Option Nat} {v:SV}:(st.set k v).bx=st.bx:=by cases k <;> rfl
theorem jb {k:Option Nat} {v:SV}:(st.set k v).nx=st.nx:=by cases k <;> rfl
theorem HW {x:Bx}:(st.newBox x).fr=st.fr:=rfl
theorem IW {x:Bx} {i:Nat}:(st.newBox x).bx i=if i=st.nx then some x else st.bx i:=rfl
theorem Jm {x:Bx}:(st.newBox x).nx=st.nx+1:=rfl
theorem RT {x:Option Bx}:(st.newBoxO x).fr=st.fr:=rfl
theorem Rj {x:Option Bx} {i:Nat}:(st.newBoxO x).bx i=if i=st.nx then x else st.bx i:=rfl
theorem OM {x:Option Bx}:(st.newBoxO x).nx=st.nx+1:=rfl
theorem QN {x:Option Bx}:(st.newBoxO x).kf=st.kf:=rfl
theorem Hf {x:Bx} {i:Nat}:(st.setBox i x).fr=st.fr:=rfl
theorem Jh {x:Bx} {i j:Nat}:(st.setBox i x).bx j=if j=i then some x else st.bx j:=rfl
theorem Ib {x:Bx} {i:Nat}:(st.setBox i x).nx=st.nx:=rfl
theorem If {i:Nat}:(st.delBox i).fr=st.fr:=rfl
theorem HS {i j:Nat}:(st.delBox i).bx j=if j=i then none else st.bx j:=rfl
theorem Hi {i:Nat}:(st.delBox i).nx=st.nx:=rfl
theorem SR {args:List BV}:(wP args).fr=jQ args 0:=rfl
theorem UR {args:List BV} {i:Nat}:(wP args).bx i=none:=rfl
theorem VB {args:List BV}:(wP args).nx=0:=rfl
theorem Uk {cs:List PV} {args:List BV} {s:Nat}:(ZG cs args).fr s=if s=0 then .b (.c (.ptr 0 0)) else jQ args 1 s:=rfl
theorem Ue {cs:List PV} {args:List BV} {i:Nat}:(ZG cs args).bx i=if i=0 then some (.fix (cs.map CV.p)) else none:=rfl
theorem UY {cs:List PV} {args:List BV}:(ZG cs args).nx=1:=rfl
theorem ER {k s:Nat}:jQ [] k s = .any:=rfl
theorem BB {x:BV} {r:List BV} {k s:Nat}:jQ (x :: r) k s=if s=k then .b x else jQ r (k+1) s:=rfl
theorem MS {s:Nat}:lW [] s = .any:=rfl
theorem zF {k s:Nat} {v:SV} {r:List (Nat × SV)}:lW ((k,v) :: r) s=if s=k then v else lW r s:=rfl
theorem Mo {s:Nat}:js [] s=none:=rfl
theorem kD {k s:Nat} {v:Bx} {r:List (Nat × Bx)}:js ((k,v) :: r) s=if s=k then some v else js r s:=rfl
theorem NK {x:BV}:(SV.b x).strip = .b x:=rfl
theorem IZ {p:Bool} {x:BV}:(SV.grd p x).strip = .b x:=rfl
theorem Iw {x:List BV}:(SV.tup x).strip = .tup x:=rfl
theorem Ts {x:BV}:(SV.b x).cond=True:=rfl
theorem Lh {p:Bool} {x:BV}:(SV.grd p x).cond=(p=true):=rfl
theorem KA {x:List BV}:(SV.tup x).cond=True:=rfl
theorem KZ {x:BV}:fh (.b x)=x:=rfl
theorem Ea {p:Bool} {x:BV}:fh (.grd p x)=x:=rfl
theorem CR:bc []=True:=rfl
theorem Ae {x:SV} {r:List SV}:bc (x :: r)=(x.cond∧bc r):=rfl
theorem Eo:DF S st none=True:=rfl
theorem Fh {x:Operand}:DF S st (some x)=(st.ev S x).cond:=rfl
theorem ae {n:St→Prop} {Q:AExit→St→Prop}:iL n Q .normal st=n st:=rfl
theorem HF {n:St→Prop} {Q:AExit→St→Prop}:iL n Q .ret st=Q .ret st:=rfl
theorem FF {n:St→Prop} {Q:AExit→St→Prop} {id:Nat}:iL n Q (.exit id) st=Q (.exit id) st:=rfl
theorem eF {id:Nat} {Q:AExit→St→Prop}:lY id Q .normal st=Q .normal st:=rfl
theorem EH {id:Nat} {Q:AExit→St→Prop}:lY id Q .ret st=Q .ret st:=rfl
theorem BI {id id':Nat} {Q:AExit→St→Prop}:lY id Q (.exit id') st=if id'=id then Q .normal st else Q (.exit id') st:=rfl
theorem Nv {rs:List ResultVar} {R:SV→Prop}:Qx S rs R .ret st=AP S rs R st:=rfl
theorem Ct {rs:List ResultVar} {R:SV→Prop}:Qx S rs R .normal st=AP S rs R st:=rfl
theorem MC {rs:List ResultVar} {R:SV→List PV→Prop}:WE S rs R .ret st=Mc S rs R st:=rfl
theorem Bt {rs:List ResultVar} {R:SV→List PV→Prop}:WE S rs R .normal st=Mc S rs R st:=rfl
end
section
variable {S:Env} {st:St} {Q:AExit→St→Prop}
theorem ix {id:Nat} {l:List Oper} {y:Code} (h:∀ K:St→Prop,(∀ s,cw S y Q s→K s)→aY S l.toArray l st K):cw S (.seq (.region id l.toArray false) y) Q st :=
 wB (th (h _ fun _ h=>h))
theorem RN {id:Nat} {l:List Oper} (h:∀ K:St→Prop,(∀ s,Q .normal s→K s)→aY S l.toArray l st K):cw S (.region id l.toArray false) Q st :=
 th (h _ fun _ h=>h)
theorem MJ {id : Nat} {l : List Oper} {y : Code} (hd : xp S.rcv l.toArray (fun i => (Region.before l.toArray).getD i 0) = true) (hm : cn l.toArray (fun i => (Region.before l.toArray).getD i 0) = true)
  (h:∀ K:St→Prop,(∀ s,cw S y Q s→K s)→aY S l.toArray l st K):cw S (.seq (.region id l.toArray true) y) Q st :=
 wB (GK hd hm (h _ fun _ h=>h))
theorem Kt {id : Nat} {l : List Oper} (hd : xp S.rcv l.toArray (fun i => (Region.before l.toArray).getD i 0) = true) (hm : cn l.toArray (fun i => (Region.before l.toArray).getD i 0) = true)
  (h:∀ K:St→Prop,(∀ s,Q .normal s→K s)→aY S l.toArray l st K):cw S (.region id l.toArray true) Q st :=
 GK hd hm (h _ fun _ h=>h)
theorem fV {x y z:Code} (h:cw S (.seq x (.seq y z)) Q st):cw S (.seq (.seq x y) z) Q st :=
 ec x (fun e s hs=>by cases e <;> exact hs) h
theorem zh {c:Operand} {x y z:Code} {t:Bool} (hc:st.ev S c = .t t) (h1:t=true→cw S (.seq x z) Q st) (h2:t=false→cw S (.seq y z) Q st):cw S (.seq (.cond c x y) z) Q st :=
 mW hc h1 h2
theorem Nq {z:Code} (h:cw S z Q st):cw S (.seq .skip z) Q st := .inr h
theorem lP {z:Code} (h:Q .ret st):cw S (.seq .ret z) Q st:=h
theorem ML {z:Code} {id:Nat} (h:Q (.exit id) st):cw S (.seq (.exit id) z) Q st:=h
theorem aU {z x:Code} {id:Nat} (h:∀ K:St→Prop,(∀ s,cw S z Q s→K s)→cw S x (lY id (iL K Q)) st):cw S (.seq (.block id x) z) Q st :=
 wB (h _ fun _ h=>h)
end
def gu:List BV→Prop
 | []=>True
 | x :: r=>x.lt 0∧gu r
theorem bS:∀ {l:List BV},gu l→∀ x ∈ l,BV.lt 0 x
 | _ :: _,h,_, .head _=>h.1
 | _ :: _,h,_, .tail _ hm=>bS h.2 _ hm
theorem gp:∀ (l:List BV),gq l l
 | []=>trivial
 | _ :: r=>⟨fun _ _ _ _ h=>h,gp r⟩
section
variable {S:Env} {st:St} {f:FuncId} {args args':List BV} {K:SV→St→Prop}
theorem vb {X:SV} (h:aA S f args (fun r=>r=X)) (hl:gu args) (hk:K X st):en S st f args (Sl.of K) :=
 .pure args _ h (gp _) (bS hl) hk
theorem JQ {X:SV} (h:DO S f args X) (hl:gu args) (hk:K X st):en S st f args (Sl.of K) := .ext args X h (gp _) (bS hl) hk
theorem uX {X:SV} (hk:K X st) (ha:args=args') (hl:gu args') (h:aA S f args' (fun r=>r=X)):en S st f args (Sl.of K) :=
 .pure args' _ h (ha ▸ gp _) (bS hl) hk
theorem MU {X:BV} {g:Bool} {c:Prop} {d:Option Nat} {K:St→Prop} (h:g=true→aA S f args (fun r=>r = .b X)) (hl:gu args) (hx:X.lt st.nx) (hc:g=true→c) (hk:K (st.set d (.grd g X))):Vf (some g) c S st f args d (Sl.of K) :=
 .inr ⟨X,hx,fun hg=>⟨hc hg, .pure args _ (h hg) (gp _) (bS hl) rfl⟩,hk⟩
theorem Rd {X:SV} (h:aA S f args' (fun r=>r=X)) (ha:gq args args') (hl:gu args') (hk:K X st):en S st f args (Sl.of K) :=
 .pure args' _ h ha (bS hl) hk
end
attribute [go_sem] List.getElem?_toArray Option.bind_some Option.map_some Option.map_none Option.getD_some Option.getD_none true_and and_true List.drop_succ_cons List.drop_zero List.drop_nil List.take_succ_cons List.take_zero List.take_nil List.getD_cons_zero List.getD_cons_succ List.getD_nil List.length_cons List.length_nil List.map_cons List.map_nil List.cons_append List.nil_append List.append_nil List.getElem?_cons_zero List.getElem?_cons_succ gu cond_true cond_false
def jB (nx:Nat):List CV→Prop
 | []=>True
 | x :: r=>CV.lt nx x∧jB nx r
theorem lz {nx:Nat}:∀ {l:List CV},jB nx l↔∀ c ∈ l,CV.lt nx c
 | []=>by simp [jB]
 | x :: r=>by simp [jB,lz (l:=r)]
def tG (nx:Nat):List BV→Prop
 | []=>True
 | x :: r=>BV.lt nx x∧tG nx r
theorem zC {nx:Nat}:∀ {l:List BV},tG nx l↔∀ c ∈ l,BV.lt nx c
 | []=>by simp [tG]
 | x :: r=>by simp [tG,zC (l:=r)]
section
variable {nx:Nat}
theorem VF {cs:List CV}:BV.lt nx (.agg cs)=jB nx cs:=propext lz.symm
theorem VT {l:List PV}:BV.lt nx (.agg (l.map CV.p))=True:=by simp [BV.lt,CV.lt]
theorem Rz {l:List PV}:jB nx (l.map CV.p)=True:=by rw [lz];simp [CV.lt]
theorem ZW {x:CV}:BV.lt nx (.c x)=CV.lt nx x:=rfl
theorem Yj {x:PV}:CV.lt nx (.p x)=True:=rfl
theorem Va {i o:Nat}:CV.lt nx (.ptr i o)=(i<nx):=rfl
theorem VE {i s o n:Nat}:CV.lt nx (.pel i s n o)=(i<nx):=rfl
theorem UE {i n:Nat}:CV.lt nx (.own i n)=(i<nx):=rfl
theorem Sq {s o:Nat} {g:Nat→PV}:CV.lt nx (.ipt s g o)=True:=rfl
theorem Tj:jB nx []=True:=rfl
theorem RX {x:CV} {r:List CV}:jB nx (x :: r)=(CV.lt nx x∧jB nx r):=rfl
theorem PL:tG nx []=True:=rfl
theorem JZ {x:BV} {r:List BV}:tG nx (x :: r)=(BV.lt nx x∧tG nx r):=rfl
theorem Wd {x:BV}:SV.lt nx (.b x)=BV.lt nx x:=rfl
theorem Rt {x:List BV}:SV.lt nx (.tup x)=tG nx x:=propext zC.symm
theorem On {x:BV} {p:Bool}:SV.lt nx (.grd p x)=BV.lt nx x:=rfl
theorem Ox:SV.lt nx .any=True:=rfl
theorem Oi {l:List CV}:Bx.lt nx (.fix l)=jB nx l:=propext lz.symm
theorem NF {e s n:Nat} {f:Nat→Nat→PV}:Bx.lt nx (.arr e s n f)=True:=rfl
end
attribute [go_sem] VF Rz ZW Yj Va VE UE Sq Tj RX PL JZ Wd Rt On Ox Oi NF
attribute [go_sem ↓] VT
attribute [go_sem ↓] YO
attribute [go_sem ↓ 1100] UI RO
attribute [go_sem] NA IY OG pH Aw Bp Sr Ye Pm VO
attribute [go_sem] RA QU Td Re QT
attribute [go_sem ↓] Wg VM Ks SZ UH BF NS Dx Rn HI Wx YC Ut Rq Eb Xp WM XI OE Xm PJ Bd OL VD Md TR Ui
attribute [go_sem] Xc We Wi XL IS RT Rj OM QN
attribute [go_sem] Ty MZ Ps HY JI VK dG jb HW IW Jm Hf Jh Ib If HS Hi SR UR VB Uk Ue UY ER BB MS zF Mo kD NK IZ Iw Ts Lh KA KZ Ea CR Ae Eo Fh ae HF FF eF EH BI Nv Ct MC Bt
attribute [go_sem] oT sV ef oL rm iO rA yB Kv Hr sU zk jL te Lu MY Ll rO Db? Bk PE qm lN Ah GN vg GZ je pa kZ tZ BV.cells BV.one CV.one CV.ofV CV.toP jV AP tp PC Mc Gu fK ep ml
end
section
open Go.RowKit (wrap64)
theorem fY {n:Int} (h1 : -9223372036854775808≤n) (h2:n≤9223372036854775807):IntKind.i64.wrap n=n:=IntWalk.i64_in n ⟨h1,h2⟩
theorem XT {n:Int} (h1:0≤n) (h2:n≤65535):IntKind.u16.wrap n=n:=IntWalk.u16_in n ⟨h1,h2⟩
theorem nW {n:Int} (h1:0≤n) (h2:n≤18446744073709551615):IntKind.u64.wrap n=n:=by
 simp only [IntKind.wrap,IntKind.bits,IntKind.signed];simp;omega
theorem Gj {n k:Int}:((n.tdiv k).natAbs)≤n.natAbs:=by rw [Int.natAbs_tdiv];exact Nat.div_le_self _ _
theorem Cf {n k:Int} (h1 : -9223372036854775808≤n) (h2:n≤9223372036854775807) (hk:2≤k):IntKind.i64.wrap (n.tdiv k)=n.tdiv k:=by
 have h := @Gj n k;refine fY (by omega) ?_;by_cases h0:n = -9223372036854775808
 ·subst h0;have:(-9223372036854775808:Int).tdiv k≤0:=by
   rw [Int.neg_tdiv];have:=Int.tdiv_nonneg (a:=9223372036854775808) (b:=k) (by omega) (by omega);omega
  omega
 ·omega
theorem vP (n:Int) : -9223372036854775808≤IntKind.i64.wrap n∧IntKind.i64.wrap n≤9223372036854775807:=by
 simp only [IntKind.wrap,IntKind.bits,IntKind.signed];simp;split <;> omega
theorem JJ {a b:Int} (h:0≤a):a.tdiv b=a / b:=Int.tdiv_eq_ediv_of_nonneg h
theorem XY {a b:Int} (h:0≤a):a.tmod b=a % b:=Int.tmod_eq_emod_of_nonneg h
def bK {α:Type} [Inhabited α] (enc:α→List PV) (xs:List α):Nat→Nat→PV:=fun i j=>(enc (xs.getD i default)).getD j .any
theorem PV.le_refl (x:PV):PV.le x x:=fun _ _ _ h=>h
theorem ed {sz:Nat} {f:Nat→Nat→PV}:PV.le (.val (.slice none 0 0)) (.lst sz 0 f):=fun _ _ u h=>by
 have:u = .slice none 0 0:=h;subst this;exact ⟨none,0,rfl,Nat.le_refl _,fun h=>absurd h (Nat.lt_irrefl 0)⟩
theorem gX {sz n:Nat} {f g:Nat→Nat→PV} (h:∀ i,i<n→∀ j,j<sz→f i j=g i j):PV.le (.lst sz n f) (.lst sz n g):=fun _ _ u hu=>by
 obtain ⟨a,c,e,hn,hb⟩:=hu;refine ⟨a,c,e,hn,fun h0 => ?_⟩;obtain ⟨b,o,ha,hok,hc⟩:=hb h0;refine ⟨b,o,ha,hok,fun i hi j hj => ?_⟩;rw [← h i hi j hj];exact hc i hi j hj
theorem PT {k:IntKind} {n:Int}:(Value.int k n).oneCell'=true:=rfl
theorem KR {b:Bool}:(Value.bool b).oneCell'=true:=rfl
theorem DW {s:ByteArray}:(Value.string s).oneCell'=true:=rfl
theorem HQ {o n:Nat}:(Value.slice none o n).oneCell'=true:=rfl
attribute [go_sem] PT KR DW HQ
theorem Kq {α:Type} [Inhabited α] {enc:α→List PV} {xs:List α} {i j:Nat}:bK enc xs i j=(enc (xs.getD i default)).getD j .any:=rfl
theorem IP:maxLen=9223372036854775807:=by decide
attribute [go_sem] IP
theorem OR {a b:Bool}:(bif a then b else false)=(a && b):=by cases a <;> rfl
theorem Us {a b:Bool}:(bif a then true else b)=(a || b):=by cases a <;> rfl
attribute [go_sem] OR Us
theorem cL {α : Type} [Inhabited α] {enc : α → List PV} {xs : List α} {x : α} {s : Nat} {g : Nat → Nat → PV} (hg : ∀ j, j < s → g 0 j = (enc x).getD j .any) :
  ∀ i,i<xs.length+1→∀ j,j<s→PV.le (gY xs.length (bK enc xs) g i j) (bK enc (xs ++ [x]) i j):=fun i hi j hj=>by
 have:gY xs.length (bK enc xs) g i j=bK enc (xs ++ [x]) i j:=by
  unfold gY bK;split
  ·rename_i h;simp only [List.getD_eq_getElem?_getD,List.getElem?_append_left h]
  ·rename_i h;have:i=xs.length:=by omega
   subst this;rw [Nat.sub_self,hg j hj];simp
 rw [this];exact PV.le_refl _
attribute [go_sem] Kq
end
section
def WY (s1:St):AExit→St→Prop
 | .normal,s=>s=s1
 | _,_=>False
theorem aG {s:St}:WY s .normal s:=rfl
def St.ite (t:Bool) (s1 s2:St):St :=
 { fr:=fun k=>if t=true then s1.fr k else s2.fr k,bx:=fun i=>if t=true then s1.bx i else s2.bx i,nx:=if t=true then s1.nx else s2.nx,kf:=fun k=>if t=true then s1.kf k else s2.kf k }
def tU:Code→Bool
 | .skip=>true
 | .region .. => true
 | .seq x y=>tU x && tU y
 | .cond _ x y=>tU x && tU y
 | .label _=>true
 | _=>false
section
variable {S:Env} {st:St} {Q:AExit→St→Prop}
theorem bn {c : Operand} {x y z : Code} {t : Bool} {s1 s2 : St} (hf : (tU x && tU y) = true) (hc : st.ev S c = .t t) (h1 : t = true → cw S x (WY s1) st) (h2 : t = false → cw S y (WY s2) st)
  (h:cw S z Q (St.ite t s1 s2)):cw S (.seq (.cond c x y) z) Q st:=by
 refine wB (mW hc (fun ht => ?_) fun ht => ?_)
 ·subst ht;refine ec x (fun e s hs => ?_) (h1 rfl);cases e with
  | normal=>have:s=s1:=hs;subst this;exact h
  | _=>exact hs.elim
 ·subst ht;refine ec y (fun e s hs => ?_) (h2 rfl);cases e with
  | normal=>have:s=s2:=hs;subst this;exact h
  | _=>exact hs.elim
theorem ba {c : Operand} {x y : Code} {t : Bool} {s1 s2 : St} (hf : (tU x && tU y) = true) (hc : st.ev S c = .t t) (h1 : t = true → cw S x (WY s1) st) (h2 : t = false → cw S y (WY s2) st)
  (h:Q .normal (St.ite t s1 s2)):cw S (.cond c x y) Q st:=by
 refine mW hc (fun ht => ?_) fun ht => ?_
 ·subst ht;refine ec x (fun e s hs => ?_) (h1 rfl);cases e with
  | normal=>have:s=s1:=hs;subst this;exact h
  | _=>exact hs.elim
 ·subst ht;refine ec y (fun e s hs => ?_) (h2 rfl);cases e with
  | normal=>have:s=s2:=hs;subst this;exact h
  | _=>exact hs.elim
variable {t:Bool} {s1 s2:St}
theorem Uh {k:Nat}:(St.ite t s1 s2).fr k=if t=true then s1.fr k else s2.fr k:=rfl
theorem VJ {k:Nat}:(St.ite t s1 s2).bx k=if t=true then s1.bx k else s2.bx k:=rfl
theorem Tn:(St.ite t s1 s2).nx=if t=true then s1.nx else s2.nx:=rfl
variable {p:Prop} [Decidable p]
theorem Tx {x y:BV}:(if p then SV.b x else SV.b y)=SV.b (if p then x else y):=by grind
theorem WL {x y:CV}:(if p then BV.c x else BV.c y)=BV.c (if p then x else y):=by grind
theorem JC {x y:CV} {l r:List CV}:(if p then x :: l else y :: r)=(if p then x else y) :: (if p then l else r):=by grind
theorem XN {x y:PV}:(if p then CV.p x else CV.p y)=CV.p (if p then x else y):=by grind
theorem Pi {x y:Value}:(if p then PV.val x else PV.val y)=PV.val (if p then x else y):=by grind
theorem Ql {k:IntKind} {x y:Int}:(if p then Value.int k x else Value.int k y)=Value.int k (if p then x else y):=by grind
theorem Nm {x y:Bool}:(if p then Value.bool x else Value.bool y)=Value.bool (if p then x else y):=by grind
theorem LR {x y:Bx}:(if p then some x else some y)=some (if p then x else y):=by grind
theorem PS {x y:List CV}:(if p then Bx.fix x else Bx.fix y)=Bx.fix (if p then x else y):=by grind
theorem QX {e s n m:Nat} {f g:Nat→Nat→PV}:(if p then Bx.arr e s n f else Bx.arr e s m g)=Bx.arr e s (if p then n else m) (if p then f else g):=by grind
theorem Jz {α:Type} {x:α}:(if p then x else x)=x:=by grind
end
theorem ZU {p:Prop} [Decidable p] {a b:Bool}:((if p then a else b)=true)=((p→a=true)∧(¬p→b=true)):=by grind
theorem Zn {p:Prop} [Decidable p] {a b:Bool}:((if p then a else b)=false)=((p→a=false)∧(¬p→b=false)):=by grind
theorem ak {X:Type} {F:X→St} {I:X→Prop} {m:X→Nat} {k:Nat} {st:St} (x':X) (hle:Le st (F x')) (hI:I x') (hm:m x'<k):Wk (fun s=>∃ x',s=F x'∧I x'∧m x'<k) st :=
 ⟨F x',hle,x',rfl,hI,hm⟩
theorem gF {S:Env} {st:St} {f:FuncId} {args args':List BV} {K:SV→St→Prop} {X:SV} (hk:K X st) (ha:gq (args.map (ep st.bx)) args') (hl:gu args') (hf:X.flat) (h:aA S f args' (fun r=>r=X)) (hp:S.rcv (f+1000000)=false:=by rfl):en S st f args (Sl.of K) :=
 .lend args' _ h ha (bS hl) hf hk hp
theorem fN:gq [] []=True:=rfl
theorem fA {x y:BV} {r s:List BV}:gq (x :: r) (y :: s)=(BV.le x y∧gq r s):=rfl
theorem mD {x:BV}:BV.le x x:=fun _ _ _ _ h=>h
theorem oG {x y:PV} (h:PV.le x y):BV.le (.c (.p x)) (.c (.p y)):=fun _ ok w u hu=>h ok w u hu
theorem Mj {S:Env} {st:St} {Q:AExit→St→Prop} {id:Nat} {l:List Oper} {y:Code} (h:∀ K:St→Prop,(∀ s,cw S y Q s→K s)→(∀ s s',Le s s'→cw S y Q s'→K s)→aY S l.toArray l st K):cw S (.seq (.region id l.toArray false) y) Q st:=by grind [ec,iL,Wk,cw,th]
def VP (x y:BV):Prop:=BV.lt 0 y∧∀ ok w u,cq ck ok w x u→cq ck ok w y u
def YT (x y:SV):Prop:=SV.lt 0 y∧∀ ok w u,bz ck ok w x u→bz ck ok w y u
def NQ:List BV→List BV→Prop
 | [],[]=>True
 | x :: l,y :: r=>VP x y∧NQ l r
 | _,_=>False
theorem dY {S:Env} {f:FuncId} {args:List BV} {X:SV} (h:aA S f args fun r=>YT r X):aA S f args fun r=>r=X :=
 ⟨h.1,fun ok w vs h1 h2 h3 h4=>(h.2 ok w vs h1 h2 h3 h4).mono fun _ _ ⟨v,r,he,hR,_,hb,hd⟩=>⟨v,X,he,rfl,hR.1,hb,hR.2 _ _ _ hd⟩⟩
theorem Gv {x y:BV} (h:VP x y):YT (.b x) (.b y):=h
theorem cX {x:BV} (h:BV.lt 0 x):VP x x:=⟨h,fun _ _ _ h=>h⟩
theorem oR {x y:PV} (h:PV.le x y):VP (.c (.p x)) (.c (.p y)):=⟨trivial,fun ok w u hu=>h ok w u hu⟩
theorem vr {ok:Nat→Prop} {w:World}:∀ {l r:List BV},NQ l r→l.length=r.length∧∀ {u:Nat→Value},(∀ j,cq ck ok w (l.getD j .any) (u j))→∀ j,cq ck ok w (r.getD j .any) (u j)
 | [],[],_=>⟨rfl,fun h=>h⟩
 | x :: l,y :: r,⟨h1,h2⟩=>by
  obtain ⟨q1,q2⟩:=vr (ok:=ok) (w:=w) h2;refine ⟨by simp [q1],fun {u} hu j => ?_⟩;cases j with
  | zero=>exact h1.2 ok w _ (hu 0)
  | succ j=>exact q2 (u:=fun k=>u (k+1)) (fun k=>hu (k+1)) j
theorem Ge:∀ {l r:List BV},NQ l r→∀ v ∈ r,BV.lt 0 v
 | [],[],_,v,hv=>by cases hv
 | x :: l,y :: r,h,v,hv=>by
  rcases List.mem_cons.1 hv with e|e
  ·rw [e];exact h.1.1
  ·exact Ge h.2 v e
theorem dq {l r:List BV} (h:NQ l r):YT (.tup l) (.tup r) :=
 ⟨Ge h,fun ok w u ⟨us,hu,hs,hd⟩=>⟨us,hu,by rw [hs,(vr (ok:=ok) (w:=w) h).1],(vr h).2 hd⟩⟩
def Ia:List CV→List CV→Prop
 | [],[]=>True
 | .p x :: l, .p y :: r=>(x=y∨PV.le x y)∧Ia l r
 | _,_=>False
theorem fx:Ia [] []=True:=rfl
theorem dF {x y:PV} {l r:List CV}:Ia (.p x :: l) (.p y :: r)=((x=y∨PV.le x y)∧Ia l r):=rfl
theorem xr {ok:Nat→Prop} {w:World}:∀ {l r:List CV},Ia l r→l.length=r.length∧(∀ c ∈ r,CV.lt 0 c)∧∀ {u:Nat→Value},(∀ j,cC ck ok w (l.getD j .any) (u j))→∀ j,cC ck ok w (r.getD j .any) (u j)
 | [],[],_=>⟨rfl,by simp,fun h=>h⟩
 | .p x :: l, .p y :: r,h=>by
  rw [dF] at h;obtain ⟨h1,h2⟩:=h;obtain ⟨q1,q0,q2⟩:=xr (ok:=ok) (w:=w) h2;refine ⟨by simp [q1],fun c hc => ?_,fun {u} hu j => ?_⟩
  ·grind [CV.lt]
  ·cases j with
   | zero =>
    rcases h1 with e|e
    ·grind
    ·exact e _ _ _ (hu 0)
   | succ j=>exact q2 (u:=fun k=>u (k+1)) (fun k=>hu (k+1)) j
theorem gj {l r:List CV} (h:Ia l r):VP (.agg l) (.agg r):=by
 refine ⟨(xr (ok:=fun _=>True) (w:=default) h).2.1,fun ok w u ⟨us,hu,hs,h1,hd⟩ => ?_⟩;obtain ⟨q1,_,q2⟩:=xr (ok:=ok) (w:=w) h;exact ⟨us,hu,by rw [hs,q1],h1,q2 hd⟩
theorem EV {k:IntKind} {a b:Int} (h:a=b):SV.b (.c (.p (.val (.int k a))))=SV.b (.c (.p (.val (.int k b)))):=by rw [h]
def aT (l:List (Nat × SV)) (b:List (Nat × Bx)) (nx:Nat):St:=⟨lW l,js b,nx,fun _ => .any⟩
theorem QI {l:List (Nat × SV)} {b:List (Nat × Bx)} {nx s:Nat}:(aT l b nx).fr s=lW l s:=rfl
theorem Oe {l:List (Nat × SV)} {b:List (Nat × Bx)} {nx s:Nat}:(aT l b nx).bx s=js b s:=rfl
theorem RK {l:List (Nat × SV)} {b:List (Nat × Bx)} {nx:Nat}:(aT l b nx).nx=nx:=rfl
def xY:List (Nat × Option Nat)→Nat→Option Nat
 | [],_=>some 0
 | (k,v) :: r,i=>if i=k then v else xY r i
theorem Rp {i:Nat}:xY [] i=some 0:=rfl
theorem dU {k i:Nat} {v:Option Nat} {r:List (Nat × Option Nat)}:xY ((k,v) :: r) i=if i=k then v else xY r i:=rfl
def ou (r:Nat→Option Nat) (st:St) (bx':Nat→Option Bx) (nx:Nat):List (Nat × SV)→Prop
 | []=>True
 | (k,v) :: l=>(Br r st.bx bx' (st.fr k) v∧v.lt nx)∧ou r st bx' nx l
def Cl (r:Nat→Option Nat) (st:St) (bx':Nat→Option Bx) (nx:Nat):List (Nat × Bx)→Prop
 | []=>True
 | (i,x) :: l=>(gh r st.bx bx' i x∧i<nx∧x.lt nx)∧Cl r st bx' nx l
theorem kW {s:Nat}:∀ {l:List (Nat × SV)},lW l s = .any∨(s,lW l s) ∈ l
 | [] => .inl rfl
 | (k,v) :: l=>by
  rw [zF];split
  ·grind
  ·rcases kW (s:=s) (l:=l) with h|h
   ·grind
   grind
theorem jI {s:Nat} {x:Bx}:∀ {l:List (Nat × Bx)},js l s=some x→(s,x) ∈ l
 | [],h=>by cases h
 | (k,v) :: l,h=>by
  rw [kD] at h;split at h
  ·grind
  ·exact List.mem_cons_of_mem _ (jI h)
theorem ln {r:Nat→Option Nat} {st:St} {bx':Nat→Option Bx} {nx:Nat}:∀ {l:List (Nat × SV)},ou r st bx' nx l→∀ {k v},(k,v) ∈ l→Br r st.bx bx' (st.fr k) v∧v.lt nx
 | (_,_) :: _,h,_,_, .head _=>h.1
 | (_,_) :: _,h,_,_, .tail _ hm=>ln h.2 hm
theorem rV {r:Nat→Option Nat} {st:St} {bx':Nat→Option Bx} {nx:Nat}:∀ {l:List (Nat × Bx)},Cl r st bx' nx l→∀ {k v},(k,v) ∈ l→gh r st.bx bx' k v∧k<nx∧v.lt nx
 | (_,_) :: _,h,_,_, .head _=>h.1
 | (_,_) :: _,h,_,_, .tail _ hm=>rV h.2 hm
def HT (r:Nat→Option Nat):List Nat→Bool
 | []=>true
 | i :: l=>(l.all fun j=>i == j || r i == none || r i != r j) && HT r l
theorem tj {r:Nat→Option Nat}:∀ {l:List Nat},HT r l=true→∀ i j k,i ∈ l→j ∈ l→r i=some k→r j=some k→i=j
 | a :: l,h,i,j,k,hi,hj,h1,h2=>by
  simp only [HT,Bool.and_eq_true,List.all_eq_true,Bool.or_eq_true,beq_iff_eq,bne_iff_ne] at h;obtain ⟨ha,hl⟩:=h;rcases List.mem_cons.1 hi with e1|e1 <;> rcases List.mem_cons.1 hj with e2|e2
  ·rw [e1,e2]
  ·grind
  ·grind
  ·exact tj hl i j k e1 e2 h1 h2
theorem Xu {st : St} {l : List (Nat × SV)} {b : List (Nat × Bx)} {nx : Nat} (r : List (Nat × Option Nat)) (h0 : xY r 0 = some 0) (hnx : 0 < nx) (hinj : HT (xY r) (b.map (·.1)) = true)
  (hfr:ou (xY r) st (js b) nx l) (hb:Cl (xY r) st (js b) nx b):Le st (aT l b nx):=by
 have key:∀ i,js b i≠none→i ∈ b.map (·.1):=fun i hi=>by
  cases hx:js b i with
  | none=>grind
  | some x=>exact List.mem_map.2 ⟨_,jI hx,rfl⟩
 refine ⟨⟨xY r,h0,fun _=>hnx,fun i j k hi hj h1 h2=>tj hinj i j k (key i hi) (key j hj) h1 h2,fun s => ?_,fun i x hx=>(rV hb (jI hx)).1,fun s=>by show Br _ _ _ _ .any;grind [Br]⟩,fun s => ?_,fun i x hx=>(rV hb (jI hx)).2,fun _=>trivial⟩
 ·show Br _ _ _ _ (lW l s);rcases kW (s:=s) (l:=l) with h|h
  ·grind [Br]
  ·exact (ln hfr h).1
 ·show SV.lt nx (lW l s);rcases kW (s:=s) (l:=l) with h|h
  ·rw [h];trivial
  ·exact (ln hfr h).2
section
variable {r:Nat→Option Nat} {bx bx':Nat→Option Bx} {st:St} {nx:Nat}
theorem MI:ou r st bx' nx []=True:=rfl
theorem Hh {k:Nat} {v:SV} {l:List (Nat × SV)}:ou r st bx' nx ((k,v) :: l)=((Br r st.bx bx' (st.fr k) v∧v.lt nx)∧ou r st bx' nx l):=rfl
theorem Ki:Cl r st bx' nx []=True:=rfl
theorem Iu {k:Nat} {v:Bx} {l:List (Nat × Bx)}:Cl r st bx' nx ((k,v) :: l)=((gh r st.bx bx' k v∧k<nx∧v.lt nx)∧Cl r st bx' nx l):=rfl
theorem Sj {x y:BV}:Br r bx bx' (.b x) (.b y)=TC r bx bx' x y:=rfl
theorem vi {x:SV}:Br r bx bx' x .any=True:=by cases x <;> rfl
theorem RZ {x y:CV}:TC r bx bx' (.c x) (.c y)=Bq r bx bx' x y:=by
 cases y with
 | p y=>cases y with
  | any=>cases x <;> rfl
  | _=>rfl
 | _=>rfl
theorem QQ {x y:List CV}:TC r bx bx' (.agg x) (.agg y)=GI r bx bx' x y:=rfl
theorem Qr:GI r bx bx' [] []=True:=rfl
theorem Mu {x y:CV} {l l':List CV}:GI r bx bx' (x :: l) (y :: l')=(Bq r bx bx' x y∧GI r bx bx' l l'):=rfl
theorem Pn {x:CV}:Bq r bx bx' x (.p .any)=True:=by cases x <;> rfl
theorem OD {x:PV} {v:Value}:Bq r bx bx' (.p x) (.p (.val v))=(x = .val v∨PV.le x (.val v)):=rfl
theorem PR {x:PV} {sz n:Nat} {f:Nat→Nat→PV}:Bq r bx bx' (.p x) (.p (.lst sz n f))=(x = .lst sz n f∨PV.le x (.lst sz n f)):=rfl
theorem RM {x:PV} {i n:Nat}:Bq r bx bx' (.p x) (.own i n)=(x = .val (.slice none 0 0)∧n=0∧r i=none):=rfl
theorem Pp {i o i' o':Nat}:Bq r bx bx' (.ptr i o) (.ptr i' o')=(r i'=some i∧o=o'):=rfl
theorem NG {i s k o i' s' k' o':Nat}:Bq r bx bx' (.pel i s k o) (.pel i' s' k' o')=(r i'=some i∧s=s'∧k=k'∧o=o'):=rfl
theorem RL {i n i' n':Nat}:Bq r bx bx' (.own i n) (.own i' n')=(r i'=some i∧n=n'):=rfl
def BA (r:Nat→Option Nat) (id:Nat):List (Nat × Bx)→Prop
 | []=>True
 | (i,_) :: l=>r i≠some id∧BA r id l
theorem JM {id:Nat}:BA r id []=True:=rfl
theorem HV {id i:Nat} {x:Bx} {l:List (Nat × Bx)}:BA r id ((i,x) :: l)=(r i≠some id∧BA r id l):=rfl
theorem yN {id:Nat}:∀ {b:List (Nat × Bx)},BA r id b→∀ id',js b id'≠none→r id'≠some id
 | [],_,id',h=>(h rfl).elim
 | (i,x) :: l,h,id',hb=>by
  rw [kD] at hb;by_cases e:id'=i
  ·subst e;exact h.1
  ·rw [if_neg e] at hb;exact yN h.2 id' hb
theorem yq {id:Nat}:∀ {b:List (Nat × Bx)},(∀ id',js b id'≠none→r id'≠some id)→BA r id b
 | [],_=>trivial
 | (i,x) :: l,h=>by
  refine ⟨h i (by grind [js,kD]),yq fun id' hb => ?_⟩;grind [js,kD]
def TA (y:Option Bx) (n sz n':Nat) (f':Nat→Nat→PV) (p:Prop):Prop:=match y with
 | some (.arr _ s m f)=>s=sz∧n=n'∧n≤m∧(∀ i,i<n→∀ j,j<sz→PV.le (f i j) (f' i j))∧p
 | _=>False
theorem KI {i n sz n':Nat} {f':Nat→Nat→PV} {b:List (Nat × Bx)}:Bq r bx (js b) (.own i n) (.p (.lst sz n' f'))=TA (bx i) n sz n' f' (BA r i b):=by
 apply propext;unfold TA;constructor
 ·rintro ⟨e,m,f,h1,h2,h3,h4,h5⟩;grind [BA,yq]
 ·intro h;split at h
  ·rename_i hb;obtain ⟨rfl,h2,h3,h4,h5⟩:=h;exact ⟨_,_,_,hb,h2,h3,h4,yN h5⟩
  grind
theorem Iv {e s m n sz n':Nat} {f f':Nat→Nat→PV} {p:Prop}:TA (some (.arr e s m f)) n sz n' f' p=(s=sz∧n=n'∧n≤m∧(∀ i,i<n→∀ j,j<sz→PV.le (f i j) (f' i j))∧p):=rfl
theorem Oq {s o s' o':Nat} {g g':Nat→PV}:Bq r bx bx' (.ipt s g o) (.ipt s' g' o')=(s=s'∧o=o'∧(g=g'∨∀ j,j<s→PV.le (g j) (g' j))):=rfl
theorem Ow {l l':List CV}:Si r bx bx' (.fix l) (.fix l')=GI r bx bx' l l':=rfl
theorem OV {e s n e' s' n':Nat} {f f':Nat→Nat→PV}:Si r bx bx' (.arr e s n f) (.arr e' s' n' f')=(e=e'∧s=s'∧n=n'∧(f=f'∨∀ i,i<n→∀ j,j<s→PV.le (f i j) (f' i j))):=rfl
def OI (bx bx':Nat→Option Bx) (r:Nat→Option Nat) (y:Option Bx) (x:Bx):Prop:=match y with
 | some y=>Si r bx bx' y x
 | none=>False
def Pb (r:Nat→Option Nat) (bx bx':Nat→Option Bx) (k:Option Nat) (x:Bx):Prop:=match k with
 | some k=>OI bx bx' r (bx k) x
 | none=>match x with
  | .arr _ s n _=>n=0∧0<s
  | _=>False
theorem Kg {i:Nat} {x:Bx}:gh r bx bx' i x=Pb r bx bx' (r i) x:=by
 unfold gh Pb;cases r i with
 | some k =>
  simp only [OI];grind
 | none =>
  grind
theorem Ic {k:Nat} {x:Bx}:Pb r bx bx' (some k) x=OI bx bx' r (bx k) x:=rfl
theorem Hm {e s n:Nat} {f:Nat→Nat→PV}:Pb r bx bx' none (.arr e s n f)=(n=0∧0<s):=rfl
theorem Ir {y x:Bx}:OI bx bx' r (some y) x=Si r bx bx' y x:=rfl
end
theorem Jn {nx:Nat}:(∀ x:BV,x ∈ ([]:List BV)→BV.lt nx x)=True:=by simp
theorem Fp {nx:Nat} {a:BV} {l:List BV}:(∀ x:BV,x ∈ a :: l→BV.lt nx x)=(BV.lt nx a∧∀ x:BV,x ∈ l→BV.lt nx x):=by simp
attribute [go_sem] Jn Fp
attribute [go_sem] Uh VJ Tn Tx WL JC XN Pi Ql Nm LR PS QX
attribute [go_sem ↓] Jz
attribute [go_sem] QI Oe RK Rp dU MI Hh Ki Iu Sj vi RZ QQ Qr Mu Pn OD PR RM Pp NG RL KI Iv JM HV Oq Ow OV Kg Ic Hm Ir
end
section
section
variable {S:Env} {ops:Array Oper} {rest:List Oper} {st:St} {K:St→Prop} {d:Option Nat} {ty:TypeId} {pos:String} {af:Array Edge} {j:Nat} {want g:Bool} {op:Go.Op}
theorem IB {nx : Nat} {K1 : SV → Prop} {y : Option (Prop × SV)} (x : BV) (hy : y = none) (hro : ro S st.bx (st.ev S) op = none) (hx : x.lt st.nx) (hg : jV st ((ops[j]?).bind (·.dst)) want = some g)
  (h1:g=true→aY S ops (⟨d,op,ty,pos,af,none⟩ :: rest) st K) (h2:g=false→aY S ops rest (st.set d (.grd g x)) K) :
  rg (some g) nx y (Sl.of K1) (Sl.of (aY S ops (⟨d,op,ty,pos,af,some (j,want)⟩ :: rest) st K)):=by
 have key:aY S ops (⟨d,op,ty,pos,af,some (j,want)⟩ :: rest) st K:=by
  simp only [aY,eX,hg,hro];cases g with
  | true=>exact .inl ⟨fun _=>by have:=h1 rfl;simpa only [aY,eX,jM,hro] using this,fun h=>by cases h⟩
  | false=>exact .inr ⟨x,hx,(fun h=>by cases h),h2 rfl⟩
 subst hy;exact key
variable {f:FuncId} {args args':List BV} {c:Prop} {X:BV}
theorem Ek (hg:g=true) (hc:c) (h:aA S f args' (fun r=>r = .b X)) (ha:gq (args.map (ep st.bx)) args') (hl:gu args') (hf:X.flat) (hk:K (st.set d (.b X))) (hp:S.rcv (f+1000000)=false:=by rfl):Vf (some g) c S st f args d (Sl.of K) :=
 .inl ⟨fun _=>⟨hc, .lend args' _ h ha (bS hl) hf hk hp⟩,fun h=>by rw [hg] at h;cases h⟩
theorem IA (X:BV) (hg:g=false) (hx:X.lt st.nx) (hk:K (st.set d (.grd g X))):Vf (some g) c S st f args d (Sl.of K) :=
 .inr ⟨X,hx,(fun h=>by rw [hg] at h;cases h),hk⟩
end
theorem St.ite_t {s1 s2:St}:St.ite true s1 s2=s1:=rfl
theorem St.ite_f {s1 s2:St}:St.ite false s1 s2=s2:=rfl
section
variable {S:Env} {st:St} {f:FuncId} {K:SV→St→Prop} {Q:AExit→St→Prop}
theorem bt {P:St→Prop} {c:Code} (h:∀ s,cw S c Q s→P s) (h2:cw S c Q st):P st:=h _ h2
theorem bN {id:Nat} {l:List Oper} {y:Code} (h:∀ K:St→Prop,(∀ s s',Le s s'→cw S y Q s'→K s)→aY S l.toArray l st K):cw S (.seq (.region id l.toArray false) y) Q st :=
 Mj fun K _ hW=>h K hW
theorem gw {c:Operand} {x y z:Code} {t:Bool} (hc:st.ev S c = .t t) (ht:t=true) (h:cw S (.seq x z) Q st):cw S (.seq (.cond c x y) z) Q st:=zh hc (fun _=>h) (fun h=>by rw [ht] at h;cases h)
theorem oc {c:Operand} {x y z:Code} {t:Bool} (hc:st.ev S c = .t t) (ht:t=false) (h:cw S (.seq y z) Q st):cw S (.seq (.cond c x y) z) Q st:=zh hc (fun h=>by rw [ht] at h;cases h) (fun _=>h)
theorem nY {c:Operand} {x y:Code} {t:Bool} (hc:st.ev S c = .t t) (ht:t=true) (h:cw S x Q st):cw S (.cond c x y) Q st:=mW hc (fun _=>h) (fun h=>by rw [ht] at h;cases h)
theorem oB {c:Operand} {x y:Code} {t:Bool} (hc:st.ev S c = .t t) (ht:t=false) (h:cw S y Q st):cw S (.cond c x y) Q st:=mW hc (fun h=>by rw [ht] at h;cases h) (fun _=>h)
end
def ya (k:IntKind) (a b:Int):Int:=k.wrap (BitVec.ofInt k.bits a &&& BitVec.ofInt k.bits b).toNat
def Me (k:IntKind) (a b:Int):Int:=k.wrap (BitVec.ofInt k.bits a ||| BitVec.ofInt k.bits b).toNat
def Yx (k:IntKind) (a b:Int):Int:=k.wrap (BitVec.ofInt k.bits a ^^^ BitVec.ofInt k.bits b).toNat
theorem RU {k:IntKind} {a b:Int}:k.wrap (BitVec.ofInt k.bits a &&& BitVec.ofInt k.bits b).toNat=ya k a b:=rfl
theorem To {k:IntKind} {a b:Int}:k.wrap (BitVec.ofInt k.bits a ||| BitVec.ofInt k.bits b).toNat=Me k a b:=rfl
theorem Qh {k:IntKind} {a b:Int}:k.wrap (BitVec.ofInt k.bits a ^^^ BitVec.ofInt k.bits b).toNat=Yx k a b:=rfl
attribute [go_sem ↓] RU To Qh
theorem Pk {p:Prop} [Decidable p] {f g:Nat→Nat→PV} {i j:Nat}:(if p then f else g) i j=if p then f i j else g i j:=by split <;> rfl
attribute [go_sem] Pk
end
section
def DV (c:Nat):SV→Prop
 | .b (.c (.ptr id _))=>c=1∨c=4+id
 | .b (.c (.pel _ _ _ _))=>c=2
 | .b (.c (.ipt _ _ _))=>c=3
 | _=>False
def gN:List (Nat × Nat)→St→Prop
 | [],_=>True
 | (t,c) :: r,s=>DV c (s.fr t)∧gN r s
def wL:List (Nat × Nat)→Nat
 | []=>0
 | (_,c) :: r=>max (c - 3) (wL r)
def qH:List (Nat × Nat)→Nat→Nat
 | [],_=>0
 | (t,c) :: r,s=>if s=t then c else qH r s
theorem Sf {t:Nat}:∀ {l:List (Nat × Nat)},qH l t - 3≤wL l
 | []=>Nat.zero_le _
 | (k,c) :: r=>by
  unfold qH wL;split
  ·omega
  ·have:=Sf (t:=t) (l:=r);omega
theorem nk {s:St} {t:Nat}:∀ {l:List (Nat × Nat)},gN l s→qH l t≠0→DV (qH l t) (s.fr t)
 | [],_,h=>absurd rfl h
 | (k,c) :: r,h,hn=>by
  unfold qH at hn ⊢;split
  ·grind [gN,qH,DV]
  ·rename_i e;rw [if_neg e] at hn;exact nk h.2 hn
section
variable {S:Env} {ops:Array Oper} {st s1 s2 s':St}
theorem FQ {o:Oper} {t:Nat} (h:Ex S ops st o s') (hd:o.dst≠some t):s'.fr t=st.fr t:=by grind [eB,cP]
theorem zQ {t:Nat}:∀ {l:List Oper} {st s':St},Ga S ops l st s'→(∀ o ∈ l,o.dst≠some t)→s'.fr t=st.fr t
 | [],_,_,h,_=>by rw [show _=_ from h]
 | o :: r,st,s',⟨s,h1,h2⟩,hd=>(zQ h2 fun x hx=>hd x (List.mem_cons_of_mem _ hx)).trans (FQ h1 (hd o (List.mem_cons_self ..)))
theorem uK {x y : Oper} {d p q : Nat} {t t' : TypeId} {vop : Operand} (hx : x.op = .load t (.tmp q)) (hxd : x.dst = some d) (hxg : x.guard = none)
  (hy:y.op = .store t' (.tmp p) vop) (hyd:y.dst=none) (hyg:y.guard=none) (hdp:d≠p) (hdv:vop ≠ .tmp d) {c c':Nat} (hp:DV c (st.fr p)) (hq:DV c' (st.fr q)) (hc:c=2∧(c'=1∨c'=3))
  (h1:Ex S ops st x s1) (h2:Ex S ops s1 y s2):∃ s3,Ex S ops st y s3∧Ex S ops s3 x s2:=by
 obtain ⟨rfl,hc⟩:=hc;obtain ⟨idp,szp,ip,offp,hpv⟩:∃ id sz i off,st.fr p = .b (.c (.pel id sz i off)):=by
  unfold DV at hp;grind
 have e1:s1=st.set (some d) (s1.fr d)∧s1.bx=st.bx∧s1.nx=st.nx:=by
  obtain ⟨v,b,n,rfl,hb,_⟩:=eB h1;have:mY S.rcv x≤1:=by simp [mY,eE,hx]
  obtain ⟨rfl,rfl⟩:=hb this;rw [hxd];refine ⟨?_,dG,jb⟩;simp [St.set]
 have hev:∀ z:Operand,z ≠ .tmp d→s1.ev S z=st.ev S z:=fun z hz=>by
  rw [e1.1];cases z with
  | tmp k=>grind [St.ev,St.set]
  | _=>rfl
 have hvp:s1.ev S (.tmp p)=st.ev S (.tmp p):=hev _ (fun e=>hdp (by grind));have hvv:=hev vop hdv;have hro:∀ b ev,ro S b ev (.store t' (.tmp p) vop)=none:=fun _ _=>rfl;unfold Ex eX at h2;rw [hyg] at h2;simp only [jM,hy,hro,hyd] at h2;obtain ⟨hcond,h2⟩:=h2;simp only [Op.operands] at hcond;have hev1:(st.ev S (.tmp p)).strip = .b (.c (.pel idp szp ip offp)):=by simp [St.ev,hpv,SV.strip]
 simp only [dX,hvp,hvv,hev1,e1.2.1] at h2;split at h2
 ·grind
 ·rename_i id s i off v sz ag q1 q2 q3;cases q1;split at h2
  ·rename_i e s' n f hb;obtain ⟨hvc,h2⟩:=h2;refine ⟨st.setBox idp (.arr e s' n fun i' j=>if i'=ip then (if offp≤j∧j<offp+sz then (v.cells.getD (j - offp) .any).toP else f ip j) else f i' j), ?_, ?_⟩
   ·unfold Ex eX;rw [hyg];simp only [jM,hy,hro,hyd];refine ⟨?_, ?_⟩
    ·grind [Op.operands]
    ·simp only [dX,hev1,q2,q3,hb];exact ⟨hvc,rfl⟩
   ·subst h2;unfold Ex eX at h1 ⊢;rw [hxg] at h1 ⊢;simp only [jM,hx,pH] at h1 ⊢;have hload:∀ r,rc (ef S t st.bx (st.ev S (.tmp q)).strip) (st.ev S (.tmp q)).cond=some r→rc (ef S t (st.setBox idp (.arr e s' n fun i' j=>if i'=ip then (if offp≤j∧j<offp+sz then (v.cells.getD (j - offp) .any).toP else f ip j) else f i' j)).bx (st.ev S (.tmp q)).strip) (st.ev S (.tmp q)).cond=some r:=fun r hr=>by
     unfold DV at hq;grind [rc,ef,St.setBox,SV.strip,St.ev,SV.cond]
    cases hr:rc (ef S t st.bx (st.ev S (.tmp q)).strip) (st.ev S (.tmp q)).cond with
    | none=>grind [dX]
    | some r =>
     rw [hr] at h1;have:=hload r hr;rw [show (St.ev S (st.setBox idp (.arr e s' n fun i' j=>if i'=ip then (if offp≤j∧j<offp+sz then (v.cells.getD (j - offp) .any).toP else f ip j) else f i' j)) (.tmp q))=st.ev S (.tmp q) from rfl,this];refine ⟨h1.1, ?_⟩;rw [← h1.2,hxd];rfl
  grind
 grind
theorem sS {x y : Oper} {d p q : Nat} {t t' : TypeId} {vop : Operand} (hx : x.op = .load t (.tmp q)) (hxd : x.dst = some d) (hxg : x.guard = none)
  (hy:y.op = .store t' (.tmp p) vop) (hyd:y.dst=none) (hyg:y.guard=none) (hdp:d≠p) (hdv:vop ≠ .tmp d) {c c':Nat} (hp:DV c (st.fr p)) (hq:DV c' (st.fr q)) (hc:4≤c∧4≤c'∧c≠c')
  (h1:Ex S ops st x s1) (h2:Ex S ops s1 y s2):∃ s3,Ex S ops st y s3∧Ex S ops s3 x s2:=by
 obtain ⟨hc1,hc2,hc3⟩:=hc;obtain ⟨idp,offp,hpv,rfl⟩:∃ id off,st.fr p = .b (.c (.ptr id off))∧c=4+id:=by
  unfold DV at hp;grind
 obtain ⟨idq,offq,hqv,rfl⟩:∃ id off,st.fr q = .b (.c (.ptr id off))∧c'=4+id:=by
  unfold DV at hq;grind
 have e1:s1=st.set (some d) (s1.fr d)∧s1.bx=st.bx∧s1.nx=st.nx:=by
  obtain ⟨v,b,n,rfl,hb,_⟩:=eB h1;have:mY S.rcv x≤1:=by simp [mY,eE,hx]
  obtain ⟨rfl,rfl⟩:=hb this;rw [hxd];refine ⟨?_,dG,jb⟩;simp [St.set]
 have hev:∀ z:Operand,z ≠ .tmp d→s1.ev S z=st.ev S z:=fun z hz=>by
  rw [e1.1];cases z with
  | tmp k=>grind [St.ev,St.set]
  | _=>rfl
 have hvp:s1.ev S (.tmp p)=st.ev S (.tmp p):=hev _ (fun e=>hdp (by grind));have hvv:=hev vop hdv;have hro:∀ b ev,ro S b ev (.store t' (.tmp p) vop)=none:=fun _ _=>rfl;unfold Ex eX at h2;rw [hyg] at h2;simp only [jM,hy,hro,hyd] at h2;obtain ⟨hcond,h2⟩:=h2;simp only [Op.operands] at hcond;have hev1:(st.ev S (.tmp p)).strip = .b (.c (.ptr idp offp)):=by simp [St.ev,hpv,SV.strip]
 simp only [dX,hvp,hvv,hev1,e1.2.1] at h2;split at h2
 ·rename_i id off v sz ag q1 q2 q3;cases q1;split at h2
  ·rename_i cs hb;obtain ⟨hvc,h2⟩:=h2;refine ⟨st.setBox idp (.fix (kZ cs offp v.cells)), ?_, ?_⟩
   ·unfold Ex eX;rw [hyg];simp only [jM,hy,hro,hyd];refine ⟨?_, ?_⟩
    ·grind [Op.operands]
    ·simp only [dX,hev1,q2,q3,hb];exact ⟨hvc,rfl⟩
   ·subst h2;unfold Ex eX at h1 ⊢;rw [hxg] at h1 ⊢;simp only [jM,hx,pH] at h1 ⊢;have hload:∀ r,rc (ef S t st.bx (st.ev S (.tmp q)).strip) (st.ev S (.tmp q)).cond=some r→rc (ef S t (st.setBox idp (.fix (kZ cs offp v.cells))).bx (st.ev S (.tmp q)).strip) (st.ev S (.tmp q)).cond=some r:=fun r hr=>by grind [ef,St.setBox,SV.strip,St.ev,SV.cond]
    cases hr:rc (ef S t st.bx (st.ev S (.tmp q)).strip) (st.ev S (.tmp q)).cond with
    | none=>grind [dX]
    | some r =>
     rw [hr] at h1;have:=hload r hr;rw [show (St.ev S (st.setBox idp (.fix (kZ cs offp v.cells))) (.tmp q))=st.ev S (.tmp q) from rfl,this];refine ⟨h1.1, ?_⟩;rw [← h1.2,hxd];rfl
  grind
 ·grind
 grind
def iT (lb:Nat) (st:St):Prop:=(∀ i,st.nx≤i→st.bx i=none)∧lb≤st.nx
theorem iT.set {lb:Nat} {st:St} (h:iT lb st) (d:Option Nat) (v:SV):iT lb (st.set d v) :=
 ⟨fun i hi=>by rw [dG];rw [jb] at hi;exact h.1 i hi,by rw [jb];exact h.2⟩
theorem iT.newBox {lb:Nat} {st:St} (h:iT lb st) (x:Bx):iT lb (st.newBox x):=⟨fun i hi=>by
 simp only [St.newBox] at hi ⊢
 rw [if_neg (by omega)];exact h.1 i (by omega),Nat.le_succ_of_le h.2⟩
theorem iT.newBoxO {lb:Nat} {st:St} (h:iT lb st) (x:Option Bx):iT lb (st.newBoxO x):=⟨fun i hi=>by
 have hi:st.nx+1≤i:=hi;show (if i=st.nx then x else st.bx i)=none;rw [if_neg (by omega)]
 exact h.1 i (by omega),Nat.le_trans h.2 (Nat.le_succ _)⟩
theorem iT.delBox {lb:Nat} {st:St} (h:iT lb st) (id:Nat):iT lb (st.delBox id):=⟨fun i hi=>by
 simp only [St.delBox] at hi ⊢;split
 ·rfl
 ·exact h.1 i hi,h.2⟩
theorem iT.setBox {lb:Nat} {st:St} (h:iT lb st) {id:Nat} {y:Bx} (hb:st.bx id=some y) (x:Bx):iT lb (st.setBox id x):=⟨fun i hi=>by
 simp only [St.setBox] at hi ⊢;split
 ·rename_i e;subst e;rw [h.1 i hi] at hb;cases hb
 ·exact h.1 i hi,h.2⟩
theorem DM {lb:Nat} {f:FuncId} {args:List BV} {K:SV→St→Prop} (h:CallP S st f args K) (w:iT lb st):∃ r s',K r s'∧iT lb s':=by
 cases h with
 | pure args' X h ha hl hk=>grind
 | ext args' X h ha hl hk=>grind
 | lend args' X h ha hl hf hk=>grind
 | recv id off cs0 cs rest args' X Y h he hb hoff hcs ha hl hr hy hk=>exact ⟨_,_,hk,w.setBox hb _⟩
 | recvEl id sz i e n g cs rest args' X Y h he hb hi hsz hcs ha hl hr hy hk=>exact ⟨_,_,hk,w.setBox hb _⟩
 | inl X bx' nx' h hr hw hk hn=>grind [iT]
 | own args' e sz n g h ha hl hr hk=>exact ⟨_,_,hk,w.newBox _⟩
theorem Tb {lb:Nat} {ev:Operand→SV} {op:Op} {K:SV→St→Prop} (h:dX S st ev op K) (w:iT lb st):∃ r s',K r s'∧iT lb s':=by
 cases op with
 | build t parts =>
  simp only [dX] at h;grind
 | alloc t =>
  simp only [dX] at h;split at h
  ·exact ⟨_,_,h,w.newBox _⟩
  grind
 | box t x =>
  simp only [dX] at h;split at h
  ·exact ⟨_,_,h.2,w.newBox _⟩
  grind
 | buildSlice t len parts =>
  simp only [dX] at h;split at h
  ·split at h
   ·split at h
    ·exact ⟨_,_,h.2,w.newBox _⟩
    grind
   grind
  grind
 | store t p x =>
  simp only [dX] at h;split at h
  ·split at h
   ·rename_i hb;exact ⟨_,_,h.2,w.setBox hb _⟩
   grind
  ·split at h
   ·rename_i hb;exact ⟨_,_,h.2,w.setBox hb _⟩
   grind
  grind
 | makeSlice t l c =>
  simp only [dX] at h;split at h
  ·split at h
   ·exact ⟨_,_,h.2,w.newBoxO _⟩
   grind
  grind
 | call c =>
  simp only [dX] at h;split at h
  ·split at h
   ·split at h
    ·exact ⟨_,_,h.2,w.newBox _⟩
    ·split at h
     ·exact ⟨_,_,h.2,(w.delBox _).newBox _⟩
     grind
    grind
   grind
  ·split at h
   ·split at h
    ·grind [iT,St.setBox,iT.setBox]
    grind
   grind
  ·exact DM h w
  ·grind [DM]
  grind
 | _=>exact h.elim
theorem MV {lb:Nat} {o:Oper} {K:St→Prop} (h:jM S st o K) (w:iT lb st):∃ s',K s'∧iT lb s':=by
 unfold jM at h;split at h
 ·exact ⟨_,h.2,w.set _ _⟩
 ·obtain ⟨r,s',hk,hw⟩:=Tb h.2 w;exact ⟨_,hk,hw.set _ _⟩
theorem tJ {lb:Nat} {o:Oper} (h:Ex S ops st o s') (w:iT lb st):iT lb s':=by
 unfold Ex eX at h;split at h
 ·grind [MV,jM]
 ·split at h
  ·rename_i g hg;split at h
   ·rw [← h.2.2];exact w.set _ _
   ·rw [← h.2.2];exact w.set _ _
   ·rcases h with h|⟨x,_,_,h⟩
    ·cases g with
     | true =>
      grind [MV,jM]
     | false=>rw [← h.2 rfl];exact w.set _ _
    ·rw [← h];exact w.set _ _
  grind
def uN (rcv:Nat→Bool) (o:Oper):Bool:=o.guard.isNone && match o.op with
 | .alloc _=>true
 | .box _ _=>true
 | .buildSlice _ _ _=>true
 | .makeSlice _ _ _=>true
 | .call c=>match c.callee with
  | .value (.func f) => !rcv f && rcv (f+2000000)
  | _=>false
 | _=>false
theorem Dd {o:Oper} (ha:uN S.rcv o=true) (h:Ex S ops st o s'):∀ i,i≠st.nx→s'.bx i=st.bx i:=by
 intro i hi;simp only [uN,Bool.and_eq_true,Option.isNone_iff_eq_none] at ha;obtain ⟨hg,ha⟩:=ha;unfold Ex eX at h;rw [hg] at h;simp only [jM] at h;split at ha
 ·grind [St.newBox,dG,ro,dX]
 ·grind [St.newBox,dG,ro,dX]
 ·rename_i t l ps ho;rw [ho] at h;simp only [show ro S st.bx (st.ev S) (.buildSlice t l ps)=none from rfl,dX] at h;split at h
  ·grind [St.newBox,dG]
  grind
 ·rename_i t l c ho;rw [ho] at h;simp only [show ro S st.bx (st.ev S) (.makeSlice t l c)=none from rfl,dX] at h;grind [St.newBoxO,dG]
 ·rename_i c ho;obtain ⟨cal,⟨al⟩,⟨tl⟩⟩:=c;simp only at ha;split at ha
  ·rename_i f;rw [ho] at h;simp only [Bool.and_eq_true,Bool.not_eq_true'] at ha;have hro:ro S st.bx (st.ev S) (.call ⟨.value (.func f),⟨al⟩,⟨tl⟩⟩)=none:=by simp [ro,bA]
   rw [hro] at h;have h2:=h.2;unfold dX at h2;simp only at h2;cases h2 with
   | pure args' X h ha2 hl hk=>grind [dG]
   | ext args' X h ha2 hl hk=>grind [dG]
   | lend args' X h ha2 hl hf hk hp=>grind [dG]
   | recv id off cs0 cs rest args' X Y h he hb hoff hcs ha2 hl hr hy hk=>grind
   | recvEl id sz i e n g cs rest args' X Y h he hb hi hsz hcs ha2 hl hr hy hk=>grind
   | inl X bx' nx' h hr hw hk hn=>grind
   | own args' e sz n g h ha2 hl hr hk=>grind [St.newBox,dG]
  ·cases ha
 ·cases ha
def zY (o:Oper):Bool:=o.guard.isNone && match o.op with
 | .load _ _=>true
 | _=>false
def qT (rcv:Nat→Bool) (ops:Array Oper) (x y:Oper):Bool :=
 (match x.dst with|some d => !(bE ops y).contains d|none=>true) && (match y.dst with|some d => !(bE ops x).contains d|none=>true) &&
 (match x.dst,y.dst with|some d,some e=>d != e|_,_=>true) && zY x && uN rcv y
theorem FV {t:TypeId} {b b':Nat→Option Bx} {v:SV} {r:Prop × SV} (h:ef S t b v=some r) (hb:∀ i y,b i=some y→b' i=some y):ef S t b' v=some r:=by
 unfold ef at h ⊢;grind
theorem jO {lb:Nat} {x y:Oper} (hi:qT S.rcv ops x y=true) (w:iT lb st) (h1:Ex S ops st x s1) (h2:Ex S ops s1 y s2):∃ s3,Ex S ops st y s3∧Ex S ops s3 x s2:=by
 simp only [qT,Bool.and_eq_true] at hi;obtain ⟨⟨⟨⟨hxy,hyx⟩,hdd⟩,hl⟩,ha⟩:=hi;have hab:=Dd ha h2;simp only [zY,Bool.and_eq_true,Option.isNone_iff_eq_none] at hl;obtain ⟨hxg,hl⟩:=hl;split at hl
 case h_2=>cases hl
 rename_i t q hxo;obtain ⟨v1,b1,n1,e1,k1,p1,z1⟩:=eB h1;have hc1:mY S.rcv x≤1:=by simp [mY,eE,hxo]
 obtain ⟨rfl,rfl⟩:=k1 hc1;obtain ⟨v2,b2,n2,e2,k2,p2,z2⟩:=eB h2;have hs1:s1.bx=st.bx∧s1.nx=st.nx:=by rw [e1];exact ⟨dG,jb⟩
 have ag1:∀ t ∈ bE ops y,s1.fr t=st.fr t:=by rw [e1];exact fR (nx':=0) (bx':=st.bx) hxy
 have q2:=p2 st ag1 hs1.1.symm hs1.2.symm;refine ⟨_,q2, ?_⟩;have comm:s2=St.set (St.set ⟨st.fr,b2,n2,st.kf⟩ y.dst v2) x.dst v1:=by
  rw [e2,e1];simp only [cP,St.mk.injEq,and_true];funext s;by_cases c1:some s=x.dst
  ·grind
  ·grind
 have hbx:∀ i y',st.bx i=some y'→b2 i=some y':=fun i y' hi=>by
  have hne:i≠s1.nx:=by
   rw [hs1.2];intro e;have:=w.1 i (by omega);rw [this] at hi;cases hi
  simp_all [dG]
 have ag2:∀ t ∈ bE ops x,(St.set ⟨st.fr,b2,n2,st.kf⟩ y.dst v2).fr t=st.fr t:=fR (nx':=0) (bx':=st.bx) hyx;have hevq:(St.set ⟨st.fr,b2,n2,st.kf⟩ y.dst v2).ev S q=st.ev S q :=
  (eo (S:=S) (ops:=ops) (o:=x) (fun t ht=>(ag2 t ht).symm) q (by grind [Op.operands])).symm
 unfold Ex eX at h1 ⊢;rw [hxg] at h1 ⊢;simp only [jM,hxo,pH] at h1 ⊢;rw [hevq,dG];cases hr:ef S t st.bx (st.ev S q).strip with
 | none=>grind [rc,dX]
 | some r =>
  grind [rc,St.set,FV]
def WJ (kl:List (Nat × Nat)) (ops:Array Oper) (mi:Nat) (j i:Nat) (x y:Oper):Bool :=
 match x.op,y.op,x.dst with
 | .load _ (.tmp q), .store _ (.tmp p) vop,some d =>
  x.guard.isNone && y.guard.isNone && y.dst.isNone && d != p && d != q && (match vop with | .tmp e=>e != d|_=>true) && ((Nat.beq (qH kl p) 2 && (Nat.beq (qH kl q) 1 || Nat.beq (qH kl q) 3)) || (Nat.ble 4 (qH kl p) && Nat.ble 4 (qH kl q) && qH kl p != qH kl q)) &&
   (List.range ops.size).all fun k=>Nat.ble k j || (match ops[k]? with
    | some z=>z.dst != some q && (z.dst != some p || (Nat.blt k i && mi.testBit k))
    | none=>true)
 | _,_,_=>false
def PA (rcv:Nat→Bool) (kl:List (Nat × Nat)) (ops:Array Oper) (x y:Oper):Bool :=
 (match x.dst with|some d => !(bE ops y).contains d|none=>true) && (match y.dst with|some d => !(bE ops x).contains d|none=>true) &&
 (match x.dst,y.dst with|some d,some e=>d != e|_,_=>true) && uN rcv x && (match y.op with
 | .load _ (.tmp q)=>y.guard.isNone && Nat.ble 4 (qH kl q) && (List.range ops.size).all fun k=>match ops[k]? with
  | some z=>z.dst != some q
  | none=>true
 | _=>false)
theorem uD {kl : List (Nat × Nat)} {x y : Oper} {t : TypeId} {q id off : Nat} (hi : PA S.rcv kl ops x y = true) (hyo : y.op = .load t (.tmp q)) (hyg : y.guard = none) (hq : st.fr q = .b (.c (.ptr id off))) (hid : id < st.nx)
  (h1:Ex S ops st x s1) (h2:Ex S ops s1 y s2):∃ s3,Ex S ops st y s3∧Ex S ops s3 x s2:=by
 simp only [PA,Bool.and_eq_true] at hi;obtain ⟨⟨⟨⟨hxy,hyx⟩,hdd⟩,ha⟩,_⟩:=hi;have hab:=Dd ha h1;obtain ⟨v1,b1,n1,e1,k1,p1,z1⟩:=eB h1;obtain ⟨v2,b2,n2,e2,k2,p2,z2⟩:=eB h2;have hc2:mY S.rcv y≤1:=by simp [mY,eE,hyo,hyg]
 obtain ⟨rfl,rfl⟩:=k2 hc2;have hfrq:s1.fr q=st.fr q:=by
  rw [e1];refine fR (nx':=0) (bx':=st.bx) hxy q ?_;simp [bE,hyo,Op.operands]
 have hload:rc (ef S t s1.bx (s1.ev S (.tmp q)).strip) (s1.ev S (.tmp q)).cond=rc (ef S t st.bx (st.ev S (.tmp q)).strip) (st.ev S (.tmp q)).cond:=by simp only [St.ev,hfrq,hq,SV.strip,SV.cond,ef,hab id (by omega)]
 have hy:Ex S ops st y (st.set y.dst v2):=by
  unfold Ex eX at h2 ⊢;rw [hyg] at h2 ⊢;simp only [jM,hyo,pH] at h2 ⊢;rw [hload] at h2;cases hr:rc (ef S t st.bx (st.ev S (.tmp q)).strip) (st.ev S (.tmp q)).cond with
  | none=>grind [dX]
  | some r =>
   rw [hr] at h2;refine ⟨h2.1, ?_⟩;have h3:s1.set y.dst r.2=St.set ⟨s1.fr,s1.bx,s1.nx,s1.kf⟩ y.dst v2:=h2.2.trans e2;rw [cP,cP] at h3;simp only [St.mk.injEq,and_true] at h3;rw [cP,cP];simp only [St.mk.injEq,and_true];funext s;have:=congrFun h3 s;grind
 refine ⟨_,hy, ?_⟩;have ag:∀ t ∈ bE ops x,st.fr t=(st.set y.dst v2).fr t:=fun t ht=>(fR (fr:=st.fr) (kf:=st.kf) (nx':=0) (bx':=st.bx) (bx:=st.bx) (nx:=st.nx) hyx t ht).symm;have:=p1 (st.set y.dst v2) ag dG jb;have comm:s2=St.set ⟨(st.set y.dst v2).fr,b1,n1,(st.set y.dst v2).kf⟩ x.dst v1:=by
  rw [e2,e1];simp only [cP,St.mk.injEq,and_true];funext s;by_cases c1:some s=x.dst
  ·grind
  ·grind
 grind
def nH (rcv:Nat→Bool) (ops:Array Oper) (m:Nat→Nat) (kl:List (Nat × Nat)):Bool :=
 (List.range ops.size).all fun i=>match ops[i]? with
  | none=>false
  | some o=>(o.after.all fun e => !Region.binds .any e || Nat.blt e.on i) &&
   (List.range i).all fun j=>match ops[j]? with
    | none=>false
    | some x=>(tY rcv ops x o || qT rcv ops x o || WJ kl ops (m i) j i x o || PA rcv kl ops x o) || ((m i).testBit j)
theorem wx {m : Nat → Nat} {kl : List (Nat × Nat)} {i : Nat} {o : Oper} {l2 : List Nat} (hd : nH S.rcv ops m kl = true) (ho : ops[i]? = some o) (hlt : i < ops.size) : ∀ (l1 : List Nat) {st s' : St}, (l1 ++ i :: l2).Pairwise (· < ·) →
  (∀ k ∈ l1 ++ i :: l2,k<ops.size)→(∀ j ∈ l1,(m i).testBit j=false)→Ga S ops (l1.map (fun i=>ops.getD i default) ++ o :: l2.map (fun i=>ops.getD i default)) st s'→gN kl s'→iT (wL kl) st →
  ∃ s,Ex S ops st o s∧Ga S ops (l1.map (fun i=>ops.getD i default) ++ l2.map (fun i=>ops.getD i default)) s s'
 | [],_,_,_,_,_,h,_,_=>h
 | j :: l1,st,s',hp,hall,ht,⟨s,h1,h2⟩,hk,hwf=>by
  have hpc:=List.pairwise_cons.1 hp;obtain ⟨s2,h3,h4⟩:=wx hd ho hlt l1 hpc.2 (fun k hk=>hall k (List.mem_cons_of_mem _ hk)) (fun k hk=>ht k (List.mem_cons_of_mem _ hk)) h2 hk (tJ h1 hwf);have hji:j<i:=hpc.1 i (List.mem_append_right _ (List.mem_cons_self ..));have hjlt:j<ops.size:=hall j (List.mem_cons_self ..);have hx:ops[j]?=some (ops.getD j default):=by rw [Array.getD_eq_getD_getElem?,Array.getElem?_eq_getElem hjlt];rfl
  have d1:=List.all_eq_true.1 hd i (List.mem_range.2 hlt);rw [ho] at d1;simp only [Bool.and_eq_true] at d1;have d2:=List.all_eq_true.1 d1.2 j (List.mem_range.2 hji);rw [hx] at d2;simp only [Bool.or_eq_true,ht j (List.mem_cons_self ..),Bool.false_eq_true,or_false] at d2;have key:∃ s3,Ex S ops st o s3∧Ex S ops s3 (ops.getD j default) s2:=by
   rcases d2 with ((d2|d2)|d2)|d2
   ·grind [va]
   ·grind [jO]
   ·unfold WJ at d2;split at d2
    ·rename_i _ t q t' p vop d hxo hyo hxd;simp only [Bool.and_eq_true,Nat.beq_eq,Nat.ble_eq,Bool.or_eq_true,bne_iff_ne,Option.isNone_iff_eq_none] at d2;obtain ⟨⟨⟨⟨⟨⟨⟨g1,g2⟩,g3⟩,g4⟩,g5⟩,g6⟩,g7⟩,g9⟩:=d2;have hw:∀ k,j<k→k<ops.size→(ops.getD k default).dst≠some q∧((ops.getD k default).dst≠some p∨(k<i∧(m i).testBit k=true)):=fun k hk1 hk2=>by
      have:=List.all_eq_true.1 g9 k (List.mem_range.2 hk2);rw [show ops[k]?=some (ops.getD k default) by simp_all] at this;simp only [Bool.or_eq_true,Nat.ble_eq,Bool.and_eq_true,bne_iff_ne] at this;rcases this with h|h
      ·omega
      simp_all
     have hq1:s'.fr q=s.fr q:=zQ h2 fun z hz=>by
      rcases List.mem_append.1 hz with hz|hz
      ·obtain ⟨k,hk1,rfl⟩:=List.mem_map.1 hz;simp_all
      ·rcases List.mem_cons.1 hz with hz|hz
       ·grind
       grind
     have hp1:s'.fr p=s.fr p:=zQ h2 fun z hz=>by
      rcases List.mem_append.1 hz with hz|hz
      ·obtain ⟨k,hk1,rfl⟩:=List.mem_map.1 hz;rcases (hw k (hpc.1 k (List.mem_append_left _ hk1)) (hall k (List.mem_cons_of_mem _ (List.mem_append_left _ hk1)))).2 with h|h
       ·exact h
       grind
      ·rcases List.mem_cons.1 hz with hz|hz
       ·grind
       ·obtain ⟨k,hk1,rfl⟩:=List.mem_map.1 hz;rcases (hw k (hpc.1 k (List.mem_append_right _ (List.mem_cons_of_mem _ hk1))) (hall k (List.mem_cons_of_mem _ (List.mem_append_right _ (List.mem_cons_of_mem _ hk1))))).2 with h|h
        ·exact h
        ·have:=(List.pairwise_cons.1 (List.pairwise_append.1 hpc.2).2.1).1 k hk1;omega
     have hp2:s.fr p=st.fr p:=FQ h1 (by grind);have hq2:s.fr q=st.fr q:=FQ h1 (by grind);have hpk:=nk hk (t:=p) (by omega);have hqk:=nk hk (t:=q) (by omega);rw [hp1,hp2] at hpk;rw [hq1,hq2] at hqk;have g6':vop ≠ .tmp d:=fun e=>by grind
     grind [uK,sS]
    ·cases d2
   ·have d3:=d2;simp only [PA,Bool.and_eq_true] at d3;obtain ⟨⟨⟨⟨_,_⟩,_⟩,_⟩,d3⟩:=d3;split at d3
    ·rename_i t q hyo;simp only [Bool.and_eq_true,Option.isNone_iff_eq_none,Nat.ble_eq] at d3;obtain ⟨⟨hyg,hkd⟩,hall2⟩:=d3;have hz:∀ k,k<ops.size→(ops.getD k default).dst≠some q:=fun k hk2=>by simp_all
     have hoi:o=ops.getD i default:=by rw [Array.getD_eq_getD_getElem?,ho];rfl
     have hq1:s'.fr q=s.fr q:=zQ h2 fun z hz2=>by
      rcases List.mem_append.1 hz2 with hz2|hz2
      ·grind
      ·rcases List.mem_cons.1 hz2 with hz2|hz2
       ·grind
       grind
     have hq2:s.fr q=st.fr q:=FQ h1 (hz j hjlt);have hqk:=nk hk (t:=q) (by omega);rw [hq1,hq2] at hqk;unfold DV at hqk;split at hqk
     ·rename_i id off hfr;have hlb:=Sf (t:=q) (l:=kl);exact uD d2 hyo hyg hfr (by have:=hwf.2;omega) h1 h3
     ·omega
     ·omega
     grind
    ·cases d3
  grind [Ex,Ga]
theorem NM {m : Nat → Nat} {kl : List (Nat × Nat)} (hd : nH S.rcv ops m kl = true) (hm : cn ops m = true) {K : St → Prop} : ∀ (fuel : Nat) (listed : Array Bool) (rest : List Nat) (st s' : St),
  listed.size=ops.size→rest.Pairwise (· < ·)→(∀ i,i ∈ rest↔i<ops.size∧listed.getD i true=false)→fP ops listed→Ga S ops (rest.map fun i=>ops.getD i default) st s'→K s'→gN kl s'→iT (wL kl) st→rest.length≤fuel →
  gP S ops fuel listed st K:=by
 have hed:∀ i o,ops[i]?=some o→∀ e ∈ o.after,Region.binds .any e=true→e.on<i:=fun i o ho e he hb=>by
  have hlt:i<ops.size:=by
   rcases Nat.lt_or_ge i ops.size with h|h
   ·exact h
   ·grind
  have:=List.all_eq_true.1 hd i (List.mem_range.2 hlt);rw [ho] at this;simp only [Bool.and_eq_true] at this;have:=this.1;obtain ⟨k,hk,rfl⟩:=Array.mem_iff_getElem.1 he;have:=(Array.all_eq_true.1 this) k hk;simp_all
 have noready:∀ (listed:Array Bool) (rest:List Nat),listed.size=ops.size→rest.Pairwise (· < ·)→(∀ i,i ∈ rest↔i<ops.size∧listed.getD i true=false)→Region.ready .any ops listed=[]→rest=[]:=by
  intro listed rest hs hp hr hno;cases rest with
  | nil=>rfl
  | cons i r =>
   exfalso;obtain ⟨hlt,hl⟩:=(hr i).1 (List.mem_cons_self ..)
   have:i ∈ Region.ready .any ops listed:=(cu hs).2 ⟨_,Array.getElem?_eq_getElem hlt,hl,fun e he hb=>by
    have hle:=hed i _ (Array.getElem?_eq_getElem hlt) e he hb;cases hq:listed.getD e.on false with
    | true=>rfl
    | false =>
     exfalso;have hq':listed.getD e.on true=false:=by
      have hl2:e.on<listed.size:=by omega
      rw [Array.getD,dif_pos hl2] at hq ⊢;exact hq
     have hmem:=(hr e.on).2 ⟨by omega,hq'⟩;rcases List.mem_cons.1 hmem with h|h
     ·omega
     ·have:=(List.pairwise_cons.1 hp).1 _ h;omega⟩
   grind
 intro fuel
 induction fuel with
 | zero =>
  intro listed rest st s' hs hp hr hcl hx hk hkl hwf hlen;have hnil:rest=[]:=List.eq_nil_of_length_eq_zero (by omega);subst hnil;have hst:st=s':=hx;subst hst;refine ⟨?_,hk⟩;rw [List.eq_nil_iff_forall_not_mem];grind [cu]
 | succ fuel ih =>
  intro listed rest st s' hs hp hr hcl hx hk hkl hwf hlen;refine ⟨fun hno => ?_,fun i hi => ?_⟩
  ·grind [Ga]
  ·obtain ⟨o,ho,hl,hdep⟩:=(cu hs).1 hi;have hlt:i<ops.size:=by
    rcases Nat.lt_or_ge i ops.size with h|h
    ·exact h
    ·grind
   have hmem:=(hr i).2 ⟨hlt,hl⟩;rw [ho];obtain ⟨l1,l2,rfl⟩:=List.append_of_mem hmem;have hpw:=List.pairwise_append.1 hp;have hoi:ops.getD i default=o:=by rw [Array.getD_eq_getD_getElem?,ho];rfl
   rw [List.map_append,List.map_cons,hoi] at hx;have hdep':∀ e ∈ o.after,Region.binds .any e=true→jR listed e.on:=fun e he hb=>by grind [jR]
   have hind:∀ j ∈ l1,(m i).testBit j=false:=fun j hj=>by
    have hji:j<i:=hpw.2.2 j hj i (List.mem_cons_self ..);obtain ⟨hjlt,hjl⟩:=(hr j).1 (List.mem_append_left _ hj);cases h2:(m i).testBit j with
    | false=>rfl
    | true =>
     exfalso;have h3:=List.all_eq_true.1 hm i (List.mem_range.2 hlt);rw [ho] at h3;have h4:=List.all_eq_true.1 h3 j (List.mem_range.2 hji);simp only [h2,Bool.not_true,Bool.false_or] at h4;obtain ⟨k,hk',hh⟩:=Array.any_eq_true.1 h4;simp only [Bool.and_eq_true,Bool.or_eq_true,Nat.beq_eq] at hh;have hin:=hdep' _ (Array.getElem_mem hk') hh.1;have hle:=hed i o ho _ (Array.getElem_mem hk') hh.1;have:jR listed j:=by
      rcases hh.2 with q|q
      ·grind
      ·exact vB hm hcl hed (fun _ _ _=>trivial) (i+1) _ (by omega) hin (by omega) j (by simp_all) q.1
     unfold jR at this;grind
   have hall:∀ k ∈ l1 ++ i :: l2,k<ops.size:=fun k hk2=>((hr k).1 hk2).1;obtain ⟨s1,h1,h2⟩:=wx hd ho hlt l1 hp hall hind hx hkl hwf;refine iC h1 ?_;have hget:∀ k b,(listed.setIfInBounds i true).getD k b=if k=i then true else listed.getD k b:=fun k b=>by
    simp only [Array.getD_eq_getD_getElem?,Array.getElem?_setIfInBounds];grind
   refine ih _ (l1 ++ l2) s1 s' (by grind) ?_ (fun k => ?_) (fun k x hx' hin e he hb => ?_) (by grind) hk hkl (tJ h1 hwf) (by grind)
   ·grind
   ·have hk:=hr k;rw [hget];by_cases hki:k=i
    ·subst hki;simp only [if_true];constructor
     ·intro hmm;exfalso;rcases List.mem_append.1 hmm with q|q
      ·grind
      ·have:=(List.pairwise_cons.1 hpw.2.1).1 k q;omega
     grind
    grind
   ·unfold jR at hin ⊢;rw [hget] at hin ⊢;by_cases hek:e.on=i
    ·grind
    ·rw [if_neg hek];by_cases hki:k=i
     ·grind
     ·rw [if_neg hki] at hin;exact hcl k x hx' hin e he hb
theorem Cp {l:List Oper} {m:Nat→Nat} {kl:List (Nat × Nat)} (hd:nH S.rcv l.toArray m kl=true) (hm:cn l.toArray m=true) {K:St→Prop} (hwf:iT (wL kl) st) (h:aY S l.toArray l st fun s=>gN kl s∧K s):gP S l.toArray l.toArray.size (Array.replicate l.toArray.size false) st K:=by
 obtain ⟨s',h1,h2⟩:=vn h;refine NM hd hm _ _ (List.range l.length) st s' (by simp) List.pairwise_lt_range (fun i => ?_) (fun i o ho hi => ?_) ?_ h2.2 h2.1 hwf (by simp)
 ·simp_all
 ·exfalso;have hlt:i<l.toArray.size:=by
   rcases Nat.lt_or_ge i l.toArray.size with h|h
   ·exact h
   ·grind
  unfold jR at hi;simp_all
 ·have:(List.range l.length).map (fun i=>l.toArray.getD i default)=l:=by
   apply List.ext_getElem
   ·simp
   ·simp_all
  grind
theorem bT {id : Nat} {l : List Oper} {y : Code} {Q : AExit → St → Prop} (kl : List (Nat × Nat)) (hd : nH S.rcv l.toArray (fun i => (Region.before l.toArray).getD i 0) kl = true) (hm : cn l.toArray (fun i => (Region.before l.toArray).getD i 0) = true)
  (hwf:iT (wL kl) st) (h:∀ K:St→Prop,(∀ s,gN kl s→cw S y Q s→K s)→aY S l.toArray l st K):cw S (.seq (.region id l.toArray true) y) Q st:=by
 refine wB ?_;simp only [cw,if_pos];exact Cp hd hm hwf (h _ fun s h1 h2=>⟨h1,h2⟩)
theorem iM {id : Nat} {l : List Oper} {Q : AExit → St → Prop} (kl : List (Nat × Nat)) (hd : nH S.rcv l.toArray (fun i => (Region.before l.toArray).getD i 0) kl = true) (hm : cn l.toArray (fun i => (Region.before l.toArray).getD i 0) = true)
  (hwf:iT (wL kl) st) (h:∀ K:St→Prop,(∀ s,gN kl s→Q .normal s→K s)→aY S l.toArray l st K):cw S (.region id l.toArray true) Q st:=by
 grind [cw,gP,Cp]
theorem Li {c:Operand} {x y z:Code} {t:Bool} {Q:AExit→St→Prop} (s0:St) (hc:st.ev S c = .t t) (h1:t=true→cw S x (iL (Wk fun s=>s=s0) Q) st) (h2:t=false→cw S y (iL (Wk fun s=>s=s0) Q) st) (h:cw S z Q s0):cw S (.seq (.cond c x y) z) Q st :=
 JF (fun s=>s=s0) (mW hc h1 h2) (fun s hs=>hs ▸ h)
theorem eO {z x:Code} {id:Nat} {Q:AExit→St→Prop} (h:∀ K:St→Prop,(∀ s s',Le s s'→cw S z Q s'→K s)→cw S x (lY id (iL K Q)) st):cw S (.seq (.block id x) z) Q st:=by grind [ec,iL,Wk,cw,Dq]
theorem TO {c i o:Nat}:DV c (.b (.c (.ptr i o)))=(c=1∨c=4+i):=rfl
theorem TE {c i s k o:Nat}:DV c (.b (.c (.pel i s k o)))=(c=2):=rfl
theorem Tm {c s o:Nat} {g:Nat→PV}:DV c (.b (.c (.ipt s g o)))=(c=3):=rfl
theorem Tt {s:St}:gN [] s=True:=rfl
theorem Rl {s:St} {t c:Nat} {r:List (Nat × Nat)}:gN ((t,c) :: r) s=(DV c (s.fr t)∧gN r s):=rfl
end
attribute [go_sem] wL TO TE Tm Tt Rl
end
end Go.SL
