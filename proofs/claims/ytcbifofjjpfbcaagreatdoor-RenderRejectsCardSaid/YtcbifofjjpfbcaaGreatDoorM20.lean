/- Part of the proof: Br, BrG, BrS, TC, D7, DB, TD, DA, TE, PN, P7, R4, P1, DC, WO, JC, FI, KB. -/
import Derived.ChangeArms
import Derived.DataReads
import Derived.DataOpen
import Derived.OpenShut
import Derived.Lib.LaidTab
import Derived.Carry
import Derived.ProofKit
import Derived.WideKeyArgs
import Derived.WalkKit
import GoSem.ClaimJoined
import Derived.Test.YtcbifofjjpfbcaaGreatDoorRows
import Derived.KernelRfl
import Derived.Test.YtcbifofjjpfbcaaGreatDoorM17
import Derived.Test.YtcbifofjjpfbcaaGreatDoorM18
import Derived.Test.YtcbifofjjpfbcaaGreatDoorM19
set_option linter.unusedSimpArgs false
set_option linter.unusedVariables false
set_option maxRecDepth 100000
set_option maxHeartbeats 8000000
namespace Go.SL
open Go Go.ChangeShapes
structure Cells (w:World) (cs:List Value) (l:List PV):Prop where
 len:cs.length=l.length
 one:∀ j,j<cs.length→(cs.getD j undef).oneCell'=true
 den:∀ j,j<cs.length→bo (· < w.heap.size) w (l.getD j .any) (cs.getD j undef)
theorem Cells.nil {w:World}:Cells w [] []:=⟨rfl,fun j h=>absurd h (Nat.not_lt_zero j),fun j h=>absurd h (Nat.not_lt_zero j)⟩
theorem pj {α:Type} (a b:List α) (d:α) (j:Nat) (h:j<a.length):(a ++ b).getD j d=a.getD j d:=by rw [List.getD_eq_getElem?_getD,List.getD_eq_getElem?_getD,List.getElem?_append_left h]
theorem nO {α:Type} (a b:List α) (d:α) (j:Nat) (h:a.length≤j):(a ++ b).getD j d=b.getD (j - a.length) d:=by rw [List.getD_eq_getElem?_getD,List.getD_eq_getElem?_getD,List.getElem?_append_right h]
theorem Cells.append {w:World} {a b:List Value} {l r:List PV} (h:Cells w a l) (k:Cells w b r):Cells w (a ++ b) (l ++ r):=by
 refine ⟨by rw [List.length_append,List.length_append,h.len,k.len],fun j hj => ?_,fun j hj => ?_⟩
 ·rw [List.length_append] at hj;by_cases hc:j<a.length
  ·rw [pj _ _ _ _ hc];exact h.one j hc
  ·rw [nO _ _ _ _ (by omega)];exact k.one _ (by omega)
 ·rw [List.length_append] at hj;by_cases hc:j<a.length
  ·rw [pj _ _ _ _ hc,pj _ _ _ _ (by rw [← h.len];exact hc)];exact h.den j hc
  ·rw [nO l r _ _ (by have:=h.len;omega),nO a b _ _ (by omega),← h.len];exact k.den _ (by omega)
theorem Cells.one1 {w:World} {u:Value} {p:PV} (h1:u.oneCell'=true) (h:bo (· < w.heap.size) w p u):Cells w [u] [p]:=by
 refine ⟨rfl,fun j hj => ?_,fun j hj => ?_⟩ <;> (obtain rfl:j=0:=by simp at hj;exact hj)
 ·exact h1
 ·exact h
def qN {α:Type} (P:Program) (t:TypeId) (E:α→List PV) (Ok:α→Prop):Prop :=
 ∀ (H:Type) (enc:TypeId × Value→H) (w:World) (sp:Nat→Bool) (held:Bool) (fuel:Nat) (cs:List Value) (x:DataW H × List MemPlace),
  DataW.trod enc P w 0 sp held fuel t cs=some x→(DataW.weights P t x.1).all (· ≤ reachBytes)=true→∃ a:α,Ok a∧Cells w cs (E a)
theorem qN.to {α β:Type} {P:Program} {t:TypeId} {E:α→List PV} {Ok:α→Prop} {E':β→List PV} {Ok':β→Prop} (h:qN P t E Ok) (g:α→β) (hE:∀ a,E' (g a)=E a) (hO:∀ a,Ok a→Ok' (g a)):qN P t E' Ok':=by
 intro H enc w sp held fuel cs x hx hw;obtain ⟨a,ho,hc⟩:=h H enc w sp held fuel cs x hx hw;exact ⟨g a,hO a ho,by rw [hE];exact hc⟩
theorem Rm {P:Program} {t:TypeId} {k:IntKind} (ht:P.underlying t=some (.int k)):qN P t (fun n=>[PV.val (.int k n)]) (fun n=>(Lit.int k n).wf=true):=by
 intro H enc w sp held fuel cs x hx _;obtain ⟨n,rfl,_,hw⟩:=DataW.trod_int ht hx;exact ⟨n,hw,Cells.one1 rfl rfl⟩
def fieldsOf (P:Program) (t:TypeId):Option (List (TypeId × Nat)) :=
 match P.underlying t with
 | some (.struct fs)=>some (fs.toList.map fun f=>(f.type,f.offset))
 | some (.array m e)=>some ((List.range m).map fun i=>(e,i * P.cellsOf e))
 | _=>none
theorem nR {H:Type} {P:Program} {e:TypeId}:∀ {ts:List TypeId} {l:List (DataW H)},ts.length=l.length→(∀ t ∈ ts,t=e)→DataW.weightsEach P ts l=DataW.weightsAll P e l
 | [],[],_,_=>rfl
 | t :: ts,d :: l,hl,h=>by
  simp only [DataW.weightsEach,DataW.weightsAll,h t (List.mem_cons_self ..)];rw [nR (by simpa using hl) (fun x hx=>h x (List.mem_cons_of_mem _ hx))]
 | [],_ :: _,hl,_=>by simp at hl
 | _ :: _,[],hl,_=>by simp at hl
theorem vx {H : Type} {enc : TypeId × Value → H} {P : Program} {w : World} {sp : Nat → Bool} {held : Bool} {fuel : Nat} {cs : List Value} {x : DataW H × List MemPlace} {t : TypeId} {l : List (TypeId × Nat)} (h : fieldsOf P t = some l)
  (hx:DataW.trod enc P w 0 sp held fuel t cs=some x):∃ (xs:List (DataW H × List MemPlace)) (m:Nat),x=(.agg (xs.map (·.1)),xs.flatMap (·.2))∧cs.length=P.cellsOf t∧xs.length=l.length ∧
   (∀ (i:Nat) (f:TypeId × Nat),l[i]?=some f→DataW.trod enc P w 0 sp held m f.1 ((cs.drop f.2).take (P.cellsOf f.1))=xs[i]?) ∧
   (∀ k:List (DataW H),k.length=l.length→DataW.weights P t (.agg k)=DataW.weightsEach P (l.map (·.1)) k):=by
 unfold fieldsOf at h;split at h
 ·rename_i fs hu;cases h;obtain ⟨xs,m,rfl,rfl,hlen,hxl,hf⟩:=DataW.trod_struct hu hx;refine ⟨xs,m,rfl,hlen,by simpa using hxl,fun i f hi => ?_,fun k _ => ?_⟩
  ·rw [List.getElem?_map,Option.map_eq_some_iff] at hi;obtain ⟨g,hg,rfl⟩:=hi;exact hf i g (by simpa using hg)
  ·simp only [DataW.weights,hu,List.map_map];rfl
 ·rename_i m e hu;cases h;cases fuel with
  | zero=>simp [DataW.trod] at hx
  | succ fuel =>
   simp only [DataW.trod,hu] at hx;split at hx
   ·rename_i hlen;obtain ⟨xs,hmm,rfl⟩:=Option.map_eq_some_iff.1 hx;refine ⟨xs,fuel,rfl,hlen,by simpa using Lib.mapM_length hmm,fun i f hi => ?_,fun k hk => ?_⟩
    ·rw [List.getElem?_map,Option.map_eq_some_iff] at hi;obtain ⟨g,hg,rfl⟩:=hi;obtain ⟨b,hb,hf⟩:=Lib.mapM_at hmm i g hg;have:g=i:=by
      rw [List.getElem?_eq_some_iff] at hg;obtain ⟨_,hg⟩:=hg;simpa using hg.symm
     subst this;rw [hb];exact hf
    ·simp only [DataW.weights,hu];exact (nR (by simpa using hk.symm) (fun t ht=>by simp at ht;exact ht.2.symm)).symm
   ·cases hx
 ·cases h
def Qk {β:Type} (P:Program) (fs:List (TypeId × Nat)) (off n:Nat) (E:β→List PV) (Ok:β→Prop):Prop :=
 ∀ (H:Type) (enc:TypeId × Value→H) (w:World) (sp:Nat→Bool) (held:Bool) (fuel:Nat) (cs:List Value) (xs:List (DataW H × List MemPlace)),
  xs.length=fs.length→(∀ (i:Nat) (f:TypeId × Nat),fs[i]?=some f→DataW.trod enc P w 0 sp held fuel f.1 ((cs.drop f.2).take (P.cellsOf f.1))=xs[i]?) →
  (DataW.weightsEach P (fs.map (·.1)) (xs.map (·.1))).all (· ≤ reachBytes)=true→∃ b:β,Ok b∧Cells w ((cs.drop off).take n) (E b)
theorem kX {P:Program} {off:Nat}:Qk P [] off 0 (fun _:Unit=>[]) (fun _=>True):=by
 intro H enc w sp held fuel cs xs _ _ _;exact ⟨(),trivial,by rw [List.take_zero];exact Cells.nil⟩
theorem aV {α β : Type} {P : Program} {f : TypeId} {fs : List (TypeId × Nat)} {off k n : Nat} {E : α → List PV} {Ok : α → Prop} {E' : β → List PV} {Ok' : β → Prop}
  (h:qN P f E Ok) (hk:P.cellsOf f=k) (hl:Qk P fs (off+k) n E' Ok') :
  Qk P ((f,off) :: fs) off (k+n) (fun x:α × β=>E x.1 ++ E' x.2) (fun x=>Ok x.1∧Ok' x.2):=by
 intro H enc w sp held fuel cs xs hlen hx hw;obtain ⟨y,ys,rfl⟩:∃ y ys,xs=y :: ys:=by
  cases xs with
  | nil=>simp at hlen
  | cons y ys=>exact ⟨y,ys,rfl⟩
 have h0:=hx 0 (f,off) rfl;simp only [hk] at h0;simp only [List.getElem?_cons_zero] at h0;simp only [List.map_cons,DataW.weightsEach,List.all_append,Bool.and_eq_true] at hw;obtain ⟨a,ha,hca⟩:=h H enc w sp held fuel _ y h0 hw.1;obtain ⟨b,hb,hcb⟩:=hl H enc w sp held fuel cs ys (by simpa using hlen) (fun i g hg=>by have:=hx (i+1) g (by simpa using hg);simpa using this) hw.2;refine ⟨(a,b),⟨ha,hb⟩, ?_⟩;rw [List.take_add,List.drop_drop];exact hca.append hcb
theorem iy {β:Type} {P:Program} {t:TypeId} {fs:List (TypeId × Nat)} {n:Nat} {E:β→List PV} {Ok:β→Prop} (ht:fieldsOf P t=some fs) (hn:P.cellsOf t=n) (h:Qk P fs 0 n E Ok):qN P t E Ok:=by
 intro H enc w sp held fuel cs x hx hw;obtain ⟨xs,m,rfl,hlen,hxl,hf,hwt⟩:=vx ht hx;rw [hwt _ (by simpa using hxl)] at hw;obtain ⟨b,hb,hc⟩:=h H enc w sp held m cs xs hxl hf hw;refine ⟨b,hb, ?_⟩;rw [List.drop_zero,List.take_of_length_le (by omega)] at hc;exact hc
theorem oz {H:Type} {P:Program} {e:TypeId}:∀ {l:List (DataW H)},(DataW.weightsAll P e l).all (· ≤ reachBytes)=true→∀ d ∈ l,(DataW.weights P e d).all (· ≤ reachBytes)=true
 | [],_,d,hd=>by cases hd
 | y :: l,h,d,hd=>by
  simp only [DataW.weightsAll,List.all_append,Bool.and_eq_true] at h;cases hd with
  | head=>exact h.1
  | tail _ hm=>exact oz h.2 d hm
theorem dO {H:Type} {P:Program}:∀ {ts:List TypeId} {ds:List (DataW H)},(DataW.weightsEach P ts ds).all (· ≤ reachBytes)=true→∀ (j:Nat) {t:TypeId} {d:DataW H},ts[j]?=some t→ds[j]?=some d→(DataW.weights P t d).all (· ≤ reachBytes)=true
 | [],_,_,j,t,d,h,_=>by simp at h
 | _ :: _,[],_,j,t,d,_,h=>by simp at h
 | t0 :: ts,d0 :: ds,h,0,t,d,ht,hd=>by
  simp only [DataW.weightsEach,List.all_append,Bool.and_eq_true] at h;simp only [List.getElem?_cons_zero,Option.some.injEq] at ht hd;subst ht;subst hd;exact h.1
 | t0 :: ts,d0 :: ds,h,j+1,t,d,ht,hd=>by
  simp only [DataW.weightsEach,List.all_append,Bool.and_eq_true] at h;exact dO h.2 j (by simpa using ht) (by simpa using hd)
theorem um {α:Type} [Inhabited α] {R:Nat→α→Prop}:∀ (n:Nat),(∀ i,i<n→∃ y,R i y)→∃ l:List α,l.length=n∧∀ i,i<n→R i (l.getD i default)
 | 0,_=>⟨[],rfl,fun i h=>absurd h (Nat.not_lt_zero i)⟩
 | n+1,h=>by
  obtain ⟨l,hl,hr⟩:=um n (fun i hi=>h i (by omega));obtain ⟨y,hy⟩:=h n (by omega);refine ⟨l ++ [y],by simp [hl],fun i hi => ?_⟩;by_cases hc:i<n
  ·rw [pj _ _ _ _ (by omega)];exact hr i hc
  ·obtain rfl:i=n:=by omega
   rw [nO _ _ _ _ (by omega),hl,Nat.sub_self];exact hy
theorem pK {α : Type} [Inhabited α] {P : Program} {t e : TypeId} {sz by8 : Nat} {E : α → List PV} {Ok : α → Prop} (ht : P.underlying t = some (.slice e)) (hs : P.cellsOf e = sz) (hpos : 0 < sz) (hb : P.bytesOf e = by8) (h : qN P e E Ok) :
  qN P t (fun l:List α=>[PV.lst sz l.length (bK E l)]) (fun l=>l.length * by8≤reachBytes∧∀ x ∈ l,Ok x):=by
 intro H enc w sp held fuel cs x hx hw;rcases DataW.trod_slice ht hx with ⟨rfl,rfl⟩|⟨a,len,cap,elems,rest,m,rfl,rfl,rfl,hbase,hle,hcap,hel,hev,_,_⟩
 ·exact ⟨[],⟨by simp,fun x hx=>by cases hx⟩,Cells.one1 rfl ⟨none,0,rfl,Nat.le_refl 0,fun h=>absurd h (Nat.lt_irrefl 0)⟩⟩
 ·simp only [DataW.weights,ht,List.all_cons,List.all_append,Bool.and_eq_true,decide_eq_true_eq,List.length_map,hb] at hw;obtain ⟨hw1,hw2,_⟩:=hw;have hall:=oz hw2;have each:∀ i,i<len→∃ y:α,Ok y∧∃ c,c.length=sz∧(∀ j,j<sz→w.cell? ((a.add (i * sz)).add j)=c[j]?)∧Cells w c (E y):=by
   intro i hi;have:=hev i hi;rw [hs,List.getElem?_eq_getElem (by omega),Option.bind_eq_some_iff] at this;obtain ⟨c,hc,htr⟩:=this;obtain ⟨_,hlen,hcell⟩:=World.cells?_some hc;obtain ⟨y,hy,hcy⟩:=h H enc w sp held m c _ htr (hall _ (List.mem_map_of_mem (List.getElem_mem _)));exact ⟨y,hy,c,hlen,hcell,hcy⟩
  obtain ⟨l,hl,hR⟩:=um len each;refine ⟨l,⟨Nat.le_trans (by rw [hl,← hel];exact Nat.mul_le_mul_right _ (Nat.le_add_right _ _)) hw1,fun y hy => ?_⟩,Cells.one1 rfl ⟨some a,cap,by rw [hl],by rw [hl];exact hle,fun hp => ?_⟩⟩
  ·obtain ⟨i,hi,rfl⟩:=List.getElem_of_mem hy;have:=(hR i (by omega)).1
   rwa [List.getD_eq_getElem?_getD,List.getElem?_eq_getElem hi] at this
  ·rw [hl] at hp;obtain ⟨b,o,sp0⟩:=a;obtain ⟨_,c,hlc,hc,hcc⟩:=hR 0 hp;have h0:=hc 0 hpos;rw [List.getElem?_eq_getElem (by omega)] at h0;have hspot:sp0=none:=by simpa [Addr.add] using World.cell?_spot h0
   subst hspot;refine ⟨b,o,rfl, ?_,fun i hi j hj => ?_⟩
   ·simp only [Nat.zero_mul,Addr.add,if_true] at h0;unfold World.cell? at h0;split at h0
    ·rename_i hh;exact (Array.getElem?_eq_some_iff.1 hh).1
    ·cases h0
   ·rw [hl] at hi;obtain ⟨_,c,hlc,hc,hcc⟩:=hR i hi;have hj':=hc j hj;rw [List.getElem?_eq_getElem (by omega)] at hj';have e1:(Addr.add (Addr.add ⟨b,o,none⟩ (i * sz)) j)=⟨b,o+(i * sz+j),none⟩:=by
     unfold Addr.add;by_cases h1:i * sz=0 <;> by_cases h2:j=0 <;> simp [h1,h2,Nat.add_assoc]
    rw [e1] at hj';have o1:=hcc.one j (by omega);have d1:=hcc.den j (by omega);rw [List.getD_eq_getElem?_getD,List.getElem?_eq_getElem (by omega),Option.getD_some] at o1;rw [List.getD_eq_getElem?_getD (l:=c),List.getElem?_eq_getElem (by omega),Option.getD_some] at d1;exact ⟨_,hj',o1,d1⟩
theorem qN.argN {α : Type} {P : Program} {t : TypeId} {E : α → List PV} {Ok : α → Prop} (h : qN P t E Ok) {H : Type} {enc : TypeId × Value → H} {w : World} {sp : Nat → Bool} {held : Bool} {us : Array Value} {d : DataW H} {ps : List MemPlace}
  (hd:DataW.Trod enc P w 0 sp held t (.agg us) d ps) (hw:(DataW.weights P t d).all (· ≤ reachBytes)=true):∃ a,Ok a∧cq ck (· < w.heap.size) w (.agg ((E a).map CV.p)) (.agg us):=by
 obtain ⟨fuel,hf⟩:=hd;obtain ⟨a,ha,hc⟩:=h H enc w sp held fuel _ _ hf hw;have hlen:us.size=(E a).length:=by have:=hc.len;simpa [Value.cells] using this
 refine ⟨a,ha,us,rfl,by simpa using hlen,fun j hj => ?_,fun j => ?_⟩
 ·have:=hc.one j (by simpa [Value.cells] using hj);simpa [Value.cells] using this
 ·by_cases hj:j<us.size
  ·have h1:=hc.den j (by simpa [Value.cells] using hj);have e1:((E a).map CV.p).getD j .any=CV.p ((E a).getD j .any):=by
    rw [List.getD_eq_getElem?_getD,List.getD_eq_getElem?_getD,List.getElem?_map];cases (E a)[j]? <;> rfl
   rw [e1];simpa [Value.cells,cC] using h1
  ·have e1:((E a).map CV.p).getD j .any=CV.any:=by rw [List.getD_eq_getElem?_getD,List.getElem?_eq_none (by simp;omega)];rfl
   rw [e1];simp [cC,bo]
def Wc:Lit→Value
 | .int k n => .int k n
 | .bool b => .bool b
 | .string s => .string ⟨s.toArray⟩
 | .float k b => .float k b
 | .nil => .nilIface
mutual
def mI {H:Type}:DataW H→List Value
 | .lit l=>[Wc l]
 | .agg parts=>ky parts
 | .nil=>[]
 | .ptr _=>[]
 | .slice _ _=>[]
 | .iface _ _=>[]
 | .map _=>[]
 | .held _=>[]
def ky {H:Type}:List (DataW H)→List Value
 | []=>[]
 | d :: r=>mI d ++ ky r
end
def Lay (H:Type) (P:Program) (t:TypeId) (n:Nat) (d:DataW H):Prop :=
 ∀ (enc:TypeId × Value→H) (w:World) (sp:Nat→Bool) (held:Bool) (fuel:Nat) (cs:List Value) (ps:List MemPlace),DataW.trod enc P w 0 sp held fuel t cs=some (d,ps)→cs=mI d∧cs.length=n
def xk (P:Program) (t:TypeId) (n:Nat):Prop:=P.cellsOf t=n∧∀ (H:Type) (d:DataW H),Lay H P t n d
theorem wy {P:Program} {t:TypeId} {k:IntKind} (ht:P.underlying t=some (.int k)) (hn:P.cellsOf t=1):xk P t 1:=by
 refine ⟨hn,fun H d enc w sp held fuel cs ps h => ?_⟩;obtain ⟨n,rfl,hx,_⟩:=DataW.trod_int ht h;cases hx;exact ⟨rfl,rfl⟩
theorem Dl {P:Program} {t:TypeId} (ht:P.underlying t=some .string) (hn:P.cellsOf t=1):xk P t 1:=by
 refine ⟨hn,fun H d enc w sp held fuel cs ps h => ?_⟩;obtain ⟨s,rfl,hx,_⟩:=DataW.trod_string ht h;cases hx;exact ⟨by simp [mI,Wc],rfl⟩
def Qd (P:Program) (fs:List (TypeId × Nat)) (off n:Nat):Prop :=
 ∀ (H:Type) (enc:TypeId × Value→H) (w:World) (sp:Nat→Bool) (held:Bool) (fuel:Nat) (cs:List Value) (xs:List (DataW H × List MemPlace)),
  xs.length=fs.length→(∀ (i:Nat) (f:TypeId × Nat),fs[i]?=some f→DataW.trod enc P w 0 sp held fuel f.1 ((cs.drop f.2).take (P.cellsOf f.1))=xs[i]?) →
  (cs.drop off).take n=ky (xs.map (·.1))
theorem Nu {P:Program} {off:Nat}:Qd P [] off 0:=by
 intro H enc w sp held fuel cs xs hl _;obtain rfl:xs=[]:=List.length_eq_zero_iff.1 hl;simp [ky]
theorem pg {P:Program} {f:TypeId} {fs:List (TypeId × Nat)} {off k n:Nat} (h:xk P f k) (hl:Qd P fs (off+k) n):Qd P ((f,off) :: fs) off (k+n):=by
 intro H enc w sp held fuel cs xs hlen hx;obtain ⟨y,ys,rfl⟩:∃ y ys,xs=y :: ys:=by
  cases xs with
  | nil=>simp at hlen
  | cons y ys=>exact ⟨y,ys,rfl⟩
 have h0:=hx 0 (f,off) rfl;simp only [h.1] at h0;simp only [List.getElem?_cons_zero] at h0;have e0:=(h.2 H y.1 enc w sp held fuel _ y.2 h0).1;have e1:=hl H enc w sp held fuel cs ys (by simpa using hlen) (fun i g hg=>by have:=hx (i+1) g (by simpa using hg);simpa using this);rw [List.take_add,List.drop_drop,e0,e1];rfl
theorem BQ {P:Program} {t:TypeId} {fs:List (TypeId × Nat)} {n:Nat} (ht:fieldsOf P t=some fs) (hn:P.cellsOf t=n) (h:Qd P fs 0 n):xk P t n:=by
 refine ⟨hn,fun H d enc w sp held fuel cs ps hx => ?_⟩;obtain ⟨xs,m,hd,hlen,hxl,hf,_⟩:=vx ht hx;cases hd;have:=h H enc w sp held m cs xs hxl hf;rw [List.drop_zero,List.take_of_length_le (by omega)] at this;exact ⟨by rw [this];rfl,by omega⟩
theorem Bu {H : Type} {P : Program} {e : TypeId} {k : Nat} (h : xk P e k) {enc : TypeId × Value → H} {w : World} {sp : Nat → Bool} {held : Bool} {fuel : Nat} {cs : List Value} :
  ∀ (m off:Nat) (xs:List (DataW H × List MemPlace)),xs.length=m→(∀ i,i<m→DataW.trod enc P w 0 sp held fuel e ((cs.drop (off+i * k)).take k)=xs[i]?)→(cs.drop off).take (m * k)=ky (xs.map (·.1))
 | 0,off,xs,hl,_=>by
  obtain rfl:xs=[]:=List.length_eq_zero_iff.1 hl;simp [ky]
 | m+1,off,[],hl,_=>by simp at hl
 | m+1,off,y :: ys,hl,hx=>by
  have h0:=hx 0 (by omega);simp only [Nat.zero_mul,Nat.add_zero,List.getElem?_cons_zero] at h0;have e0:=(h.2 H y.1 enc w sp held fuel _ y.2 h0).1
  have e1:=Bu h m (off+k) ys (by simpa using hl) (fun i hi=>by
   have:=hx (i+1) (by omega);rw [show off+(i+1) * k=off+k+i * k by rw [Nat.succ_mul];omega] at this
   simpa using this)
  rw [show (m+1) * k=k+m * k by rw [Nat.succ_mul];omega,List.take_add,List.drop_drop,e0,e1];rfl
theorem Ca {P:Program} {t e:TypeId} {m k n:Nat} (ht:P.underlying t=some (.array m e)) (hn:P.cellsOf t=n) (hm:n=m * k) (h:xk P e k):xk P t n:=by
 refine ⟨hn,fun H d enc w sp held fuel cs ps hx => ?_⟩;cases fuel with
 | zero=>simp [DataW.trod] at hx
 | succ fuel =>
  simp only [DataW.trod,ht,h.1] at hx;split at hx
  ·rename_i hl;obtain ⟨xs,hmm,hxx⟩:=Option.map_eq_some_iff.1 hx;cases hxx;have hxl:xs.length=m:=by simpa using Lib.mapM_length hmm
   have:=Bu (k:=k) h (enc:=enc) (w:=w) (sp:=sp) (held:=held) (fuel:=fuel) (cs:=cs) m 0 xs hxl (fun i hi=>by
    obtain ⟨b,hb,hf⟩:=Lib.mapM_at hmm i i (by simp [hi])
    rw [Nat.zero_add,hf,hb])
   rw [List.drop_zero,List.take_of_length_le (by omega)] at this;exact ⟨by rw [this];rfl,by omega⟩
  ·cases hx
theorem rW {P : Program} {w : World} : ∀ {l : List (String × DataW Unit)} {ps : List MemPlace}, DataW.LaidVars P w l ps → ∀ n d, (n, d) ∈ l →
  ∃ g t cs fuel p,P.globalNamed n=some g∧(P.globals[g]?).map (·.type)=some t∧w.var? P n=some cs∧DataW.trod (fun _=>()) P w 0 (fun _=>true) false fuel t cs.toList=some (d,p)
 | [],_,_,n,d,hm=>by cases hm
 | (n0,d0) :: r,ps,h,n,d,hm=>by
  obtain ⟨g,t,cs,fuel,p,q,h1,h2,h3,h4,h5,_⟩:=h;cases hm with
  | head=>exact ⟨g,t,cs,fuel,p,h1,h2,h3,h4⟩
  | tail _ hm=>exact rW h5 n d hm
theorem xz {P : Program} {w : World} {laid : List (String × DataW Unit)} (h : laidMet P laid w) {n : String} {d : DataW Unit} (hm : (n, d) ∈ laid) {g : Nat} {t : TypeId} {k : Nat} (hg : P.globalNamed n = some g)
  (hty:(P.globals[g]?).map (·.type)=some t) (hl:xk P t k):g<w.heap.size∧∀ j,j<k→w.cell? ⟨g,j,none⟩=(mI d)[j]?:=by
 obtain ⟨ps,hv,_⟩:=h;obtain ⟨g',t',cs,fuel,p,h1,h2,h3,h4⟩:=rW hv n d hm;obtain rfl:g=g':=Option.some.inj (hg.symm.trans h1);obtain rfl:t=t':=Option.some.inj (hty.symm.trans h2);obtain ⟨e1,e2⟩:=hl.2 Unit d _ _ _ _ _ _ _ h4;unfold World.var? at h3;rw [hg,Option.bind_some] at h3;split at h3
 ·rename_i c tt fr hh;cases h3;refine ⟨(Array.getElem?_eq_some_iff.1 hh).1,fun j hj => ?_⟩;unfold World.cell?;simp only [hh,Option.isSome_none];rw [← e1,Array.getElem?_toList];rfl
 ·cases h3
theorem Gk {w : World} {g k : Nat} {d : DataW Unit} {vs : List Value} (h : g < w.heap.size ∧ ∀ j, j < k → w.cell? ⟨g, j, none⟩ = (mI d)[j]?) (hd : mI d = vs) (hk : vs.length = k) (h1 : vs.all Value.oneCell' = true) :
  g<w.heap.size∧∀ j,j<k→∃ x,w.cell? ⟨g,j,none⟩=some x∧x.oneCell'=true∧bo (· < w.heap.size) w ((vs.map PV.val).getD j .any) x:=by
 refine ⟨h.1,fun j hj=>⟨vs[j]'(by omega), ?_, ?_, ?_⟩⟩
 ·rw [h.2 j hj,hd,List.getElem?_eq_getElem]
 ·exact List.all_eq_true.1 h1 _ (List.getElem_mem _)
 ·rw [List.getD_eq_getElem?_getD,List.getElem?_map,List.getElem?_eq_getElem (by omega)];rfl
section
variable {H:Type} {enc:TypeId × Value→H} {P:Program}
theorem mo (hl : laidOutB P = true) {W W' : World} (hb : RowKit.Below W.heap.size W W') {sp : Nat → Bool} : ∀ {ts : List TypeId} {vs : List Value} {ds : List (DataW H)} {ps : List MemPlace},
  (ts.all fun t=>P.readableRec t && decide (t<P.types.size))=true→DataW.TrodAll enc P W 0 (fun _=>true) true ts vs ds ps→(∀ x ∈ ps,x.block<W.heap.size)→(∀ x ∈ ps,sp x.block=true)→DataW.TrodAll enc P W' 0 sp true ts vs ds ps
 | [],[],[],ps,_,h,_,_=>h
 | t :: ts,v :: vs,d :: ds,ps,hr,h,hlt,hsp=>by
  obtain ⟨p,q,h1,h2,rfl⟩:=h;simp only [List.all_cons,Bool.and_eq_true,decide_eq_true_eq] at hr
  exact ⟨p,q,WideElems.Trod_stays hl hr.1.1 hr.1.2 h1 (fun x hx=>hb.same (hlt x (List.mem_append_left _ hx))) (fun x hx=>hsp x (List.mem_append_left _ hx)),
   mo hl hb hr.2 h2 (fun x hx=>hlt x (List.mem_append_right _ hx)) (fun x hx=>hsp x (List.mem_append_right _ hx)),rfl⟩
 | [],_ :: _,_,_,_,h,_,_=>absurd h (by simp [DataW.TrodAll])
 | [],[],_ :: _,_,_,h,_,_=>absurd h (by simp [DataW.TrodAll])
 | _ :: _,[],_,_,_,h,_,_=>absurd h (by simp [DataW.TrodAll])
 | _ :: _,_ :: _,[],_,_,h,_,_=>absurd h (by simp [DataW.TrodAll])
theorem IU {fn : Func} {s : ChangeSpec} {fresh handsOn again : Bool} {W W' : World} {args : Array Value} {ds gs : List (DataW H)} {before : List MemPlace} {tb : TypeId} (hl : laidOutB P = true)
  (hread:(fn.params.toList.all fun t=>P.readableRec t && decide (t<P.types.size))=true) (hrt:fn.resultTypes = #[tb]) (htb:P.underlying tb=some .bool) (hv:s.vars=[])
  (hW:DataW.Whole enc P fn.params.toList s.vars false W args.toList ds gs before) (hs:s.fn H ds = { results:=[.lit (.bool true)],args:=ds }) (hb:RowKit.Below W.heap.size W W') :
  s.post enc P fn false fresh handsOn again W args (.bool true) W':=by
 have hlt:=fun p hp=>hW.lt p hp;have hW0:=hW;obtain ⟨p,q,hA,hV,rfl,hz,hn⟩:=hW0;rw [hv] at hV;obtain ⟨rfl,rfl⟩:=trodVars_none hV;simp only [List.append_nil] at hW hlt hz hn;have hone:(Value.bool true).resultList fn.resultTypes.size=[.bool true]:=by rw [hrt];rfl
 refine ⟨ds,[],p,[],p,[],hW, ?_, ?_, ?_,hb.frame _,fun _=>⟨?_,[.lit (.bool true)] ++ ds,[],p,⟨p,[], ?_, ?_,(List.append_nil p).symm, ?_,fun h=>by cases h⟩,fun x hx _=>hx⟩⟩
 ·rw [List.append_nil,hs,hrt];exact trodAll_mk1 (RowKit.shut_bool htb _)
 ·rw [List.append_nil,hs];exact mo hl hb hread hA hlt (fun x hx=>by simpa using hlt x hx)
 ·rw [List.append_nil,hs,hv];rfl
 ·exact RowKit.ok_one hrt rfl (RowKit.okWide_bool_mk htb _)
 ·have:=trodAll_append (enc:=enc) (P:=P) (w:=W') (base:=0) (spare:=fun _=>true) (held:=true) (mo hl hb hread hA hlt (fun _ _=>rfl)) (ts:=fn.resultTypes.toList) (vs:=(Value.bool true).resultList fn.resultTypes.size) (ds:=[.lit (.bool true)]) (p:=[]) (by rw [hrt];exact trodAll_mk1 (RowKit.shut_bool htb _));exact this
 ·rw [hv];rfl
 ·intro b off hm;have:=hz b off hm;rw [hb.frozen (p:=⟨b,off,none⟩) (hlt _ hm)];exact this
theorem Az {ok:Nat→Prop} {w:World}:∀ j,cq ck ok w (([]:List BV).getD j .any) (([]:List Value).getD j undef):=fun j=>by simp [cq,cC,bo]
theorem gx {ok : Nat → Prop} {w : World} {b : BV} {v : Value} {bs : List BV} {vs : List Value} (h : cq ck ok w b v) (k : ∀ j, cq ck ok w (bs.getD j .any) (vs.getD j undef)) :
  ∀ j,cq ck ok w ((b :: bs).getD j .any) ((v :: vs).getD j undef)
 | 0=>h
 | j+1=>k j
theorem sD {S : Env} {f : FuncId} {fn : Func} {s : ChangeSpec} {bvs : List BV} {fresh handsOn again : Bool} {W : World} {args : Array Value} {ds gs : List (DataW H)} {before : List MemPlace} {tb : TypeId}
  (hp:aA S f bvs (fun r=>r = .b (.c (.p (.val (.bool true)))))) (hl:laidOutB S.P=true) (hread:(fn.params.toList.all fun t=>S.P.readableRec t && decide (t<S.P.types.size))=true)
  (hrt:fn.resultTypes = #[tb]) (htb:S.P.underlying tb=some .bool) (hv:s.vars=[]) (hW:DataW.Whole enc S.P fn.params.toList s.vars false W args.toList ds gs before)
  (hs:s.fn H ds = { results:=[.lit (.bool true)],args:=ds }) (hG:nT S (· < W.heap.size) W) (hn:args.toList.length=bvs.length) (hd:∀ j,cq ck (· < W.heap.size) W (bvs.getD j .any) (args.toList.getD j undef)) :
  Calls S.P f args W fun e W'=>∃ v,e = .returned v∧s.post enc S.P fn false fresh handsOn again W args v W':=by
 have:=hp.2 (· < W.heap.size) W args (fun _ h=>h) hG (by simpa using hn) (fun j=>by have:=hd j;rwa [show args.toList.getD j undef=args.getD j undef by simp [List.getD_eq_getElem?_getD,Array.getD_eq_getD_getElem?]] at this);refine this.mono fun e W' h => ?_;obtain ⟨v,r,he,hr,_,hb,hdn⟩:=h;subst hr;obtain rfl:v = .bool true:=hdn;exact ⟨_,he,IU hl hread hrt htb hv hW hs hb⟩
theorem iE {α : Type} {t : TypeId} {E : α → List PV} {Ok : α → Prop} (C : qN P t E Ok) (ht : (fieldsOf P t).isSome = true) {W : World} {r : Reach} {b0 : Nat} {v : Value} {d : DataW H} {ps : List MemPlace} {sp : Nat → Bool} {held : Bool}
  (hval:Value.okWide P W r b0 t v) (hd:DataW.Trod enc P W 0 sp held t v d ps) (hw:(DataW.weights P t d).all (· ≤ reachBytes)=true):∃ a,Ok a∧cq ck (· < W.heap.size) W (.agg ((E a).map CV.p)) v:=by
 unfold fieldsOf at ht;unfold Value.okWide at hval;split at ht
 ·rename_i fs hu;rw [hu] at hval;obtain ⟨cs,rfl,_⟩:=hval;exact C.argN hd hw
 ·rename_i m e hu;rw [hu] at hval;obtain ⟨cs,rfl,_⟩:=hval;exact C.argN hd hw
 ·cases ht
theorem vh {t : TypeId} {k : IntKind} (ht : P.underlying t = some (.int k)) {W : World} {r : Reach} {b0 : Nat} {v : Value} {d : DataW H} {ps : List MemPlace} {sp : Nat → Bool} {held : Bool}
  (hval:Value.okWide P W r b0 t v) (hd:DataW.Trod enc P W 0 sp held t v d ps):∃ n,(Lit.int k n).wf=true∧cq ck (· < W.heap.size) W (.c (.p (.val (.int k n)))) v:=by
 obtain ⟨n,rfl,_,_,hw⟩:=open_int ht hval hd;exact ⟨n,hw,rfl⟩
end
end Go.SL
namespace Go.Proofs.YtcbifofjjpfbcaaGreatDoor
open Go Go.SL
open Go.RowKit (wrap64)
theorem XP:xk Tryz.prog 239 13:=Ca (e:=9) (m:=13) (k:=1) (by kernel_rfl) (by kernel_rfl) (by rfl) (Dl (t:=9) (by kernel_rfl) (by kernel_rfl))
def gx0:List Value:=[.string ⟨#[]⟩, .string ⟨#[110,111,114,109,97,108]⟩, .string ⟨#[109,117,108,116,105,112,108,121]⟩, .string ⟨#[115,99,114,101,101,110]⟩, .string ⟨#[111,118,101,114,108,97,121]⟩, .string ⟨#[100,97,114,107,101,110]⟩, .string ⟨#[108,105,103,104,116,101,110]⟩, .string ⟨#[99,111,108,111,114,45,100,111,100,103,101]⟩, .string ⟨#[99,111,108,111,114,45,98,117,114,110]⟩, .string ⟨#[104,97,114,100,45,108,105,103,104,116]⟩, .string ⟨#[115,111,102,116,45,108,105,103,104,116]⟩, .string ⟨#[100,105,102,102,101,114,101,110,99,101]⟩, .string ⟨#[101,120,99,108,117,115,105,111,110]⟩]
theorem Zv:g0=gx0.map PV.val:=rfl
theorem ZX {laid:List (String × DataW Unit)} {W:World} (h:laidMet Tryz.prog laid W) (hm:∃ n,(n,Rows.laid_compositor_blend_names) ∈ laid∧Tryz.prog.globalNamed n=some 0):0<W.heap.size∧∀ j,j<13→∃ x,W.cell? ⟨0,j,none⟩=some x∧x.oneCell'=true∧bo (· < W.heap.size) W (g0.getD j .any) x:=by
 rw [Zv];obtain ⟨n,hm,hn⟩:=hm;exact Gk (vs:=gx0) (xz h hm (g:=0) (t:=239) hn (by kernel_rfl) XP) (by kernel_rfl) rfl (by kernel_rfl)
theorem Wp:xk Tryz.prog 236 4:=BQ (fs:=[(9,0),(3,1),(3,2),(3,3)]) (by kernel_rfl) (by kernel_rfl) (pg (Dl (t:=9) (by kernel_rfl) (by kernel_rfl)) (pg (wy (t:=3) (k := .i64) (by kernel_rfl) (by kernel_rfl)) (pg (wy (t:=3) (k := .i64) (by kernel_rfl) (by kernel_rfl)) (pg (wy (t:=3) (k := .i64) (by kernel_rfl) (by kernel_rfl)) (Nu)))))
theorem Xb:xk Tryz.prog 246 52:=Ca (e:=236) (m:=13) (k:=4) (by kernel_rfl) (by kernel_rfl) (by rfl) (Wp)
def gx1:List Value:=[.string ⟨#[]⟩, .int .i64 0, .int .i64 0, .int .i64 0, .string ⟨#[99,108,101,97,114]⟩, .int .i64 0, .int .i64 0, .int .i64 0, .string ⟨#[115,114,99]⟩, .int .i64 1, .int .i64 0, .int .i64 1, .string ⟨#[100,115,116]⟩, .int .i64 0, .int .i64 1, .int .i64 2, .string ⟨#[115,114,99,45,111,118,101,114]⟩, .int .i64 1, .int .i64 3, .int .i64 3, .string ⟨#[100,115,116,45,111,118,101,114]⟩, .int .i64 3, .int .i64 1, .int .i64 3, .string ⟨#[115,114,99,45,105,110]⟩, .int .i64 2, .int .i64 0, .int .i64 4, .string ⟨#[100,115,116,45,105,110]⟩, .int .i64 0, .int .i64 2, .int .i64 4, .string ⟨#[115,114,99,45,111,117,116]⟩, .int .i64 3, .int .i64 0, .int .i64 1, .string ⟨#[100,115,116,45,111,117,116]⟩, .int .i64 0, .int .i64 3, .int .i64 2, .string ⟨#[115,114,99,45,97,116,111,112]⟩, .int .i64 2, .int .i64 3, .int .i64 2, .string ⟨#[100,115,116,45,97,116,111,112]⟩, .int .i64 3, .int .i64 2, .int .i64 1, .string ⟨#[120,111,114]⟩, .int .i64 3, .int .i64 3, .int .i64 3]
theorem Zh:g1=gx1.map PV.val:=rfl
theorem YA {laid:List (String × DataW Unit)} {W:World} (h:laidMet Tryz.prog laid W) (hm:∃ n,(n,Rows.laid_compositor_operator_rules) ∈ laid∧Tryz.prog.globalNamed n=some 1):1<W.heap.size∧∀ j,j<52→∃ x,W.cell? ⟨1,j,none⟩=some x∧x.oneCell'=true∧bo (· < W.heap.size) W (g1.getD j .any) x:=by
 rw [Zh];obtain ⟨n,hm,hn⟩:=hm;exact Gk (vs:=gx1) (xz h hm (g:=1) (t:=246) hn (by kernel_rfl) Xb) (by kernel_rfl) rfl (by kernel_rfl)
theorem glOk {laid:List (String × DataW Unit)} {W:World} (h:laidMet Tryz.prog laid W) (h0:∃ n,(n,Rows.laid_compositor_blend_names) ∈ laid∧Tryz.prog.globalNamed n=some 0:=by first|exact ⟨_, .head _,by kernel_rfl⟩|exact ⟨_, .tail _ (.head _),by kernel_rfl⟩|exact ⟨_, .tail _ (.tail _ (.head _)),by kernel_rfl⟩|exact ⟨_, .tail _ (.tail _ (.tail _ (.head _))),by kernel_rfl⟩) (h1:∃ n,(n,Rows.laid_compositor_operator_rules) ∈ laid∧Tryz.prog.globalNamed n=some 1:=by first|exact ⟨_, .head _,by kernel_rfl⟩|exact ⟨_, .tail _ (.head _),by kernel_rfl⟩|exact ⟨_, .tail _ (.tail _ (.head _)),by kernel_rfl⟩|exact ⟨_, .tail _ (.tail _ (.tail _ (.head _))),by kernel_rfl⟩):nT Sg (· < W.heap.size) W:=by
 intro g n f hg;have hg:SK g=some (n,f):=hg;unfold SK at hg;split at hg
 ·rename_i e;subst e;cases hg;exact ZX h h0
 split at hg
 ·rename_i e;subst e;cases hg;exact YA h h1
 cases hg
noncomputable def gM (os : Os) : World := { World.holding Tryz.prog os ⟨#[], #[], []⟩ with heap := (((((World.holding Tryz.prog os ⟨#[], #[], []⟩).heap).modify 0 fun
   | .cells _ t fr => .cells #[.string ⟨#[]⟩, .string ⟨#[110,111,114,109,97,108]⟩, .string ⟨#[109,117,108,116,105,112,108,121]⟩, .string ⟨#[115,99,114,101,101,110]⟩, .string ⟨#[111,118,101,114,108,97,121]⟩, .string ⟨#[100,97,114,107,101,110]⟩, .string ⟨#[108,105,103,104,116,101,110]⟩, .string ⟨#[99,111,108,111,114,45,100,111,100,103,101]⟩, .string ⟨#[99,111,108,111,114,45,98,117,114,110]⟩, .string ⟨#[104,97,114,100,45,108,105,103,104,116]⟩, .string ⟨#[115,111,102,116,45,108,105,103,104,116]⟩, .string ⟨#[100,105,102,102,101,114,101,110,99,101]⟩, .string ⟨#[101,120,99,108,117,115,105,111,110]⟩] t fr
   | o=>o)).modify 1 fun
   | .cells _ t fr => .cells #[.string ⟨#[]⟩, .int .i64 0, .int .i64 0, .int .i64 0, .string ⟨#[99,108,101,97,114]⟩, .int .i64 0, .int .i64 0, .int .i64 0, .string ⟨#[115,114,99]⟩, .int .i64 1, .int .i64 0, .int .i64 1, .string ⟨#[100,115,116]⟩, .int .i64 0, .int .i64 1, .int .i64 2, .string ⟨#[115,114,99,45,111,118,101,114]⟩, .int .i64 1, .int .i64 3, .int .i64 3, .string ⟨#[100,115,116,45,111,118,101,114]⟩, .int .i64 3, .int .i64 1, .int .i64 3, .string ⟨#[115,114,99,45,105,110]⟩, .int .i64 2, .int .i64 0, .int .i64 4, .string ⟨#[100,115,116,45,105,110]⟩, .int .i64 0, .int .i64 2, .int .i64 4, .string ⟨#[115,114,99,45,111,117,116]⟩, .int .i64 3, .int .i64 0, .int .i64 1, .string ⟨#[100,115,116,45,111,117,116]⟩, .int .i64 0, .int .i64 3, .int .i64 2, .string ⟨#[115,114,99,45,97,116,111,112]⟩, .int .i64 2, .int .i64 3, .int .i64 2, .string ⟨#[100,115,116,45,97,116,111,112]⟩, .int .i64 3, .int .i64 2, .int .i64 1, .string ⟨#[120,111,114]⟩, .int .i64 3, .int .i64 3, .int .i64 3] t fr
   | o=>o) }
theorem UX {n:Int} (h:(Lit.int .i64 n).wf=true):i64 n:=bounds_i64 h
theorem wZ {α:Type} [Inhabited α] {p:α→Prop} {l:List α} (h:∀ x ∈ l,p x) (i:Nat) (hi:i<l.length):p (l.getD i default):=by
 rw [List.getD_eq_getElem?_getD,List.getElem?_eq_getElem hi];exact h _ (List.getElem_mem _)
theorem zL {n b:Nat} (hb:0<b) (h:n * b≤reachBytes):n≤4611686018427387904:=by
 have:n≤n * b:=Nat.le_mul_of_pos_right _ hb;have e:reachBytes=140737488351232:=rfl;omega
theorem dH:qN Sg.P 3 (fun n=>[PI n]) i64:=(Rm (k := .i64) (by kernel_rfl)).to id (fun _=>rfl) (fun _ h=>UX h)
theorem UB:qN Sg.P 22 (fun l=>[eI l]) (fun l=>l.length≤4611686018427387904∧∀ x ∈ l,i64 x) :=
 (pK (sz:=1) (by8:=8) (by kernel_rfl) (by kernel_rfl) (by decide) (by kernel_rfl) dH).to id (fun _=>rfl) (fun _ h=>⟨zL (by decide) h.1,h.2⟩)
theorem WU:qN Sg.P 88 NU RawOk:=by
 refine qN.to (iy ?_ ?_ (aV dH rfl (aV dH rfl (aV dH rfl (aV dH rfl (aV dH rfl (aV dH rfl (aV dH rfl (aV dH rfl (aV dH rfl (aV dH rfl (aV dH rfl kX))))))))))))
  (fun (a,b,c,d,e,f,g,h,i,j,k,_)=>(⟨a,b,c,d,e,f,g,h,i,j,k⟩:Raw)) (fun _=>rfl) ?_
 ·kernel_rfl
 ·kernel_rfl
 ·rintro _ ⟨h1,h2,h3,h4,h5,h6,h7,h8,h9,h10,h11,_⟩;exact ⟨h1,h2,h3,h4,h5,h6,h7,h8,h9,h10,h11⟩
theorem ZF:qN Sg.P 132 Yq N5ok:=by
 refine qN.to (iy ?_ ?_ (aV dH rfl (aV dH rfl (aV dH rfl (aV dH rfl (aV dH rfl kX)))))) (fun (a,b,c,d,e,_)=>(⟨a,b,c,d,e⟩:N5)) (fun _=>rfl) ?_
 ·kernel_rfl
 ·kernel_rfl
 ·rintro _ ⟨h1,h2,h3,h4,h5,_⟩;exact ⟨h1,h2,h3,h4,h5⟩
theorem WZ:qN Sg.P 81 (fun l=>[Yn l]) (fun l=>l.length≤4611686018427387904∧∀ x ∈ l,N5ok x) :=
 (pK (sz:=5) (by8:=40) (by kernel_rfl) (by kernel_rfl) (by decide) (by kernel_rfl) ZF).to id (fun _=>rfl) (fun _ h=>⟨zL (by decide) h.1,h.2⟩)
theorem VU:qN Sg.P 83 NY RowOk:=by
 refine qN.to (iy ?_ ?_ (aV dH rfl (aV WZ rfl kX))) (fun (a,b,_)=>(⟨a,b⟩:Row)) (fun _=>rfl) ?_
 ·kernel_rfl
 ·kernel_rfl
 ·rintro _ ⟨h1,h2,_⟩;exact ⟨h1,wZ h2.2,h2.1⟩
theorem Ya:qN Sg.P 85 Km PicOk:=by
 refine qN.to (iy ?_ ?_ (aV dH rfl (aV dH rfl (aV dH rfl (aV VU rfl kX))))) (fun (a,b,c,d,_)=>(⟨a,b,c,d⟩:Pic)) (fun _=>rfl) ?_
 ·kernel_rfl
 ·kernel_rfl
 ·rintro _ ⟨h1,h2,h3,h4,_⟩;exact ⟨h1,h2,h3,h4⟩
theorem Tf:qN Sg.P 23 (fun l=>[Vs l]) (fun l=>l.length≤4611686018427387904∧∀ x ∈ l,PicOk x) :=
 (pK (sz:=5) (by8:=56) (by kernel_rfl) (by kernel_rfl) (by decide) (by kernel_rfl) Ya).to id (fun _=>rfl) (fun _ h=>⟨zL (by decide) h.1,h.2⟩)
theorem Ul:qN Sg.P 24 (fun l=>[Uo l]) (fun l=>l.length≤4611686018427387904∧∀ x ∈ l,RawOk x) :=
 (pK (sz:=11) (by8:=88) (by kernel_rfl) (by kernel_rfl) (by decide) (by kernel_rfl) WU).to id (fun _=>rfl) (fun _ h=>⟨zL (by decide) h.1,h.2⟩)
theorem Bm:qN Sg.P 26 fi SceneOk:=by
 refine qN.to (iy ?_ ?_ (aV dH rfl (aV dH rfl (aV dH rfl (aV dH rfl (aV dH rfl (aV dH rfl (aV dH rfl (aV UB rfl (aV Tf rfl (aV Ul rfl kX)))))))))))
  (fun (a,b,c,d,e,f,g,h,i,j,_)=>(⟨a,b,c,d,e,f,g,h,i,j⟩:Scene)) (fun _=>rfl) ?_
 ·kernel_rfl
 ·kernel_rfl
 ·rintro _ ⟨h1,h2,h3,h4,h5,h6,h7,h8,h9,h10,_⟩;exact ⟨h1,h2,h3,h4,h5,h6,h7,h8.1,h9.1,h10.1,wZ h9.2,wZ h10.2⟩
section
def Ez (r:Rect) (x y:Int):Prop:=aP r=false∧ic r x y
theorem IN {r q:Rect} {x y:Int} (h:¬ Ez (fF r q) x y):¬ Ez r x y∨¬ Ez q x y:=by grind [Ez,fF,rq]
theorem KK {l:List Rect} {x y:Int} (h:¬ Ez (dZ l) x y):∀ r ∈ l,¬ Ez r x y:=fun r hr ⟨h1,h2⟩=>by
 obtain ⟨a,b,c,d,e⟩:=PD hr h1;refine h ⟨a, ?_⟩;grind [ic]
theorem Ml {e:Nat→Nat} {b:Nat}:∀ {l:List Nat} {a:Nat},Nw e a b l→(∀ k ∈ l,k≤e k)→a≤b
 | [],a,h,_=>Nat.le_of_eq h
 | k :: l,a,⟨h1,h2⟩,h3=>by
  have:=Ml h2 fun j hj=>h3 j (List.mem_cons_of_mem _ hj);grind
section
variable {s:Script} {m x y:Int}
theorem De (C : Pt s m x y) {b : Nat} (hb : b ≤ s.ops.length) : ∀ (l : List Nat) (a : Nat), Nw (aN s.ops) a b l →
  (∀ k ∈ l,k<b∧(aB s.ops k).kind≠3∧∀ t r,At s m k (t :: r)→mb m (cY s x y) (ng s.ops k (aN s.ops k+1)) t.op.knockout t.acc t.back=t.acc) →
  ∀ t r,At s m a (t :: r)→mb m (cY s x y) (ng s.ops a b) t.op.knockout t.acc t.back=t.acc
 | [],a,h,_,t,r,_=>by
  obtain rfl:a=b:=h;rw [AO];rfl
 | k :: l,a,⟨h1,h2⟩,h3,t,r,ha=>by
  subst h1;obtain ⟨q1,q2,q3⟩:=h3 a (List.mem_cons_self ..);have W:=C.V.wf;have hle:=Ml h2 fun j hj=>uW W (Nat.lt_of_lt_of_le (h3 j (List.mem_cons_of_mem _ hj)).1 hb);have hge:=uW W (Nat.lt_of_lt_of_le q1 hb);have h4:=JV C ha (show a≤aN s.ops a+1 by omega) (by omega);rw [DC C (by omega) q2,q3 t r ha] at h4;have:=De C hb l _ h2 (fun j hj=>h3 j (List.mem_cons_of_mem _ hj)) t r h4;grind [ng,aN,qQ,QL,Kc]
theorem GF (C : Pt s m x y) {i : Nat} (hi : i < s.ops.length) (hk : (aB s.ops i).kind ≠ 3) {R : Rect} (hb : ¬ Ez (gZ s (aB s.ops i) R) x y) {t : Lv} {r : List Lv} (h : At s m i (t :: r))
  (hR:¬ Ez R x y→Hp s m x y i t.op.knockout t.acc t.back=bQ):mb m (cY s x y) (ng s.ops i (aN s.ops i+1)) t.op.knockout t.acc t.back=t.acc:=by
 unfold gZ at hb;cases hn:du (aB s.ops i).operator with
 | false =>
  rw [hn,if_pos rfl] at hb;exact absurd ⟨C.c,C.xy⟩ hb
 | true =>
  refine Ap C hi hk hn h ?_;rw [hn,if_neg (by decide)] at hb;by_cases h0:(aB s.ops i).opacity=0
  ·exact Fl C.hm h0
  rw [if_neg h0] at hb;rcases IN hb with q|q
  ·rw [hR q];exact BE C.hm
  ·by_cases hm0:(aB s.ops i).mask=0
   ·rw [cr,if_pos hm0] at q;exact absurd ((rq C.c C.c).2 ⟨C.xy,C.xy⟩) q
   ·rw [(Qb C hi hk hm0).2 q];exact CI C.hm hm0
theorem Gm (C : Pt s m x y) : ∀ (d i : Nat), s.ops.length - i ≤ d → i < s.ops.length → (aB s.ops i).kind ≠ 3 → ¬ Ez (bp s i) x y → ∀ t r, At s m i (t :: r) →
  mb m (cY s x y) (ng s.ops i (aN s.ops i+1)) t.op.knockout t.acc t.back=t.acc
 | 0,i,hd,hi,_,_,_,_,_=>absurd hi (by omega)
 | d+1,i,hd,hi,hk,hb,t,r,h=>by
  have W:=C.V.wf;rcases W.kinds i hi with h1|h2|h3
  ·rw [xg W hi h1] at hb;refine GF C hi hk hb h fun q => ?_;rw [Hp,if_pos h1];exact (MM C hi h1).2 q
  ·obtain ⟨l,q1,q2,q3⟩:=BJ W hi h2;rw [q3] at hb;refine GF C hi hk hb h fun q => ?_;rw [Hp,if_neg (by omega)];have hel:=iu W hi;have ho:=KK q;have hin:=Wn C hi h2 h;have key:∀ k ∈ l,k<aN s.ops i∧(aB s.ops k).kind≠3∧∀ t r,At s m k (t :: r)→mb m (cY s x y) (ng s.ops k (aN s.ops k+1)) t.op.knockout t.acc t.back=t.acc:=fun k hk=>by
    obtain ⟨⟨k1,k2⟩,k3⟩:=q2 k hk;exact ⟨k2,k3,Gm C d k (by omega) (by omega) k3 (ho _ (List.mem_map_of_mem hk))⟩
   have:=De C (Nat.le_of_lt hel) l _ q1 key _ _ hin;have e:mb m (cY s x y) (ng s.ops (i+1) (aN s.ops i)) (aB s.ops i).knockout (oU (eA (aB s.ops i).isolated t.op.knockout t.acc t.back)) (eA (aB s.ops i).isolated t.op.knockout t.acc t.back)=oU (eA (aB s.ops i).isolated t.op.knockout t.acc t.back):=this;rw [NT,e];exact RB (z:=cY s x y) (ko:=false)
  omega
theorem QF (C:Pt s m x y) {i:Nat} (hi:i<s.ops.length) (hk:(aB s.ops i).kind≠3) (hb:¬ Ez (bp s i) x y):jP m (cY s x y) s.ops (aN s.ops i+1)=jP m (cY s x y) s.ops i:=by
 obtain ⟨t,r,e⟩:=(EW C i (by omega)).ne;have ha:=EW C i (by omega);rw [e] at ha;have hge:=uW C.V.wf hi;have h1:jP m (cY s x y) s.ops (aN s.ops i+1)=mJ m (cY s x y) (ng s.ops i (aN s.ops i+1)) (jP m (cY s x y) s.ops i):=by
  unfold jP;rw [← pB];congr 1;have:=qQ (ops:=s.ops) (show 0≤i by omega) (show i≤aN s.ops i+1 by omega);exact this
 rw [h1,e,DC C hi hk,Gm C _ i (Nat.le_refl _) hi hk hb t r ha]
open Classical in
end
structure Twin (s t:Script):Prop where
 im:s.images=t.images
 c:s.canvas=t.canvas
theorem Twin.box {s t:Script} (T:Twin s t) (o:Op) (r:Rect):gZ s o r=gZ t o r:=by
 unfold gZ cr eC;rw [T.im,T.c]
theorem Twin.img {s t:Script} (T:Twin s t) (o:Op):bB s o=bB t o:=by
 unfold bB eC;rw [T.im,T.c]
section
variable {s t:Script} {x y:Int} {p q:Nat}
structure Ends (s t:Script) (x y:Int) (p q:Nat):Prop where
 T:Twin s t
 W:Wf s.ops
 U:Wf t.ops
 ls:p+q≤s.ops.length
 lt:p+q≤t.ops.length
 pre:∀ i,i<p→aB s.ops i=aB t.ops i
 suf:∀ k,k<q→aB s.ops (s.ops.length - q+k)=aB t.ops (t.ops.length - q+k)
 os:∀ g,(p≤g∧g<s.ops.length - q∨g ∈ bZ s.ops p)→¬ Ez (bp s g) x y
 ot:∀ g,(p≤g∧g<t.ops.length - q∨g ∈ bZ t.ops p)→¬ Ez (bp t g) x y
theorem Ends.symm (E:Ends s t x y p q):Ends t s x y p q:=⟨⟨E.T.im.symm,E.T.c.symm⟩,E.U,E.W,E.lt,E.ls,fun i h=>(E.pre i h).symm,fun k h=>(E.suf k h).symm,E.ot,E.os⟩
end
end
section
attribute [local go_sem] Int.toNat_natCast
theorem vF {ops:List Op} (W:Wf ops) {k:Nat} (hk:k<ops.length):k≤aN ops k:=by
 rcases W.kinds k hk with h|h|h
 ·rw [iH W hk h];exact Nat.le_refl _
 ·exact Nat.le_of_lt (jt W hk h)
 ·rw [zB W hk h];exact Nat.le_refl _
end
section
attribute [local go_sem] Int.toNat_natCast
theorem Ob {r:Nat→Option Nat} {bx bx':Nat→Option Bx} {f f':Nat} {ps ps':List (Nat × Nat)}:Bq r bx bx' (.clo f ps) (.clo f' ps')=(f=f'∧ps.map (·.2)=ps'.map (·.2)∧ps'.map (fun p=>r p.1)=ps.map (fun p=>some p.1)):=rfl
attribute [local go_sem] Ob
end
section
def Zk (c r:Rect):Prop:=aP r=true∨(c.x0≤r.x0∧c.y0≤r.y0∧r.x1≤c.x1∧r.y1≤c.y1)
section
variable {s:Script} {m x y:Int}
end
end
section
attribute [local go_sem] Int.toNat_natCast
def zS:List CV:=[CV.p (PI 0),CV.p (PI 0),CV.p (PI 0),CV.p (PI 0),CV.p (PI 0),CV.p (PI 0),CV.p (PI 0),CV.p EI,CV.p EI,CV.p EI]
def tS (s:Script) (m:Nat):List CV:=[CV.p (PI s.bits),CV.p (PI s.canvas.x0),CV.p (PI s.canvas.y0),CV.p (PI s.canvas.x1),CV.p (PI s.canvas.y1),CV.p (PI s.tileW),CV.p (PI s.tileH),CV.p (eI s.order),CV.p (tx s.images),CV.own 3 m]
attribute [local go_sem] zS tS
end
theorem RQ {t:Script} (hf:bL t=0) (hk:lh t.bits t.images.length t.ops []) (ho:cI t.ops []=[]):kt t=(0,0):=by grind [kt,gI,xo]
theorem KG (n:N5) {m:Int} (h:0≤m):PixV (vq n m) m:=by
 have f1:=fO n.e m h;have a1:=fO (n.d.tdiv 3) (de n.e m) f1.1;have key:∀ a,0≤a→a≤de n.e m→PixV ⟨de n.a a,de n.b a,de n.c a,a,de n.e m⟩ m:=fun a h1 h2=>by
  have c0:=fO n.a a h1;have c1:=fO n.b a h1;have c2:=fO n.c a h1;exact ⟨c0.1,c1.1,c2.1,c0.2,c1.2,c2.2,h2,f1.2⟩
 grind [vq]
theorem Ua (r:Row) (i:Nat) {m:Int} (h:0≤m):PixV (rX r m i) m:=by
 have hb:∀ i,PixV (qY r m i) m:=fun i=>by grind [qY,KG]
 unfold rX;split
 ·exact ⟨Int.le_refl _,Int.le_refl _,Int.le_refl _,Int.le_refl _,Int.le_refl _,Int.le_refl _,Int.le_refl _,h⟩
 split
 ·obtain ⟨a,b,c,d,e,f,g,k⟩:=hb i;exact ⟨a,b,c,by grind,by grind,by grind,Int.le_refl _,Int.le_refl _⟩
 grind
theorem AN {w h:Int} {p:Pixel} (hf:cK w h=true):bd (kr w h p)=true:=by
 unfold bd;rw [show (kr w h p).w=w from rfl,show (kr w h p).h=h from rfl,hf];rfl
theorem xt {w h m:Int} {p:Pixel} (hf:cK w h=true) (hp:PixV p m):ImgV (kr w h p) m:=⟨AN hf,fun x y _ _ _ _=>hp⟩
theorem zl {w h:Int} {l:List Pixel} (hf:cK w h=true) (hl:(l.length:Int)=w * h):bd (gQ w h l)=true:=by
 obtain ⟨b1,b2,b3,b4,b5,b6⟩:=dB hf;have e:(h - 1) * w+w=w * h:=by rw [Int.sub_mul,Int.one_mul,Int.mul_comm h w];omega
 have hk:∀ k,aL (gQ w h l) (cF w h l k)=true:=fun k=>by grind [aL,gQ,cF,cW,cK]
 grind [bd,gQ,aL,bQ,cF]
theorem LU {w h:Int} {l:List Pixel} {x y:Int} (hl:(l.length:Int)=w * h) (hx:0≤x) (hxw:x<w) (hy:0≤y) (hyh:y<h):(y * w+x).toNat<l.length∧eZ (gQ w h l) x y=l.getD (y * w+x).toNat default:=by
 have e1:0≤y * w:=ao hy (by omega);have e2:y * w≤(h - 1) * w:=az (by omega) (Int.le_refl _) (by omega) (by omega);have e:(h - 1) * w+w=w * h:=by rw [Int.sub_mul,Int.one_mul,Int.mul_comm h w];omega
 have hi:(y * w+x).toNat<l.length:=by omega
 refine ⟨hi, ?_⟩;unfold eZ;rw [if_neg (by grind [gQ])];have key:∀ k,(cF w h l k).s.getD (y * w+x).toNat 0=uB k (l.getD (y * w+x).toNat default):=fun k=>by grind [cF]
 show (⟨(cF w h l 0).s.getD (y * w+x).toNat 0,(cF w h l 1).s.getD (y * w+x).toNat 0,(cF w h l 2).s.getD (y * w+x).toNat 0,(cF w h l 3).s.getD (y * w+x).toNat 0,(cF w h l 4).s.getD (y * w+x).toNat 0⟩:Pixel)=_;rw [key,key,key,key,key];rfl
theorem GU {w h m:Int} {l:List Pixel} (hf:cK w h=true) (hl:(l.length:Int)=w * h) (hp:∀ p ∈ l,PixV p m):ImgV (gQ w h l) m:=by
 refine ⟨zl hf hl,fun x y h1 h2 h3 h4 => ?_⟩;obtain ⟨hi,e⟩:=LU hl h1 h2 h3 h4;grind
theorem Tv {p:Pic} {c:Rect} {m:Int} (hc:Small c) (hm:0≤m):ImgV (jd p c m) m:=by
 have hl:=Lp (p:=p) hc;have hlen:(cV p.row (gW p c * gH p c).toNat m).length=(gW p c * gH p c).toNat:=by simp [cV]
 have hok:=mK (w:=gW p c) (h:=gH p c) ⟨hl.1,hl.2.1⟩ ⟨hl.2.2.1,hl.2.2.2.1⟩ hlen;have hf:cK (gW p c) (gH p c)=true:=by
  unfold cZ at hok;rw [Bool.and_eq_true] at hok;exact hok.1
 grind [jd,rX,cV,GU,Ua,xt]
structure Of (c:Scene) (s:Script):Prop where
 b:s.bits=(ay c).bits
 cv:s.canvas=ar c
 w:s.tileW=cd c
 h:s.tileH=cc c
 o:s.order=(ay c).order
 n1:1≤s.images.length
 n2:s.images.length≤6
 im:nQ s
 V:VOps s
 op:∀ o ∈ s.ops,0≤o.opacity
theorem Of.mx {c:Scene} {s:Script} (h:Of c s):bg s.bits=cl c.bits:=by rw [h.b];exact Ao c
theorem Am (c:Scene):Full (cl c.bits):=⟨by grind [cl,nw]⟩
theorem Of.pt {c:Scene} {s:Script} (h:Of c s) {x y:Int} (hx:ic (ar c) x y):Pt s (cl c.bits) x y :=
 ⟨h.V,Am c,h.mx,h.im,h.op,by rw [h.cv];exact lM (cJ c),by rw [h.cv];exact hx⟩
theorem Te (c:Scene):nQ (ay c):=by
 intro i h0 h1;rw [Ao];have hm:0≤cl c.bits:=by have:=nw c.bits;omega
 have hmem:gV (ay c) i ∈ aO c:=by
  have hi:i.toNat<(aO c).length:=by
   have h1:i<((aO c).length:Int):=h1;omega
  show (aO c).getD i.toNat default ∈ aO c;rw [List.getD_eq_getElem?_getD,List.getElem?_eq_getElem hi];exact List.getElem_mem _
 generalize gV (ay c) i=q at hmem;have hs:=cJ c;unfold aO at hmem;split at hmem
 ·rw [List.mem_singleton.1 hmem];refine xt ?_ ⟨hm,Int.le_refl _,Int.le_refl _,Int.le_refl _,hm,hm,Int.le_refl _,Int.le_refl _⟩;have:=mK (w:=1+c.w % 5) (h:=1+c.h % 4) (n:=((1+c.w % 5) * (1+c.h % 4)).toNat) (by omega) (by omega) rfl;unfold cZ at this;grind
 ·unfold aX at hmem;grind [Tv]
theorem UZ (c:Scene):Of c (ay c):=by
 have hi:=qt c;have hg:=sm c;refine ⟨rfl,rfl,rfl,rfl,rfl,hi.1,Nat.le_trans hi.2 (by decide),Te c,Gq ?_,fun o ho=>(hg.tame o ho).op.1⟩;rw [RQ (Nr rfl rfl rfl rfl rfl (tB c) (Nat.le_trans (CS c) (by decide))) hg.ok hg.op]
theorem pd (m:Image) (x y dx dy:Int):gr m x y dx dy=cU m (x - dx) (y - dy):=by
 unfold gr;split
 ·rename_i h;unfold cU;cases hf:bd m with
  | false=>rw [if_pos (.inl rfl)]
  | true =>
   obtain ⟨a,b,c,d⟩:=kO hf;rw [if_pos (by omega)]
 ·rfl
section
section
variable {s:Script} {m:Int}
def fT (s:Script) (r:Rect) (i:Nat):Bool := !aP (fF (bp s i) r)
def gn (s:Script) (r:Rect) (i:Nat):Bool:=fT s r i && (bZ s.ops i).all (fT s r)
theorem MO {r:Rect} {i:Nat} {x y:Int} (hr:aP r=false) (hxy:ic r x y) (h:fT s r i=false):¬ Ez (bp s i) x y:=fun ⟨h1,h2⟩=>by
 unfold fT at h;have:=((rq h1 hr).2 ⟨h2,hxy⟩).1;rw [this] at h;cases h
theorem Mz (W:Wf s.ops) {r:Rect} {i j:Nat} (hi:i<s.ops.length) (hk:(aB s.ops i).kind=2) (h:fT s r i=false) (h1:i<j) (h2:j≤aN s.ops i):gn s r j=false:=by
 have hel:=iu W hi;have hm:i ∈ bZ s.ops j:=(mG W (by omega) h1).2 ⟨hk,h2⟩;unfold gn;have:(bZ s.ops j).all (fT s r)=false:=by
  rw [← Bool.not_eq_true,List.all_eq_true];exact fun q=>by have:=q i hm;rw [h] at this;cases this
 rw [this,Bool.and_false]
theorem rf {r:Rect} {i:Nat} (h:∀ g ∈ bZ s.ops i,fT s r g=true):gn s r i=fT s r i:=by
 unfold gn;rw [List.all_eq_true.2 h,Bool.and_true]
theorem MA (W:Wf s.ops) {r:Rect} {i:Nat} (hi:i<s.ops.length) (h:∀ g ∈ bZ s.ops i,fT s r g=true) (hp:(aB s.ops i).kind=2→fT s r i=true):∀ g ∈ bZ s.ops (i+1),fT s r g=true:=by
 intro g hg;rcases W.kinds i hi with k|k|k
 ·rw [dM k] at hg;exact h g hg
 ·rw [dR k] at hg;rcases List.mem_cons.1 hg with e|e
  ·rw [e];exact hp k
  ·exact h g e
 ·rw [fy k] at hg;exact h g (List.mem_of_mem_tail hg)
theorem QZ {x y:Int} (C:Pt s m x y) {r:Rect} {i:Nat} (hr:aP r=false) (hxy:ic r x y) (hi:i<s.ops.length) (hk:(aB s.ops i).kind≠3) (h:fT s r i=false):jP m (cY s x y) s.ops (aN s.ops i+1)=jP m (cY s x y) s.ops i :=
 QF C hi hk (MO hr hxy h)
end
end
section
attribute [local go_sem] Int.toNat_natCast
def og (r:Rect) (w h nx i:Int):Rect:=⟨r.x0+i % nx * w,r.y0+i / nx * h,if r.x1<r.x0+i % nx * w+w then r.x1 else r.x0+i % nx * w+w,if r.y1<r.y0+i / nx * h+h then r.y1 else r.y0+i / nx * h+h⟩
structure TileOk (r:Rect) (w h:Int):Prop where
 w:1≤w∧w≤r.x1 - r.x0
 h:1≤h∧h≤r.y1 - r.y0
theorem mr {r:Rect} {w h:Int} (hc:Small r) (ho:TileOk r w h):cD r w h=true:=by
 obtain ⟨x0,x1,y0,y1,hw,hh⟩:=hc;obtain ⟨h1,h2⟩:=ho;have he:aP r=false:=by
  simp only [aP,mf,Bool.or_eq_false_iff,Bool.not_eq_false',decide_eq_true_eq,decide_eq_false_iff_not];omega
 unfold cD;rw [he];simp only [Bool.not_false,Bool.true_and,decide_eq_true_eq];omega
theorem Gp {W w:Int} {n:Int} (h:1≤W∧W≤n) (hw:1≤w):1≤(W - 1) / w+1∧(W - 1) / w+1≤n:=by
 have b1:0≤(W - 1) / w:=Int.ediv_nonneg (by omega) (by omega);have b2:(W - 1) / w≤W - 1:=Int.ediv_le_self _ (by omega);omega
theorem pe {r:Rect} {w h:Int} (hc:Small r) (ho:TileOk r w h):(1≤bj r w h∧bj r w h≤5)∧1≤bY r w h∧bY r w h≤4:=by
 have hok:=mr hc ho;unfold bj bY;rw [if_pos hok,if_pos hok];exact ⟨Gp hc.w ho.w.1,Gp hc.h ho.h.1⟩
theorem wW {nx ny i w h : Int} (hx : 1 ≤ nx ∧ nx ≤ 5) (hy : 1 ≤ ny ∧ ny ≤ 4) (hi : 0 ≤ i ∧ i < nx * ny) (hw : 1 ≤ w ∧ w ≤ 5) (hh : 1 ≤ h ∧ h ≤ 4) :
  (0≤i / nx∧i / nx<ny)∧(0≤i % nx∧i % nx<nx)∧(0≤i % nx * w∧i % nx * w≤25)∧0≤i / nx * h∧i / nx * h≤16:=by
 have b1:0≤i / nx:=Int.ediv_nonneg (by omega) (by omega);have b2:i / nx<ny:=Int.ediv_lt_of_lt_mul (by omega) (by rw [Int.mul_comm];exact hi.2);have b3:=Int.emod_nonneg i (show nx≠0 by omega);have b4:=Int.emod_lt_of_pos i (show 0<nx by omega);have b5:i % nx * w≤5 * 5:=Int.mul_le_mul (by omega) (by omega) (by omega) (by omega);have b6:i / nx * h≤4 * 4:=Int.mul_le_mul (by omega) (by omega) (by omega) (by omega);exact ⟨⟨b1,b2⟩,⟨b3,b4⟩,⟨Int.mul_nonneg b3 (by omega),by omega⟩,Int.mul_nonneg b1 (by omega),by omega⟩
theorem Ra (r : Rect) (w h i : Int) (hc : Small r) (ho : TileOk r w h) (hi : 0 ≤ i ∧ i < bj r w h * bY r w h) :
  aA Sg 74 [ag (aQ r),I w,I h,I i] (fun x=>x = .tup [ag (aQ (og r w h (bj r w h) i)),B true]):=by
 have hct:=nB r w h;have hok:=mr hc ho;obtain ⟨htx,hty⟩:=pe hc ho;obtain ⟨x0,x1,y0,y1,hW,hH⟩:=hc;obtain ⟨hw,hh⟩:=ho;rw [hok] at hct;generalize bj r w h=nx at *
 generalize bY r w h=ny at *
 obtain ⟨⟨b1,b2⟩,⟨b3,b4⟩,⟨b5,b6⟩,b7,b8⟩:=wW (w:=w) (h:=h) htx hty hi (by omega) (by omega);unfold og;refine aD Tryz.func74 [.cell 8 28, .tmp 9] ?_
 repeat' (first|((with_reducible refine IG (id:=4) [] ?_ (fun K hK => ?_));exact dK;refine dz ?_)|refine ax ?_|refine an (fun K hK => ?_)|refine aa (hct) ?_|(refine aK (fun hb => ?_) (fun hb => ?_) <;> try exact aE)|(refine aq hK ?_;try clear hK K)|(refine Bi hK ?_;try clear hK K))
 ·exfalso;simp only [Bool.false_eq_true,false_or] at hb;omega
 ·rfl
end
section
structure Mic where
 op:Int
 kind:Int
 inp:Pixel
 back:Pixel
 k:Int
 out:Pixel
 deriving DecidableEq,Inhabited
section
variable {s:Script} {m x y:Int}
end
end
section
attribute [local go_sem] Int.toNat_natCast
theorem cH {S:Env} {ops:Array Oper} {L:List Oper} {i:Nat} {t r:Tr} {st:St} {K:St→Prop} (h:∀ K':St→Prop,(∀ s,fL S ops L t s K→K' s)→aY S ops [L.getD i default] st K') (hr:fL S ops L r st K):fL S ops L (.br i t r) st K :=
 ⟨h _ (fun _ h=>h),hr⟩
theorem bJ {S:Env} {ops:Array Oper} {L:List Oper} {st:St} {K:St→Prop} (h:K st):fL S ops L .leaf st K:=h
theorem cg {S:Env} {ops:Array Oper} {L:List Oper} {st:St} {K:St→Prop}:fL S ops L .nil st K:=trivial
def Wa (s:Script) (d:Scene):Script := { ay d with bits:=s.bits,canvas:=s.canvas,tileW:=s.tileW,tileH:=s.tileH,order:=s.order,images:=s.images }
def uI (s:Script) (d:Scene):Script:=⟨s.bits,s.canvas,s.tileW,s.tileH,s.order,s.images ++ [s.images.getD 0 default],(ay d).ops⟩
attribute [local go_sem] Wa uI
end
theorem yR {w h:Int} (hw:1≤w) (hh:1≤h):w≤16777216 / h↔w≤16777216∧h≤16777216 / w:=by
 rw [Int.le_ediv_iff_mul_le (by omega),Int.le_ediv_iff_mul_le (by omega),Int.mul_comm h w];refine ⟨fun q=>⟨?_,q⟩,fun q=>q.2⟩;have:w * 1≤w * h:=Int.mul_le_mul_of_nonneg_left hh (by omega);omega
theorem DU (w h:Int):((decide (w≥1) && decide (h≥1)) && decide (w≤IntKind.i64.wrap (16777216 / h)))=cK w h:=by
 rw [Bool.eq_iff_iff];simp only [cK,Bool.and_eq_true,decide_eq_true_eq,ge_iff_le];constructor
 ·rintro ⟨⟨h1,h2⟩,h3⟩;have a1:0≤16777216 / h:=Int.ediv_nonneg (by omega) (by omega);have a2:16777216 / h≤16777216:=Int.ediv_le_self _ (by omega);rw [fY (by omega) (by omega)] at h3;exact ⟨h1,h2,(yR h1 h2).1 h3⟩
 ·rintro ⟨h1,h2,h3⟩;have a1:0≤16777216 / h:=Int.ediv_nonneg (by omega) (by omega);have a2:16777216 / h≤16777216:=Int.ediv_le_self _ (by omega);rw [fY (by omega) (by omega)];exact ⟨⟨h1,h2⟩,(yR h1 h2).2 h3⟩
theorem wA (w h:Int):aA Sg 76 [I w,I h] (fun x=>x = .b (B (cK w h))):=by
 rw [← DU];refine aD Tryz.func76 [.tmp 4] ?_;repeat' (first|with_reducible exact bq|refine aC ?_)
theorem MF (w h:Int):aA Sg 194 [I w,I h] (fun x=>x = .b (B (cK w h))):=by
 rw [← DU];refine aD Tryz.func194 [.tmp 4] ?_;repeat' (first|with_reducible exact bq|refine aC ?_)
theorem QS (p:Plane):aA Sg 182 [ag (fj p)] (fun x=>x = .b (B (decide (p.w=0) && decide (p.h=0) && decide (p.stride=0) && decide (p.s.length=0)))):=by
 refine aD Tryz.func182 [.tmp 2] ?_;repeat' (refine aC ?_)
 refine eV ?_;simp only [Bool.and_eq_true,decide_eq_true_eq,beq_iff_eq];omega
theorem OZ (w h s:Int):aA Sg 195 [I w,I h,I s] (fun x=>x = .b (I (IntKind.i64.wrap (IntKind.i64.wrap (IntKind.i64.wrap (h - 1) * s)+w)))):=by
 have ht:True:=trivial;refine aD Tryz.func195 [.tmp 6] ?_;repeat' (first|with_reducible exact bq|refine aC ?_)
theorem mC (p:Plane):aA Sg 183 [ag (fj p)] (fun r=>r = .b (B (cW p))):=by
 have hf:=MF p.w p.h;have hl:=OZ p.w p.h p.stride;have key:(cK p.w p.h && decide (p.stride≥p.w) && decide (p.stride≤16777216) && decide ((p.s.length:Int)≥IntKind.i64.wrap (IntKind.i64.wrap (IntKind.i64.wrap (p.h - 1) * p.stride)+p.w)))=cW p:=by
  unfold cW;by_cases h:cK p.w p.h=true∧p.w≤p.stride∧p.stride≤16777216
  ·obtain ⟨h1,h2,h3⟩:=h;obtain ⟨b1,b2,b3,b4,b5,b6⟩:=dB h1;have e1:0≤(p.h - 1) * p.stride∧(p.h - 1) * p.stride≤16777216 * 16777216:=⟨ao (by omega) (by omega),az (by omega) (by omega) (by omega) (by omega)⟩
   rw [fY (n:=p.h - 1) (by omega) (by omega),fY (n:=(p.h - 1) * p.stride) (by omega) (by omega),fY (by omega) (by omega)]
  ·have hz:(cK p.w p.h && decide (p.stride≥p.w) && decide (p.stride≤16777216))=false:=by
    rw [← Bool.not_eq_true,Bool.and_eq_true,Bool.and_eq_true,decide_eq_true_eq,decide_eq_true_eq];exact fun q=>h ⟨q.1.1,q.1.2,q.2⟩
   rw [hz];rfl
 rw [← key];refine aD Tryz.func183 [.tmp 2] ?_;repeat' (first|with_reducible exact bq|refine an (fun K hK => ?_)|refine aa (hf) ?_|refine aw (fun hg=>hl) ?_|refine ax ?_|(refine aq hK ?_;try clear hK K))
def kL (p:Plane):Bool:=decide (p.w=0) && decide (p.h=0) && decide (p.stride=0) && decide (p.s.length=0)
theorem oN (p:Plane):aA Sg 182 [ag (fj p)] (fun x=>x = .b (B (kL p))):=QS p
theorem qW {p:Plane} (h:((p.w=0∧p.h=0)∧p.stride=0)∧(p.s.length:Int)≤0):kL p=true:=by
 unfold kL;simp only [Bool.and_eq_true,decide_eq_true_eq];omega
theorem rS {m:Image} {p:Plane} (hs:m.solid=true) (h:¬ aL m p=true):kL p=false:=by
 rw [← Bool.not_eq_true];intro q;unfold kL at q;simp only [Bool.and_eq_true,decide_eq_true_eq] at q;exact h ((ka hs).2 (by omega))
theorem mu {m:Image} {p:Plane} (hs:m.solid=false) (h:¬ aL m p=true):(!cW p || (p.w != m.w) || (p.h != m.h))=true:=by
 rw [← Bool.not_eq_false];intro q;simp only [Bool.or_eq_false_iff,bne_eq_false_iff_eq,Bool.not_eq_false'] at q;exact h ((kg hs).2 q)
theorem xx (m:Image):aA Sg 149 [ag (aI m)] (fun r=>r = .b (B (bd m))):=by
 obtain ⟨w,h,solid,color,p0,p1,p2,p3,p4⟩:=m;have ht:True:=trivial;have hsz:=wA w h;have e0:bd ⟨w,h,solid,color,p0,p1,p2,p3,p4⟩=(cK w h && fM ⟨w,h,solid,color,p0,p1,p2,p3,p4⟩):=rfl;rw [e0];cases hF:cK w h
 ·rw [hF] at hsz;refine aD Tryz.func149 [.tmp 2] ?_;repeat' (first|refine ah ht ?_|refine ax ?_|refine an (fun K hK => ?_)|refine aa (hsz) ?_|(refine aq hK ?_;try clear hK K))
  rfl
 rw [Bool.true_and];rw [hF] at hsz;have v0:=mC p0;have v1:=mC p1;have v2:=mC p2;have v3:=mC p3;have v4:=mC p4;have z0:=oN p0;have z1:=oN p1;have z2:=oN p2;have z3:=oN p3;have z4:=oN p4;cases solid
 ·skip
  refine aD Tryz.func149 [.tmp 2] ?_
  repeat' (first|refine ax ?_|refine an (fun K hK => ?_)|refine aa (hsz) ?_|(refine aK (fun hb => ?_) (fun hb => ?_) <;> try exact aE)|(refine aq hK ?_;try clear hK K))
  ·refine congrArg (fun v=>SV.b (B v)) (Eq.symm ?_);have hc:¬ color=bQ:=fun q=>by
    subst q
    revert hb
    simp [bQ]
   unfold fM;rw [decide_eq_false hc,Bool.or_false,Bool.and_false]
  have hc:color=bQ:=by
   obtain ⟨c0,c1,c2,a,f⟩:=color;obtain ⟨⟨q0,q1,q2,_⟩,q3,q4,_⟩:=hb.2 trivial;simp only [bQ,Pixel.mk.injEq];exact ⟨q0,q1,q2,q3,q4⟩
  subst hc;clear hb;refine aH (X:=Int) (fun k=>aT [(1, .b (.c (.ptr 0 0))),(23, .b (ag [PI p0.w,PI p0.h,PI p0.stride,lv p0.s,PI p1.w,PI p1.h,PI p1.stride,lv p1.s,PI p2.w,PI p2.h,PI p2.stride,lv p2.s,PI p3.w,PI p3.h,PI p3.stride,lv p3.s,PI p4.w,PI p4.h,PI p4.stride,lv p4.s])),(24, .b (I k))] [(0, .fix ((aI ⟨w,h,false,bQ,p0,p1,p2,p3,p4⟩).map CV.p))] 1)
   (fun k=>0≤k∧k≤5∧(0<k→aL ⟨w,h,false,bQ,p0,p1,p2,p3,p4⟩ p0=true)∧(1<k→aL ⟨w,h,false,bQ,p0,p1,p2,p3,p4⟩ p1=true)∧(2<k→aL ⟨w,h,false,bQ,p0,p1,p2,p3,p4⟩ p2=true)∧(3<k→aL ⟨w,h,false,bQ,p0,p1,p2,p3,p4⟩ p3=true)∧(4<k→aL ⟨w,h,false,bQ,p0,p1,p2,p3,p4⟩ p4=true)) (fun k=>(5 - k).toNat) 0 ?_ ?_ ?_
  ·exact ⟨by omega,by omega,fun q=>absurd q (by omega),fun q=>absurd q (by omega),fun q=>absurd q (by omega),fun q=>absurd q (by omega),fun q=>absurd q (by omega)⟩
  ·refine au [(1,some 1)] ?_ ?_;and_intros;all_goals try exact aj
  ·rintro k ⟨k0,k1,i0,i1,i2,i3,i4⟩;have hkv:k=0∨k=1∨k=2∨k=3∨k=4∨k=5:=by omega
   rcases hkv with rfl|rfl|rfl|rfl|rfl|rfl
   ·by_cases hp:aL ⟨w,h,false,bQ,p0,p1,p2,p3,p4⟩ p0=true
    ·have hq:=(kg rfl).1 hp;obtain ⟨g1,g2,g3⟩:cW p0=true∧(p0.w != w)=false∧(p0.h != h)=false:=⟨hq.1.1,by rw [bne_eq_false_iff_eq];exact hq.1.2,by rw [bne_eq_false_iff_eq];exact hq.2⟩
     repeat' (first|refine ah (And.intro ht (And.intro g1 (And.intro g2 g3))) ?_|refine ax ?_|refine an (fun K hK => ?_)|refine aw (fun hg=>v0) ?_|refine aw (fun hg=>z0) ?_|(refine aq hK ?_;try clear hK K))
     rw [ae];refine ak 1 ?_ ⟨by omega,by omega,fun _=>hp,fun q=>absurd q (by omega),fun q=>absurd q (by omega),fun q=>absurd q (by omega),fun q=>absurd q (by omega)⟩ (by decide);refine au [(1,some 1)] ?_ ?_;and_intros;all_goals try exact aj
    ·have g1:(!cW p0 || (p0.w != w) || (p0.h != h))=true:=mu (m:=⟨w,h,false,bQ,p0,p1,p2,p3,p4⟩) rfl hp;repeat' (first|refine ah (And.intro ht g1) ?_|refine ax ?_|refine an (fun K hK => ?_)|refine aw (fun hg=>v0) ?_|refine aw (fun hg=>z0) ?_|(refine aq hK ?_;try clear hK K))
     refine congrArg (fun v=>SV.b (B v)) (Eq.symm ?_);exact ca (m:=⟨w,h,false,bQ,p0,p1,p2,p3,p4⟩) (p:=p0) (by simp) hp
   ·by_cases hp:aL ⟨w,h,false,bQ,p0,p1,p2,p3,p4⟩ p1=true
    ·have hq:=(kg rfl).1 hp;obtain ⟨g1,g2,g3⟩:cW p1=true∧(p1.w != w)=false∧(p1.h != h)=false:=⟨hq.1.1,by rw [bne_eq_false_iff_eq];exact hq.1.2,by rw [bne_eq_false_iff_eq];exact hq.2⟩
     repeat' (first|refine ah (And.intro ht (And.intro g1 (And.intro g2 g3))) ?_|refine ax ?_|refine an (fun K hK => ?_)|refine aw (fun hg=>v1) ?_|refine aw (fun hg=>z1) ?_|(refine aq hK ?_;try clear hK K))
     rw [ae];refine ak 2 ?_ ⟨by omega,by omega,fun _=>i0 (by omega),fun _=>hp,fun q=>absurd q (by omega),fun q=>absurd q (by omega),fun q=>absurd q (by omega)⟩ (by decide);refine au [(1,some 1)] ?_ ?_;and_intros;all_goals try exact aj
    ·have g1:(!cW p1 || (p1.w != w) || (p1.h != h))=true:=mu (m:=⟨w,h,false,bQ,p0,p1,p2,p3,p4⟩) rfl hp;repeat' (first|refine ah (And.intro ht g1) ?_|refine ax ?_|refine an (fun K hK => ?_)|refine aw (fun hg=>v1) ?_|refine aw (fun hg=>z1) ?_|(refine aq hK ?_;try clear hK K))
     refine congrArg (fun v=>SV.b (B v)) (Eq.symm ?_);exact ca (m:=⟨w,h,false,bQ,p0,p1,p2,p3,p4⟩) (p:=p1) (by simp) hp
   ·by_cases hp:aL ⟨w,h,false,bQ,p0,p1,p2,p3,p4⟩ p2=true
    ·have hq:=(kg rfl).1 hp;obtain ⟨g1,g2,g3⟩:cW p2=true∧(p2.w != w)=false∧(p2.h != h)=false:=⟨hq.1.1,by rw [bne_eq_false_iff_eq];exact hq.1.2,by rw [bne_eq_false_iff_eq];exact hq.2⟩
     repeat' (first|refine ah (And.intro ht (And.intro g1 (And.intro g2 g3))) ?_|refine ax ?_|refine an (fun K hK => ?_)|refine aw (fun hg=>v2) ?_|refine aw (fun hg=>z2) ?_|(refine aq hK ?_;try clear hK K))
     rw [ae];refine ak 3 ?_ ⟨by omega,by omega,fun _=>i0 (by omega),fun _=>i1 (by omega),fun _=>hp,fun q=>absurd q (by omega),fun q=>absurd q (by omega)⟩ (by decide);refine au [(1,some 1)] ?_ ?_;and_intros;all_goals try exact aj
    ·have g1:(!cW p2 || (p2.w != w) || (p2.h != h))=true:=mu (m:=⟨w,h,false,bQ,p0,p1,p2,p3,p4⟩) rfl hp;repeat' (first|refine ah (And.intro ht g1) ?_|refine ax ?_|refine an (fun K hK => ?_)|refine aw (fun hg=>v2) ?_|refine aw (fun hg=>z2) ?_|(refine aq hK ?_;try clear hK K))
     refine congrArg (fun v=>SV.b (B v)) (Eq.symm ?_);exact ca (m:=⟨w,h,false,bQ,p0,p1,p2,p3,p4⟩) (p:=p2) (by simp) hp
   ·by_cases hp:aL ⟨w,h,false,bQ,p0,p1,p2,p3,p4⟩ p3=true
    ·have hq:=(kg rfl).1 hp;obtain ⟨g1,g2,g3⟩:cW p3=true∧(p3.w != w)=false∧(p3.h != h)=false:=⟨hq.1.1,by rw [bne_eq_false_iff_eq];exact hq.1.2,by rw [bne_eq_false_iff_eq];exact hq.2⟩
     repeat' (first|refine ah (And.intro ht (And.intro g1 (And.intro g2 g3))) ?_|refine ax ?_|refine an (fun K hK => ?_)|refine aw (fun hg=>v3) ?_|refine aw (fun hg=>z3) ?_|(refine aq hK ?_;try clear hK K))
     rw [ae];refine ak 4 ?_ ⟨by omega,by omega,fun _=>i0 (by omega),fun _=>i1 (by omega),fun _=>i2 (by omega),fun _=>hp,fun q=>absurd q (by omega)⟩ (by decide);refine au [(1,some 1)] ?_ ?_;and_intros;all_goals try exact aj
    ·have g1:(!cW p3 || (p3.w != w) || (p3.h != h))=true:=mu (m:=⟨w,h,false,bQ,p0,p1,p2,p3,p4⟩) rfl hp;repeat' (first|refine ah (And.intro ht g1) ?_|refine ax ?_|refine an (fun K hK => ?_)|refine aw (fun hg=>v3) ?_|refine aw (fun hg=>z3) ?_|(refine aq hK ?_;try clear hK K))
     refine congrArg (fun v=>SV.b (B v)) (Eq.symm ?_);exact ca (m:=⟨w,h,false,bQ,p0,p1,p2,p3,p4⟩) (p:=p3) (by simp) hp
   ·by_cases hp:aL ⟨w,h,false,bQ,p0,p1,p2,p3,p4⟩ p4=true
    ·have hq:=(kg rfl).1 hp;obtain ⟨g1,g2,g3⟩:cW p4=true∧(p4.w != w)=false∧(p4.h != h)=false:=⟨hq.1.1,by rw [bne_eq_false_iff_eq];exact hq.1.2,by rw [bne_eq_false_iff_eq];exact hq.2⟩
     repeat' (first|refine ah (And.intro ht (And.intro g1 (And.intro g2 g3))) ?_|refine ax ?_|refine an (fun K hK => ?_)|refine aw (fun hg=>v4) ?_|refine aw (fun hg=>z4) ?_|(refine aq hK ?_;try clear hK K))
     rw [ae];refine ak 5 ?_ ⟨by omega,by omega,fun _=>i0 (by omega),fun _=>i1 (by omega),fun _=>i2 (by omega),fun _=>i3 (by omega),fun _=>hp⟩ (by decide);refine au [(1,some 1)] ?_ ?_;and_intros;all_goals try exact aj
    ·have g1:(!cW p4 || (p4.w != w) || (p4.h != h))=true:=mu (m:=⟨w,h,false,bQ,p0,p1,p2,p3,p4⟩) rfl hp;repeat' (first|refine ah (And.intro ht g1) ?_|refine ax ?_|refine an (fun K hK => ?_)|refine aw (fun hg=>v4) ?_|refine aw (fun hg=>z4) ?_|(refine aq hK ?_;try clear hK K))
     refine congrArg (fun v=>SV.b (B v)) (Eq.symm ?_);exact ca (m:=⟨w,h,false,bQ,p0,p1,p2,p3,p4⟩) (p:=p4) (by simp) hp
   ·repeat' (first|refine ah ht ?_|refine aC ?_)
    refine congrArg (fun v=>SV.b (B v)) (Eq.symm ?_);show fM ⟨w,h,false,bQ,p0,p1,p2,p3,p4⟩=true;unfold fM;dsimp only;rw [i0 (by omega),i1 (by omega),i2 (by omega),i3 (by omega),i4 (by omega)];simp
 ·refine aD Tryz.func149 [.tmp 2] ?_;repeat' (first|refine ah ht ?_|refine ax ?_|refine an (fun K hK => ?_)|refine aa (hsz) ?_|(refine aq hK ?_;try clear hK K))
  refine aH (X:=Int) (fun k=>aT [(1, .b (.c (.ptr 0 0))),(23, .b (ag [PI p0.w,PI p0.h,PI p0.stride,lv p0.s,PI p1.w,PI p1.h,PI p1.stride,lv p1.s,PI p2.w,PI p2.h,PI p2.stride,lv p2.s,PI p3.w,PI p3.h,PI p3.stride,lv p3.s,PI p4.w,PI p4.h,PI p4.stride,lv p4.s])),(24, .b (I k))] [(0, .fix ((aI ⟨w,h,true,color,p0,p1,p2,p3,p4⟩).map CV.p))] 1)
   (fun k=>0≤k∧k≤5∧(0<k→aL ⟨w,h,true,color,p0,p1,p2,p3,p4⟩ p0=true)∧(1<k→aL ⟨w,h,true,color,p0,p1,p2,p3,p4⟩ p1=true)∧(2<k→aL ⟨w,h,true,color,p0,p1,p2,p3,p4⟩ p2=true)∧(3<k→aL ⟨w,h,true,color,p0,p1,p2,p3,p4⟩ p3=true)∧(4<k→aL ⟨w,h,true,color,p0,p1,p2,p3,p4⟩ p4=true)) (fun k=>(5 - k).toNat) 0 ?_ ?_ ?_
  ·exact ⟨by omega,by omega,fun q=>absurd q (by omega),fun q=>absurd q (by omega),fun q=>absurd q (by omega),fun q=>absurd q (by omega),fun q=>absurd q (by omega)⟩
  ·refine au [(1,some 1)] ?_ ?_;and_intros;all_goals try exact aj
  ·rintro k ⟨k0,k1,i0,i1,i2,i3,i4⟩;have hkv:k=0∨k=1∨k=2∨k=3∨k=4∨k=5:=by omega
   rcases hkv with rfl|rfl|rfl|rfl|rfl|rfl
   ·by_cases hp:aL ⟨w,h,true,color,p0,p1,p2,p3,p4⟩ p0=true
    ·have hq:=(ka rfl).1 hp;obtain ⟨g1,g2,g3⟩:kL p0=true∧True∧True:=⟨qW hq,trivial,trivial⟩
     repeat' (first|refine ah (And.intro ht (And.intro g1 (And.intro g2 g3))) ?_|refine ax ?_|refine an (fun K hK => ?_)|refine aw (fun hg=>v0) ?_|refine aw (fun hg=>z0) ?_|(refine aq hK ?_;try clear hK K))
     rw [ae];refine ak 1 ?_ ⟨by omega,by omega,fun _=>hp,fun q=>absurd q (by omega),fun q=>absurd q (by omega),fun q=>absurd q (by omega),fun q=>absurd q (by omega)⟩ (by decide);refine au [(1,some 1)] ?_ ?_;and_intros;all_goals try exact aj
    ·have g1:(!kL p0)=true:=by rw [rS (m:=⟨w,h,true,color,p0,p1,p2,p3,p4⟩) rfl hp];rfl
     repeat' (first|refine ah (And.intro ht g1) ?_|refine ax ?_|refine an (fun K hK => ?_)|refine aw (fun hg=>v0) ?_|refine aw (fun hg=>z0) ?_|(refine aq hK ?_;try clear hK K))
     refine congrArg (fun v=>SV.b (B v)) (Eq.symm ?_);exact ca (m:=⟨w,h,true,color,p0,p1,p2,p3,p4⟩) (p:=p0) (by simp) hp
   ·by_cases hp:aL ⟨w,h,true,color,p0,p1,p2,p3,p4⟩ p1=true
    ·have hq:=(ka rfl).1 hp;obtain ⟨g1,g2,g3⟩:kL p1=true∧True∧True:=⟨qW hq,trivial,trivial⟩
     repeat' (first|refine ah (And.intro ht (And.intro g1 (And.intro g2 g3))) ?_|refine ax ?_|refine an (fun K hK => ?_)|refine aw (fun hg=>v1) ?_|refine aw (fun hg=>z1) ?_|(refine aq hK ?_;try clear hK K))
     rw [ae];refine ak 2 ?_ ⟨by omega,by omega,fun _=>i0 (by omega),fun _=>hp,fun q=>absurd q (by omega),fun q=>absurd q (by omega),fun q=>absurd q (by omega)⟩ (by decide);refine au [(1,some 1)] ?_ ?_;and_intros;all_goals try exact aj
    ·have g1:(!kL p1)=true:=by rw [rS (m:=⟨w,h,true,color,p0,p1,p2,p3,p4⟩) rfl hp];rfl
     repeat' (first|refine ah (And.intro ht g1) ?_|refine ax ?_|refine an (fun K hK => ?_)|refine aw (fun hg=>v1) ?_|refine aw (fun hg=>z1) ?_|(refine aq hK ?_;try clear hK K))
     refine congrArg (fun v=>SV.b (B v)) (Eq.symm ?_);exact ca (m:=⟨w,h,true,color,p0,p1,p2,p3,p4⟩) (p:=p1) (by simp) hp
   ·by_cases hp:aL ⟨w,h,true,color,p0,p1,p2,p3,p4⟩ p2=true
    ·have hq:=(ka rfl).1 hp;obtain ⟨g1,g2,g3⟩:kL p2=true∧True∧True:=⟨qW hq,trivial,trivial⟩
     repeat' (first|refine ah (And.intro ht (And.intro g1 (And.intro g2 g3))) ?_|refine ax ?_|refine an (fun K hK => ?_)|refine aw (fun hg=>v2) ?_|refine aw (fun hg=>z2) ?_|(refine aq hK ?_;try clear hK K))
     rw [ae];refine ak 3 ?_ ⟨by omega,by omega,fun _=>i0 (by omega),fun _=>i1 (by omega),fun _=>hp,fun q=>absurd q (by omega),fun q=>absurd q (by omega)⟩ (by decide);refine au [(1,some 1)] ?_ ?_;and_intros;all_goals try exact aj
    ·have g1:(!kL p2)=true:=by rw [rS (m:=⟨w,h,true,color,p0,p1,p2,p3,p4⟩) rfl hp];rfl
     repeat' (first|refine ah (And.intro ht g1) ?_|refine ax ?_|refine an (fun K hK => ?_)|refine aw (fun hg=>v2) ?_|refine aw (fun hg=>z2) ?_|(refine aq hK ?_;try clear hK K))
     refine congrArg (fun v=>SV.b (B v)) (Eq.symm ?_);exact ca (m:=⟨w,h,true,color,p0,p1,p2,p3,p4⟩) (p:=p2) (by simp) hp
   ·by_cases hp:aL ⟨w,h,true,color,p0,p1,p2,p3,p4⟩ p3=true
    ·have hq:=(ka rfl).1 hp;obtain ⟨g1,g2,g3⟩:kL p3=true∧True∧True:=⟨qW hq,trivial,trivial⟩
     repeat' (first|refine ah (And.intro ht (And.intro g1 (And.intro g2 g3))) ?_|refine ax ?_|refine an (fun K hK => ?_)|refine aw (fun hg=>v3) ?_|refine aw (fun hg=>z3) ?_|(refine aq hK ?_;try clear hK K))
     rw [ae];refine ak 4 ?_ ⟨by omega,by omega,fun _=>i0 (by omega),fun _=>i1 (by omega),fun _=>i2 (by omega),fun _=>hp,fun q=>absurd q (by omega)⟩ (by decide);refine au [(1,some 1)] ?_ ?_;and_intros;all_goals try exact aj
    ·have g1:(!kL p3)=true:=by rw [rS (m:=⟨w,h,true,color,p0,p1,p2,p3,p4⟩) rfl hp];rfl
     repeat' (first|refine ah (And.intro ht g1) ?_|refine ax ?_|refine an (fun K hK => ?_)|refine aw (fun hg=>v3) ?_|refine aw (fun hg=>z3) ?_|(refine aq hK ?_;try clear hK K))
     refine congrArg (fun v=>SV.b (B v)) (Eq.symm ?_);exact ca (m:=⟨w,h,true,color,p0,p1,p2,p3,p4⟩) (p:=p3) (by simp) hp
   ·by_cases hp:aL ⟨w,h,true,color,p0,p1,p2,p3,p4⟩ p4=true
    ·have hq:=(ka rfl).1 hp;obtain ⟨g1,g2,g3⟩:kL p4=true∧True∧True:=⟨qW hq,trivial,trivial⟩
     repeat' (first|refine ah (And.intro ht (And.intro g1 (And.intro g2 g3))) ?_|refine ax ?_|refine an (fun K hK => ?_)|refine aw (fun hg=>v4) ?_|refine aw (fun hg=>z4) ?_|(refine aq hK ?_;try clear hK K))
     rw [ae];refine ak 5 ?_ ⟨by omega,by omega,fun _=>i0 (by omega),fun _=>i1 (by omega),fun _=>i2 (by omega),fun _=>i3 (by omega),fun _=>hp⟩ (by decide);refine au [(1,some 1)] ?_ ?_;and_intros;all_goals try exact aj
    ·have g1:(!kL p4)=true:=by rw [rS (m:=⟨w,h,true,color,p0,p1,p2,p3,p4⟩) rfl hp];rfl
     repeat' (first|refine ah (And.intro ht g1) ?_|refine ax ?_|refine an (fun K hK => ?_)|refine aw (fun hg=>v4) ?_|refine aw (fun hg=>z4) ?_|(refine aq hK ?_;try clear hK K))
     refine congrArg (fun v=>SV.b (B v)) (Eq.symm ?_);exact ca (m:=⟨w,h,true,color,p0,p1,p2,p3,p4⟩) (p:=p4) (by simp) hp
   ·repeat' (first|refine ah ht ?_|refine aC ?_)
    refine congrArg (fun v=>SV.b (B v)) (Eq.symm ?_);show fM ⟨w,h,true,color,p0,p1,p2,p3,p4⟩=true;unfold fM;dsimp only;rw [i0 (by omega),i1 (by omega),i2 (by omega),i3 (by omega),i4 (by omega)];rfl
theorem AM {r q:Rect} (hq:aP q=false):gm r q=decide (fF r q=q):=by
 have hz:¬ dt=q:=fun e=>by rw [← e] at hq;exact absurd hq (by decide)
 rw [gm,hq];unfold fF;cases hr:aP r with
 | true=>rw [if_pos (.inl rfl),decide_eq_false hz];rfl
 | false =>
  rw [if_neg (by rw [hq];decide)];by_cases hc:r.x0≤q.x0∧r.y0≤q.y0∧q.x1≤r.x1∧q.y1≤r.y1
  ·have e:(⟨max r.x0 q.x0,max r.y0 q.y0,min r.x1 q.x1,min r.y1 q.y1⟩:Rect)=q:=by
    cases q with
    | mk x0 y0 x1 y1 =>
     simp only [Rect.mk.injEq] at hc ⊢;omega
   have e2:gv q=q:=if_neg (by rw [hq];decide);rw [e,e2,decide_eq_true hc.1,decide_eq_true hc.2.1,decide_eq_true hc.2.2.1,decide_eq_true hc.2.2.2,decide_eq_true rfl];rfl
  ·have hl:(false || !false && decide (r.x0≤q.x0) && decide (r.y0≤q.y0) && decide (q.x1≤r.x1) && decide (q.y1≤r.y1))=false:=by
    rw [Bool.eq_false_iff];intro h;simp only [Bool.false_or,Bool.not_false,Bool.true_and,Bool.and_eq_true,decide_eq_true_eq] at h;exact hc ⟨h.1.1.1,h.1.1.2,h.1.2,h.2⟩
   rw [hl,eq_comm,decide_eq_false_iff_not];unfold gv;split
   ·exact hz
   ·intro h;apply hc;have h1:=congrArg Rect.x0 h;have h2:=congrArg Rect.y0 h;have h3:=congrArg Rect.x1 h;have h4:=congrArg Rect.y1 h;dsimp only at h1 h2 h3 h4;omega
theorem MG (a b:Rect):a=b↔a.x0=b.x0∧a.y0=b.y0∧a.x1=b.x1∧a.y1=b.y1:=by cases a;cases b;simp
theorem yg (r q:Rect):aA Sg 53 [ag (aQ r),ag (aQ q)] (fun x=>x = .b (B (gm r q))):=by
 have h1:=bl q;have h2:=dQ r q;refine aD Tryz.func53 [.tmp 4] ?_;repeat' (first|refine an (fun K hK => ?_)|refine aa (h1) ?_|refine aw (fun hg=>h2) ?_|refine ax ?_|(refine aq hK ?_;try clear hK K))
 refine congrArg (fun b=>SV.b (B b)) ?_;cases hq:aP q with
 | true=>rw [gm,hq];rfl
 | false =>
  rw [AM hq,Bool.false_or,Bool.eq_iff_iff,decide_eq_true_eq,MG];simp only [Bool.and_eq_true,beq_iff_eq,and_true]
section
attribute [local go_sem] Ds
theorem qS (s:Scene) (hs:SceneOk s):mq Sg 10 [ag (fi s)] (Ds (ay s)) 8 43 28 (ay s).images.length (bK aI (ay s).images):=by
 obtain ⟨hb,⟨x1,x2⟩,⟨y1,y2⟩,⟨w1,w2⟩,⟨v1,v2⟩,⟨t1,t2⟩,⟨u1,u2⟩,ho,hp,hop,hpic,hraw⟩:=hs;have hm:=nw s.bits;have hsm:=cJ s;have htw:=iz (ar s) (cd s) (cc s);have hw0:1≤1+s.w % 5∧1+s.w % 5≤5:=by omega
 have hh0:1≤1+s.h % 4∧1+s.h % 4≤4:=by omega
 have ew:s.tileW % (1+s.w % 5)=cd s - 1:=by unfold cd;omega
 have eh:s.tileH % (1+s.h % 4)=cc s - 1:=by unfold cc;omega
 have bw:=Int.emod_nonneg s.tileW (show 1+s.w % 5≠0 by omega);have bw2:=Int.emod_lt_of_pos s.tileW (show 0<1+s.w % 5 by omega);have bh:=Int.emod_nonneg s.tileH (show 1+s.h % 4≠0 by omega);have bh2:=Int.emod_lt_of_pos s.tileH (show 0<1+s.h % 4 by omega);have hmx:aA Sg 32 [I s.bits] (fun r=>r = .b (U (cl s.bits))):=Ci _;refine FN Tryz.func10 rfl (rs:=[.cell 2 32]) rfl rfl fG (by decide +kernel) (Nat.le_of_ble_eq_true rfl) (bS bG) ?_;repeat' (first|refine ax ?_|((with_reducible refine bN (id:=10) (fun K hW => ?_));(try simp (maxSteps:=999999)(disch:=omega) only [go_sem]);and_intros;all_goals first|(refine hK _ ?_;clear hK K)|try exact ai)|refine an (fun K hK => ?_)|refine aa (hmx) ?_|refine aa (bD _ _ (by omega) (by omega)) ?_|refine aa (kS ⟨_,_,_,_⟩ _ _) ?_|(apply bn;(case hf=>rfl);(case hc=>exact bM);(all_goals first|(intro hb;(try simp only [gL] at hb))|skip))|exact aG|(refine aq hK ?_;try clear hK K))
 refine uX ?_ ?_ bG (mz s.order (bj (ar s) (cd s) (cc s) * bY (ar s) (cd s) (cc s)) ho htw.2);try simp (maxSteps:=999999)(disch:=omega) only [go_sem]
 try (refine hK _ ?_;clear hK K)
 rotate_left
 ·rw [← htw.1];have e1:1+s.tileW % (1+s.w % 5)=cd s:=rfl;have e2:1+s.tileH % (1+s.h % 4)=cc s:=rfl;simp only [e1,e2];rfl
 refine hW _ (aT [(1, .b (.c (.ptr 0 0))),(2, .b (.c (.ptr 1 0))),(3, .b (U (cl s.bits))),(4, .b (.c (.ptr 2 0))),(7, .b (I (1+s.w % 5))),(8, .b (I (1+s.h % 4)))]
  [(0, .fix ((fi s).map CV.p)),(1, .fix ((List.range 10).map fun _=>CV.p .any)),(2, .fix [.p (PI (ay s).bits), .p (PI (ar s).x0), .p (PI (ar s).y0), .p (PI (ar s).x1), .p (PI (ar s).y1), .p (PI (cd s)), .p (PI (cc s)), .p (eI (ay s).order), .p EI, .p EI])] 3) ?_ ?_
 ·clear hW;refine au [(1,some 1),(2,some 2)] ?_ ?_;and_intros;all_goals try exact aj
 clear hW;refine fV ?_;refine ix fun K hK => ?_;refine dz ?_;and_intros;all_goals first|(refine hK _ ?_;clear hK K)|exact ai|skip
 refine eO fun KB hV => ?_
 refine aH (X:=Nat) (fun i=>aT [(1, .b (.c (.ptr 0 0))),(2, .b (.c (.ptr 1 0))),(3, .b (U (cl s.bits))),(4, .b (.c (.ptr 2 0))),(7, .b (I (1+s.w % 5))),(8, .b (I (1+s.h % 4))),(12, .b (I i))]
  [(0, .fix ((fi s).map CV.p)),(1, .fix ((List.range 10).map fun _=>CV.p .any)),(2, .fix [.p (PI (ay s).bits), .p (PI (ar s).x0), .p (PI (ar s).y0), .p (PI (ar s).x1), .p (PI (ar s).y1), .p (PI (cd s)), .p (PI (cc s)), .p (eI (ay s).order), .own 3 i, .p EI]),
   (3, .arr 43 28 i (bK aI ((aX s).take i)))] 4) (fun i=>i≤s.pics.length∧i≤4) (fun i=>4 - i) 0 ?_ ?_ ?_
 ·omega
 ·refine au [(1,some 1),(2,some 2),(3,none)] ?_ ?_;and_intros;all_goals try exact aj
 ·rintro i ⟨hi,hi4⟩;have him:i<s.pics.length→PicOk (s.pics.getD i default):=hpic i
  repeat' (first|((with_reducible refine Tw (id:=14) [] ?_ (fun K hK => ?_));exact dK;refine dz ?_)|refine ax ?_|refine an (fun K hK => ?_)|(refine aK (fun hb => ?_) (fun hb => ?_) <;> try exact aE)|(refine aq hK ?_;try clear hK K)|(refine Bi hK ?_;try clear hK K))
  ·refine vb (vT (s.pics.getD (i:Int).toNat default) (ar s) (cl s.bits) (by rw [Int.toNat_natCast];exact hpic i (by omega)) hsm (by unfold u16;omega)) bG ?_;try simp (maxSteps:=999999)(disch:=omega) only [go_sem]
   and_intros;all_goals first|(refine hK _ ?_;clear hK K)|exact ai|skip
   refine hK _ trivial ?_;clear hK;repeat' (refine aC ?_)
   rw [ae];refine ak (i+1) ?_ (by omega) (by omega);have hl1:((aX s).take i).length=i:=by simp [aX];omega
   have he:(aX s).take (i+1)=(aX s).take i ++ [jd (s.pics.getD i default) (ar s) (cl s.bits)]:=by
    have h1:i<(s.pics.take 4).length:=by rw [List.length_take];omega
    have h2:i<s.pics.length:=by omega
    simp only [aX,← List.map_take];rw [List.take_add_one,List.map_append,List.getElem?_eq_getElem h1,List.getD_eq_getElem?_getD,List.getElem?_eq_getElem h2,List.getElem_take];rfl
   refine au [(1,some 1),(2,some 2),(3,some 5)] ?_ ?_;and_intros;all_goals try exact aj
   have key:=fun g hg=>cL (enc:=aI) (xs:=(aX s).take i) (x:=jd (s.pics.getD i default) (ar s) (cl s.bits)) (s:=28) (g:=g) hg;simp only [hl1,← he] at key;refine .inr (key _ fun j hj => ?_);simp only [Int.toNat_natCast];have hivl:j=0∨j=1∨j=2∨j=3∨j=4∨j=5∨j=6∨j=7∨j=8∨j=9∨j=10∨j=11∨j=12∨j=13∨j=14∨j=15∨j=16∨j=17∨j=18∨j=19∨j=20∨j=21∨j=22∨j=23∨j=24∨j=25∨j=26∨j=27:=by omega
   rcases hivl with rfl|rfl|rfl|rfl|rfl|rfl|rfl|rfl|rfl|rfl|rfl|rfl|rfl|rfl|rfl|rfl|rfl|rfl|rfl|rfl|rfl|rfl|rfl|rfl|rfl|rfl|rfl|rfl <;> rfl
  ·have hn0:i=(aX s).length:=by simp [aX];omega
   refine hV _ (aT [(1, .b (.c (.ptr 0 0))),(2, .b (.c (.ptr 1 0))),(3, .b (U (cl s.bits))),(4, .b (.c (.ptr 2 0))),(7, .b (I (1+s.w % 5))),(8, .b (I (1+s.h % 4)))]
    [(0, .fix ((fi s).map CV.p)),(1, .fix ((List.range 10).map fun _=>CV.p .any)),(2, .fix [.p (PI (ay s).bits), .p (PI (ar s).x0), .p (PI (ar s).y0), .p (PI (ar s).x1), .p (PI (ar s).y1), .p (PI (cd s)), .p (PI (cc s)), .p (eI (ay s).order), .own 3 (aX s).length, .p EI]),(3, .arr 43 28 (aX s).length (bK aI (aX s)))] 4) ?_ ?_
   ·rw [hn0,List.take_of_length_le (Nat.le_refl _)];refine au [(1,some 1),(2,some 2),(3,some 3)] ?_ ?_;and_intros;all_goals try exact aj
   clear hV hn0 him;refine fV ?_;refine ix fun K hK => ?_;refine dz ?_;and_intros;all_goals first|(refine hK _ ?_;clear hK K)|exact ai|skip
   refine Li (t:=(((aX s).length:Int) == 0)) (aT [(1, .b (.c (.ptr 0 0))),(2, .b (.c (.ptr 1 0))),(3, .b (U (cl s.bits))),(4, .b (.c (.ptr 2 0)))]
    [(0, .fix ((fi s).map CV.p)),(1, .fix ((List.range 10).map fun _=>CV.p .any)),(2, .fix [.p (PI (ay s).bits), .p (PI (ar s).x0), .p (PI (ar s).y0), .p (PI (ar s).x1), .p (PI (ar s).y1), .p (PI (cd s)), .p (PI (cc s)), .p (eI (ay s).order), .own 3 (aO s).length, .p EI]),(3, .arr 43 28 (aO s).length (bK aI (aO s)))] 4) ?_ ?_ ?_ ?_
   ·exact bG
   ·intro hb;have h0:(aX s).length=0:=by simpa using hb
    have hi1:aO s=[kr (1+s.w % 5) (1+s.h % 4) ⟨cl s.bits,0,0,cl s.bits,cl s.bits⟩]:=by rw [aO,if_pos h0]
    repeat' (first|(((with_reducible refine iM (id:=16) [] (by decide +kernel) (by decide +kernel) ?_ (fun K hK => ?_));exact dK);(try simp (maxSteps:=999999)(disch:=omega) only [go_sem]);and_intros;(all_goals first|(refine hK _ bG ?_;clear hK K)|exact ai|skip))|(refine aa (qG (1+s.w % 5) (1+s.h % 4) ⟨cl s.bits,0,0,cl s.bits,cl s.bits⟩) ?_;and_intros;all_goals first|(refine hK _ ?_;clear hK K)|try exact ai))
    refine hK _ trivial ?_;clear hK;rw [ae,hi1];refine ⟨_, ?_,rfl⟩;refine au [(1,some 1),(2,some 2),(3,some 5)] ?_ ?_;and_intros;all_goals try exact aj
    have h00:aX s=[]:=List.eq_nil_of_length_eq_zero h0;rw [h00];refine .inr fun a ha j hj => ?_;have:a=0:=by simpa using ha
    subst this;have hivl:j=0∨j=1∨j=2∨j=3∨j=4∨j=5∨j=6∨j=7∨j=8∨j=9∨j=10∨j=11∨j=12∨j=13∨j=14∨j=15∨j=16∨j=17∨j=18∨j=19∨j=20∨j=21∨j=22∨j=23∨j=24∨j=25∨j=26∨j=27:=by omega
    rcases hivl with rfl|rfl|rfl|rfl|rfl|rfl|rfl|rfl|rfl|rfl|rfl|rfl|rfl|rfl|rfl|rfl|rfl|rfl|rfl|rfl|rfl|rfl|rfl|rfl|rfl|rfl|rfl|rfl <;> exact PV.le_refl _
   ·intro hb;have h0:¬ (aX s).length=0:=by simpa using hb
    have hi1:aO s=aX s:=by rw [aO,if_neg h0]
    refine zP ?_;rw [ae,hi1];refine ⟨_, ?_,rfl⟩;refine au [(1,some 1),(2,some 2),(3,some 3)] ?_ ?_;and_intros;all_goals try exact aj
   have h3m:u16 (cl s.bits):=by unfold u16;omega
   have him1:1≤(aO s).length∧(aO s).length≤4:=by
    unfold aO;split
    ·simp
    ·have:(aX s).length≤4:=by simp [aX];omega
     omega
   refine ix fun K hK => ?_;refine dz ?_;and_intros;all_goals first|(refine hK _ ?_;clear hK K)|exact ai|skip
   refine fV ?_;refine ix fun K hK => ?_;refine dz ?_;and_intros;all_goals first|(refine hK _ ?_;clear hK K)|exact ai|skip
   refine eO fun KB2 hV2 => ?_
   refine aH (X:=Nat × List Op × List Op × List Op) (fun x=>aT [(1, .b (.c (.ptr 0 0))),(2, .b (.c (.ptr 1 0))),(3, .b (U (cl s.bits))),(4, .b (.c (.ptr 2 0))),(13, .b (.c (.own 5 x.2.2.1.length))),(14, .b (I x.1))]
    [(0, .fix ((fi s).map CV.p)),(1, .fix ((List.range 10).map fun _=>CV.p .any)),(2, .fix [.p (PI (ay s).bits), .p (PI (ar s).x0), .p (PI (ar s).y0), .p (PI (ar s).x1), .p (PI (ar s).y1), .p (PI (cd s)), .p (PI (cc s)), .p (eI (ay s).order), .own 3 (aO s).length, .own 4 x.2.1.length]),
     (3, .arr 43 28 (aO s).length (bK aI (aO s))),(4, .arr 74 12 x.2.1.length (bK fZ x.2.1)),(5, .arr 74 12 (x.2.2.1.length+x.2.2.2.length) (bK fZ (x.2.2.1 ++ x.2.2.2)))] 6)
    (fun x=>x.1≤s.ops.length∧x.1≤9∧(s.ops.take x.1).foldl (ke (aO s).length (ar s) (cl s.bits)) ([],[])=(x.2.1,x.2.2.1)∧x.2.1.length≤x.1∧x.2.2.1.length≤x.1) (fun x=>9 - x.1) (0,[],[],[]) ?_ ?_ ?_
   ·exact ⟨by omega,by omega,rfl,Nat.le_refl _,Nat.le_refl _⟩
   ·refine au [(1,some 1),(2,some 2),(3,some 3),(4,none),(5,none)] ?_ ?_;and_intros;all_goals try exact aj
   ·rintro ⟨i,ops,l,jk⟩ ⟨hi,hi9,hf,ho1,hl1⟩;dsimp only at hi hi9 hf ho1 hl1 ⊢;have hstep:∀ (hlt:i<s.ops.length) (q:List Op × List Op),ke (aO s).length (ar s) (cl s.bits) (ops,l) (s.ops.getD i default)=q→(s.ops.take (i+1)).foldl (ke (aO s).length (ar s) (cl s.bits)) ([],[])=q:=by
     rintro hlt q rfl;rw [List.take_add_one,List.getElem?_eq_getElem hlt,List.foldl_append,hf,List.getD_eq_getElem?_getD,List.getElem?_eq_getElem hlt];rfl
    by_cases hc:i<s.ops.length∧i<9
    ·by_cases hk0:(s.ops.getD i default).kind % 8=0∧0<l.length
     ·have hkT:((s.ops.getD i default).kind % 8 == 0 && decide ((l.length:Int)>0))=true:=by simp only [Bool.and_eq_true,beq_iff_eq,decide_eq_true_eq];omega
      repeat' (first|refine ah hkT ?_|refine ax ?_|refine an (fun K hK => ?_)|refine aa (bD _ _ (by omega) (by omega)) ?_|(refine aK (fun hb => ?_) (fun hb => ?_) <;> try exact aE)|(refine aq hK ?_;try clear hK K))
      rw [ae];have hp:=hk0.2;have hne:l≠[]:=fun h=>by rw [h] at hp;simp at hp
      have hj:l.dropLast ++ (l.getLast hne :: jk)=l ++ jk:=by
       conv=>rhs;rw [← List.dropLast_concat_getLast hne]
       simp
      refine ak (i+1,ops ++ [fE],l.dropLast,l.getLast hne :: jk) ?_ ⟨by dsimp only;omega,by dsimp only;omega,hstep hc.1 _ (by rw [ke,if_pos hk0]),by simp;omega,by rw [List.length_dropLast];dsimp only;omega⟩ (by dsimp only;omega);dsimp only;rw [hj];refine au [(1,some 1),(2,some 2),(3,some 3),(4,some 7),(5,some 5)] ?_ ?_;and_intros;all_goals try exact aj
      ·rw [List.length_dropLast];omega
      ·simp
      ·simp
      ·refine .inr fun a ha j hj=>cL (fun j hj => ?_) a ha j hj;have hivl:j=0∨j=1∨j=2∨j=3∨j=4∨j=5∨j=6∨j=7∨j=8∨j=9∨j=10∨j=11:=by omega
       rcases hivl with rfl|rfl|rfl|rfl|rfl|rfl|rfl|rfl|rfl|rfl|rfl|rfl <;> rfl
      ·rw [List.length_dropLast];omega
     ·have hkF:((s.ops.getD i default).kind % 8 == 0 && decide ((l.length:Int)>0))=false:=by
       rw [Bool.eq_false_iff];intro h;simp only [Bool.and_eq_true,beq_iff_eq,decide_eq_true_eq] at h;exact hk0 ⟨h.1,by omega⟩
      have hraw1:RawOk (s.ops.getD (i:Int).toNat default):=hraw i hc.1;have hcb : -2000000000≤(ar s).x0∧(ar s).x0≤2000000000 ∧ -2000000000≤(ar s).y0∧(ar s).y0≤2000000000:=by
       unfold ar;dsimp only;omega
      repeat' (first|refine ah hkF ?_|refine bU ?_|((first|refine an (fun K hK => ?_)|refine aa (bD _ _ (by omega) (by omega)) ?_);and_intros;all_goals first|(refine hK _ ?_;clear hK K)|try exact ai)|(refine aK (fun hb => ?_) (fun hb => ?_);all_goals try exact aE))
      any_goals (focus (simp only [beq_eq_false_iff_ne,ne_eq];omega))
      any_goals (focus (rintro ⟨q1,q2⟩;refine ⟨⟨q1,q2⟩, ?_⟩;simp only [beq_eq_false_iff_ne,ne_eq] at q1;omega))
      repeat' (first|(((with_reducible refine bT (id:=27) [] (by decide +kernel) (by decide +kernel) ?_ (fun K hK => ?_));exact dK);(try simp (maxSteps:=999999)(disch:=omega) only [go_sem]);and_intros;(all_goals first|(refine hK _ bG ?_;clear hK K)|exact ai|skip))|(refine aa (GD _ _ _ (ar s) _ (cl s.bits) hraw1 (by omega) (by omega) hcb.1 hcb.2.1 hcb.2.2.1 hcb.2.2.2 h3m) ?_;and_intros;all_goals first|(refine hK _ ?_;clear hK K)|try exact ai))
      refine hK _ trivial ?_;clear hK;have hfr:((l.length:Int) == 0 || ((l ++ jk).getD ((l.length:Int) - 1).toNat default).isolated && !((l ++ jk).getD ((l.length:Int) - 1).toNat default).knockout)=hZ l:=by
       cases hl0:l with
       | nil=>rfl
       | cons a r =>
        rw [← hl0];have hpos:0<l.length:=by rw [hl0];simp
        have e1:((l.length:Int) - 1).toNat=l.length - 1:=by omega
        have e2:(l ++ jk).getD (l.length - 1) default=l.getD (l.length - 1) default:=by rw [List.getD_eq_getElem?_getD,List.getD_eq_getElem?_getD,List.getElem?_append_left (by omega)]
        have e3:((l.length:Int) == 0)=false:=beq_eq_false_iff_ne.2 (by omega);have e4:l.isEmpty=false:=by rw [hl0];rfl
        rw [e1,e2,e3,hZ,e4]
      generalize hO:oo (s.ops.getD i default) (decide ((s.ops.getD i default).kind % 8<3)) (aO s).length (ar s).x0 (ar s).y0 (hZ l) (cl s.bits)=O at *
      by_cases hp:(s.ops.getD i default).kind % 8<3
      ·have gk:∀ f x y,((oo (s.ops.getD i default) (decide ((s.ops.getD i default).kind % 8<3)) (aO s).length x y f (cl s.bits)).kind == 2)=true:=fun f x y=>by rw [decide_eq_true hp];rfl
       repeat' (first|refine ah gk ?_|refine aC ?_)
       rw [ae];simp only [hfr,Int.toNat_natCast,hO];refine ak (i+1,ops ++ [O],l ++ [O],[]) ?_ ⟨by dsimp only;omega,by dsimp only;omega,hstep hc.1 _ (by rw [ke,if_neg hk0,if_pos hp];dsimp only;rw [hO]),by simp;omega,by simp;omega⟩ (by dsimp only;omega);simp only [List.append_nil,List.length_nil,Nat.add_zero];refine au [(1,some 1),(2,some 2),(3,some 3),(4,some 8),(5,some 10)] ?_ ?_;and_intros;all_goals try exact aj
       ·simp
       ·simp
       ·simp
       ·refine .inr fun a ha j hj=>cL (fun j hj => ?_) a ha j hj;have hivl:j=0∨j=1∨j=2∨j=3∨j=4∨j=5∨j=6∨j=7∨j=8∨j=9∨j=10∨j=11:=by omega
        rcases hivl with rfl|rfl|rfl|rfl|rfl|rfl|rfl|rfl|rfl|rfl|rfl|rfl <;> rfl
       ·simp
       ·refine .inr fun a ha j hj=>pS (fun j hj => ?_) a ha j hj;have hivl:j=0∨j=1∨j=2∨j=3∨j=4∨j=5∨j=6∨j=7∨j=8∨j=9∨j=10∨j=11:=by omega
        rcases hivl with rfl|rfl|rfl|rfl|rfl|rfl|rfl|rfl|rfl|rfl|rfl|rfl <;> rfl
      ·have gk:∀ f x y,((oo (s.ops.getD i default) (decide ((s.ops.getD i default).kind % 8<3)) (aO s).length x y f (cl s.bits)).kind == 2)=false:=fun f x y=>by rw [decide_eq_false hp];rfl
       repeat' (first|refine ah gk ?_|refine aC ?_)
       rw [ae];simp only [hfr,Int.toNat_natCast,hO];refine ak (i+1,ops ++ [O],l,jk) ?_ ⟨by dsimp only;omega,by dsimp only;omega,hstep hc.1 _ (by rw [ke,if_neg hk0,if_neg hp];dsimp only;rw [hO]),by simp;omega,by dsimp only;omega⟩ (by dsimp only;omega);dsimp only;refine au [(1,some 1),(2,some 2),(3,some 3),(4,some 8),(5,some 5)] ?_ ?_;and_intros;all_goals try exact aj
       ·simp
       ·simp
       ·refine .inr fun a ha j hj=>cL (fun j hj => ?_) a ha j hj;have hivl:j=0∨j=1∨j=2∨j=3∨j=4∨j=5∨j=6∨j=7∨j=8∨j=9∨j=10∨j=11:=by omega
        rcases hivl with rfl|rfl|rfl|rfl|rfl|rfl|rfl|rfl|rfl|rfl|rfl|rfl <;> rfl
    ·repeat' (first|refine aC ?_|(refine aK (fun hb => ?_) (fun hb => ?_) <;> try exact aE))
     have hc2:i=s.ops.length∨i=9:=by omega
     have hfin:qK s=(ops,l):=by
      rw [qK,← hf];rcases hc2 with h|h
      ·rw [h,List.take_of_length_le (Nat.le_refl _),List.take_of_length_le (by omega)]
      ·rw [h]
     refine hV2 _ (aT [(1, .b (.c (.ptr 0 0))),(2, .b (.c (.ptr 1 0))),(4, .b (.c (.ptr 2 0))),(13, .b (.c (.own 5 l.length)))]
      [(0, .fix ((fi s).map CV.p)),(1, .fix ((List.range 10).map fun _=>CV.p .any)),(2, .fix [.p (PI (ay s).bits), .p (PI (ar s).x0), .p (PI (ar s).y0), .p (PI (ar s).x1), .p (PI (ar s).y1), .p (PI (cd s)), .p (PI (cc s)), .p (eI (ay s).order), .own 3 (aO s).length, .own 4 ops.length]),
       (3, .arr 43 28 (aO s).length (bK aI (aO s))),(4, .arr 74 12 ops.length (bK fZ ops)),(5, .arr 74 12 (l.length+jk.length) (bK fZ (l ++ jk)))] 6) ?_ ?_
     ·refine au [(1,some 1),(2,some 2),(3,some 3),(4,some 4),(5,some 5)] ?_ ?_;and_intros;all_goals try exact aj
     clear hV2 hraw hstep hf;refine fV ?_;refine ix fun K hK => ?_;refine dz ?_;and_intros;all_goals first|(refine hK _ ?_;clear hK K)|exact ai|skip
     refine aU fun KB3 hB3 => ?_
     refine aH (X:=Nat) (fun k=>aT [(1, .b (.c (.ptr 0 0))),(2, .b (.c (.ptr 1 0))),(4, .b (.c (.ptr 2 0))),(13, .b (.c (.own 5 l.length))),(19, .b (I k))]
      [(0, .fix ((fi s).map CV.p)),(1, .fix ((List.range 10).map fun _=>CV.p .any)),(2, .fix [.p (PI (ay s).bits), .p (PI (ar s).x0), .p (PI (ar s).y0), .p (PI (ar s).x1), .p (PI (ar s).y1), .p (PI (cd s)), .p (PI (cc s)), .p (eI (ay s).order), .own 3 (aO s).length, .own 4 (ops.length+k)]),
       (3, .arr 43 28 (aO s).length (bK aI (aO s))),(4, .arr 74 12 (ops.length+k) (bK fZ (ops ++ List.replicate k fE))),(5, .arr 74 12 (l.length+jk.length) (bK fZ (l ++ jk)))] 6) (fun k=>k≤l.length) (fun k=>l.length - k) 0 ?_ ?_ ?_
     ·omega
     ·refine au [(1,some 1),(2,some 2),(3,some 3),(4,some 4),(5,some 5)] ?_ ?_;and_intros;all_goals try exact aj
      exact .inl (by rw [List.replicate_zero,List.append_nil])
     ·intro k hk
      repeat' (first|refine aC ?_|(refine aK (fun hb => ?_) (fun hb => ?_) <;> try exact aE)|refine bt (S:=Sg) (by assumption) ?_)
      ·rw [ae];refine ak (k+1) ?_ (by omega) (by omega);have hl1:(ops ++ List.replicate k fE).length=ops.length+k:=by simp
       have he:(ops ++ List.replicate k fE) ++ [fE]=ops ++ List.replicate (k+1) fE:=by rw [List.append_assoc,List.replicate_succ']
       refine au [(1,some 1),(2,some 2),(3,some 3),(4,some 7),(5,some 5)] ?_ ?_;and_intros;all_goals try exact aj
       have key:=fun g hg=>cL (enc:=fZ) (xs:=ops ++ List.replicate k fE) (x:=fE) (s:=12) (g:=g) hg;simp only [hl1,he] at key;refine .inr (key _ fun j hj => ?_);have hivl:j=0∨j=1∨j=2∨j=3∨j=4∨j=5∨j=6∨j=7∨j=8∨j=9∨j=10∨j=11:=by omega
       rcases hivl with rfl|rfl|rfl|rfl|rfl|rfl|rfl|rfl|rfl|rfl|rfl|rfl <;> rfl
      ·have hk2:k=l.length:=by omega
       have e2:ops ++ List.replicate k fE=(ay s).ops:=by
        rw [hk2];show _=(qK s).1 ++ List.replicate (qK s).2.length fE;rw [hfin]
       have e1:ops.length+k=(ay s).ops.length:=by rw [← e2];simp
       rw [e1,e2];refine ⟨⟨_,rfl,rfl,fun _ _ _ _=>PV.le_refl _⟩, ?_⟩;and_intros;all_goals first|exact .inl rfl|trivial|skip
end
theorem Fs {st : St} {f : FuncId} {args : List BV} {K : SV → St → Prop} {cs : List (Option PV)} {k e sz n : Nat} {g : Nat → Nat → PV} {q : Prop} (h : mq Sg f args cs k e sz n g) (hk : q) (hw : iT 0 st := by (first | exact FD | fail))
  (ho:sB k cs=true:=by rfl) (hr:Sg.rcv f=true:=by rfl) (hl:gu args:=by simp (maxSteps:=999999)(disch:=omega) only [go_sem]) (w:q→K (.b (.agg (jX (.own st.nx n) cs))) (st.turn (aJ st.nx (.arr e sz n g) st.bx) (st.nx+1)):=by (first|(intro h;first|(simp (maxSteps:=999999)(disch:=omega) only [go_sem];exact h)|exact h)|fail)):en Sg st f args (Sl.of K):=by
 refine eT (Ms h (bS hl) ho st.bx st.nx) hr (fun i hi => ?_) (by omega) (w hk);simp only [aJ];rw [if_neg (by omega)];exact hw.1 i (by omega)
end Go.Proofs.YtcbifofjjpfbcaaGreatDoor
