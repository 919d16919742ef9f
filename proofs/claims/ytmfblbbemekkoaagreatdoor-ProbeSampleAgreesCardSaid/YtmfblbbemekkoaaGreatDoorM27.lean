/- Part of the proof: Br, BrG, BrS, BrT, P1, PN, SlRd, SlRe, Y1, TC, F24, KB. -/
import Derived.ChangeArms
import Derived.DataReads
import Derived.DataOpen
import Derived.OpenShut
import Derived.Lib.LaidTab
import Derived.Carry
import Derived.ProofKit
import Derived.WideKeyArgs
import Derived.WalkKit
import GoSem.ClaimJoined
import Derived.Test.YtmfblbbemekkoaaGreatDoorRows
import Derived.KernelRfl
import Derived.RangeFuncKeeps
import Derived.RangeFuncLeaves
import Derived.RangeFuncCalls
import Derived.LoopNIn
import Derived.OrdersIn
import Derived.TacticsIn
import Derived.RangeFuncWrites
import Derived.Shelf.Abstract
import Derived.OwnWalkIn
import Derived.TacticsInMore
import Derived.LoopIn
import Derived.Test.YtmfblbbemekkoaaGreatDoorM22
set_option linter.unusedSimpArgs false
set_option linter.unusedVariables false
namespace Go.SL
open Go Go.ChangeShapes
structure Cells (w:World) (cs:List Value) (l:List PV):Prop where
 len:cs.length=l.length
 one:∀ j,j<cs.length→(cs.getD j undef).oneCell'=true
 den:∀ j,j<cs.length→bp (· < w.heap.size) w (l.getD j .any) (cs.getD j undef)
theorem Cells.nil {w:World}:Cells w [] []:=⟨rfl,fun j h=>absurd h (Nat.not_lt_zero j),fun j h=>absurd h (Nat.not_lt_zero j)⟩
theorem mY {α:Type} (a b:List α) (d:α) (j:Nat) (h:j<a.length):(a ++ b).getD j d=a.getD j d:=by
 rw [List.getD_eq_getElem?_getD,List.getD_eq_getElem?_getD,List.getElem?_append_left h]
theorem lY {α:Type} (a b:List α) (d:α) (j:Nat) (h:a.length≤j):(a ++ b).getD j d=b.getD (j - a.length) d:=by
 rw [List.getD_eq_getElem?_getD,List.getD_eq_getElem?_getD,List.getElem?_append_right h]
theorem Cells.append {w:World} {a b:List Value} {l r:List PV} (h:Cells w a l) (k:Cells w b r):Cells w (a ++ b) (l ++ r):=by
 refine ⟨by rw [List.length_append,List.length_append,h.len,k.len],fun j hj => ?_,fun j hj => ?_⟩
 ·rw [List.length_append] at hj
  by_cases hc:j<a.length
  ·rw [mY _ _ _ _ hc];exact h.one j hc
  ·rw [lY _ _ _ _ (by omega)];exact k.one _ (by omega)
 ·rw [List.length_append] at hj
  by_cases hc:j<a.length
  ·rw [mY _ _ _ _ hc,mY _ _ _ _ (by rw [← h.len];exact hc)];exact h.den j hc
  ·rw [lY l r _ _ (by have:=h.len;omega),lY a b _ _ (by omega),← h.len];exact k.den _ (by omega)
theorem Cells.one1 {w:World} {u:Value} {p:PV} (h1:u.oneCell'=true) (h:bp (· < w.heap.size) w p u):Cells w [u] [p]:=by
 refine ⟨rfl,fun j hj => ?_,fun j hj => ?_⟩ <;> (obtain rfl:j=0:=by simp at hj;exact hj)
 ·exact h1
 ·exact h
def nZ {α:Type} (P:Program) (t:TypeId) (E:α→List PV) (Ok:α→Prop):Prop :=
 ∀ (H:Type) (enc:TypeId × Value→H) (w:World) (sp:Nat→Bool) (held:Bool) (fuel:Nat) (cs:List Value) (x:DataW H × List MemPlace),
  DataW.trod enc P w 0 sp held fuel t cs=some x→(DataW.weights P t x.1).all (· ≤ reachBytes)=true→∃ a:α,Ok a∧Cells w cs (E a)
theorem nZ.to {α β:Type} {P:Program} {t:TypeId} {E:α→List PV} {Ok:α→Prop} {E':β→List PV} {Ok':β→Prop} (h:nZ P t E Ok) (g:α→β) (hE:∀ a,E' (g a)=E a) (hO:∀ a,Ok a→Ok' (g a)):nZ P t E' Ok':=by
 intro H enc w sp held fuel cs x hx hw
 obtain ⟨a,ho,hc⟩:=h H enc w sp held fuel cs x hx hw
 exact ⟨g a,hO a ho,by rw [hE];exact hc⟩
theorem CE {P:Program} {t:TypeId} {k:IntKind} (ht:P.underlying t=some (.int k)):nZ P t (fun n=>[PV.val (.int k n)]) (fun n=>(Lit.int k n).wf=true):=by
 intro H enc w sp held fuel cs x hx _
 obtain ⟨n,rfl,_,hw⟩:=DataW.trod_int ht hx
 exact ⟨n,hw,Cells.one1 rfl rfl⟩
theorem HH {P:Program} {t:TypeId} (ht:P.underlying t=some .bool):nZ P t (fun b=>[PV.val (.bool b)]) (fun _=>True):=by
 intro H enc w sp held fuel cs x hx _
 obtain ⟨b,rfl,_⟩:=DataW.trod_bool ht hx
 exact ⟨b,trivial,Cells.one1 rfl rfl⟩
def fieldsOf (P:Program) (t:TypeId):Option (List (TypeId × Nat)) :=
 match P.underlying t with
 | some (.struct fs)=>some (fs.toList.map fun f=>(f.type,f.offset))
 | some (.array m e)=>some ((List.range m).map fun i=>(e,i * P.cellsOf e))
 | _=>none
theorem mc {H:Type} {P:Program} {e:TypeId}:∀ {ts:List TypeId} {l:List (DataW H)},ts.length=l.length→(∀ t ∈ ts,t=e)→DataW.weightsEach P ts l=DataW.weightsAll P e l
 | [],[],_,_=>rfl
 | t :: ts,d :: l,hl,h=>by
  simp only [DataW.weightsEach,DataW.weightsAll,h t (List.mem_cons_self ..)]
  rw [mc (by simpa using hl) (fun x hx=>h x (List.mem_cons_of_mem _ hx))]
 | [],_ :: _,hl,_=>by simp at hl
 | _ :: _,[],hl,_=>by simp at hl
theorem uX {H : Type} {enc : TypeId × Value → H} {P : Program} {w : World} {sp : Nat → Bool} {held : Bool} {fuel : Nat} {cs : List Value} {x : DataW H × List MemPlace} {t : TypeId} {l : List (TypeId × Nat)} (h : fieldsOf P t = some l)
  (hx:DataW.trod enc P w 0 sp held fuel t cs=some x):∃ (xs:List (DataW H × List MemPlace)) (m:Nat),x=(.agg (xs.map (·.1)),xs.flatMap (·.2))∧cs.length=P.cellsOf t∧xs.length=l.length ∧
   (∀ (i:Nat) (f:TypeId × Nat),l[i]?=some f→DataW.trod enc P w 0 sp held m f.1 ((cs.drop f.2).take (P.cellsOf f.1))=xs[i]?) ∧
   (∀ k:List (DataW H),k.length=l.length→DataW.weights P t (.agg k)=DataW.weightsEach P (l.map (·.1)) k):=by
 unfold fieldsOf at h
 split at h
 ·rename_i fs hu
  cases h
  obtain ⟨xs,m,rfl,rfl,hlen,hxl,hf⟩:=DataW.trod_struct hu hx
  refine ⟨xs,m,rfl,hlen,by simpa using hxl,fun i f hi => ?_,fun k _ => ?_⟩
  ·rw [List.getElem?_map,Option.map_eq_some_iff] at hi
   obtain ⟨g,hg,rfl⟩:=hi
   exact hf i g (by simpa using hg)
  ·simp only [DataW.weights,hu,List.map_map]
   rfl
 ·rename_i m e hu
  cases h
  cases fuel with
  | zero=>simp [DataW.trod] at hx
  | succ fuel =>
   simp only [DataW.trod,hu] at hx
   split at hx
   ·rename_i hlen
    obtain ⟨xs,hmm,rfl⟩:=Option.map_eq_some_iff.1 hx
    refine ⟨xs,fuel,rfl,hlen,by simpa using Lib.mapM_length hmm,fun i f hi => ?_,fun k hk => ?_⟩
    ·rw [List.getElem?_map,Option.map_eq_some_iff] at hi
     obtain ⟨g,hg,rfl⟩:=hi
     obtain ⟨b,hb,hf⟩:=Lib.mapM_at hmm i g hg
     have:g=i:=by
      rw [List.getElem?_eq_some_iff] at hg
      obtain ⟨_,hg⟩:=hg
      simpa using hg.symm
     subst this
     rw [hb]
     exact hf
    ·simp only [DataW.weights,hu]
     exact (mc (by simpa using hk.symm) (fun t ht=>by simp at ht;exact ht.2.symm)).symm
   ·cases hx
 ·cases h
def JI {β:Type} (P:Program) (fs:List (TypeId × Nat)) (off n:Nat) (E:β→List PV) (Ok:β→Prop):Prop :=
 ∀ (H:Type) (enc:TypeId × Value→H) (w:World) (sp:Nat→Bool) (held:Bool) (fuel:Nat) (cs:List Value) (xs:List (DataW H × List MemPlace)),
  xs.length=fs.length→(∀ (i:Nat) (f:TypeId × Nat),fs[i]?=some f→DataW.trod enc P w 0 sp held fuel f.1 ((cs.drop f.2).take (P.cellsOf f.1))=xs[i]?) →
  (DataW.weightsEach P (fs.map (·.1)) (xs.map (·.1))).all (· ≤ reachBytes)=true→∃ b:β,Ok b∧Cells w ((cs.drop off).take n) (E b)
theorem kT {P:Program} {off:Nat}:JI P [] off 0 (fun _:Unit=>[]) (fun _=>True):=by
 intro H enc w sp held fuel cs xs _ _ _
 exact ⟨(),trivial,by rw [List.take_zero];exact Cells.nil⟩
theorem aM {α β : Type} {P : Program} {f : TypeId} {fs : List (TypeId × Nat)} {off k n : Nat} {E : α → List PV} {Ok : α → Prop} {E' : β → List PV} {Ok' : β → Prop}
  (h:nZ P f E Ok) (hk:P.cellsOf f=k) (hl:JI P fs (off+k) n E' Ok') :
  JI P ((f,off) :: fs) off (k+n) (fun x:α × β=>E x.1 ++ E' x.2) (fun x=>Ok x.1∧Ok' x.2):=by
 intro H enc w sp held fuel cs xs hlen hx hw
 obtain ⟨y,ys,rfl⟩:∃ y ys,xs=y :: ys:=by
  cases xs with
  | nil=>simp at hlen
  | cons y ys=>exact ⟨y,ys,rfl⟩
 have h0:=hx 0 (f,off) rfl
 simp only [hk] at h0
 simp only [List.getElem?_cons_zero] at h0
 simp only [List.map_cons,DataW.weightsEach,List.all_append,Bool.and_eq_true] at hw
 obtain ⟨a,ha,hca⟩:=h H enc w sp held fuel _ y h0 hw.1
 obtain ⟨b,hb,hcb⟩:=hl H enc w sp held fuel cs ys (by simpa using hlen) (fun i g hg=>by have:=hx (i+1) g (by simpa using hg);simpa using this) hw.2
 refine ⟨(a,b),⟨ha,hb⟩, ?_⟩
 rw [List.take_add,List.drop_drop]
 exact hca.append hcb
theorem ij {β:Type} {P:Program} {t:TypeId} {fs:List (TypeId × Nat)} {n:Nat} {E:β→List PV} {Ok:β→Prop} (ht:fieldsOf P t=some fs) (hn:P.cellsOf t=n) (h:JI P fs 0 n E Ok):nZ P t E Ok:=by
 intro H enc w sp held fuel cs x hx hw
 obtain ⟨xs,m,rfl,hlen,hxl,hf,hwt⟩:=uX ht hx
 rw [hwt _ (by simpa using hxl)] at hw
 obtain ⟨b,hb,hc⟩:=h H enc w sp held m cs xs hxl hf hw
 refine ⟨b,hb, ?_⟩
 rw [List.drop_zero,List.take_of_length_le (by omega)] at hc
 exact hc
theorem mf {H:Type} {P:Program} {e:TypeId}:∀ {l:List (DataW H)},(DataW.weightsAll P e l).all (· ≤ reachBytes)=true→∀ d ∈ l,(DataW.weights P e d).all (· ≤ reachBytes)=true
 | [],_,d,hd=>by cases hd
 | y :: l,h,d,hd=>by
  simp only [DataW.weightsAll,List.all_append,Bool.and_eq_true] at h
  cases hd with
  | head=>exact h.1
  | tail _ hm=>exact mf h.2 d hm
theorem cI {H:Type} {P:Program}:∀ {ts:List TypeId} {ds:List (DataW H)},(DataW.weightsEach P ts ds).all (· ≤ reachBytes)=true→∀ (j:Nat) {t:TypeId} {d:DataW H},ts[j]?=some t→ds[j]?=some d→(DataW.weights P t d).all (· ≤ reachBytes)=true
 | [],_,_,j,t,d,h,_=>by simp at h
 | _ :: _,[],_,j,t,d,_,h=>by simp at h
 | t0 :: ts,d0 :: ds,h,0,t,d,ht,hd=>by
  simp only [DataW.weightsEach,List.all_append,Bool.and_eq_true] at h
  simp only [List.getElem?_cons_zero,Option.some.injEq] at ht hd
  subst ht;subst hd
  exact h.1
 | t0 :: ts,d0 :: ds,h,j+1,t,d,ht,hd=>by
  simp only [DataW.weightsEach,List.all_append,Bool.and_eq_true] at h
  exact cI h.2 j (by simpa using ht) (by simpa using hd)
theorem qZ {α:Type} [Inhabited α] {R:Nat→α→Prop}:∀ (n:Nat),(∀ i,i<n→∃ y,R i y)→∃ l:List α,l.length=n∧∀ i,i<n→R i (l.getD i default)
 | 0,_=>⟨[],rfl,fun i h=>absurd h (Nat.not_lt_zero i)⟩
 | n+1,h=>by
  obtain ⟨l,hl,hr⟩:=qZ n (fun i hi=>h i (by omega))
  obtain ⟨y,hy⟩:=h n (by omega)
  refine ⟨l ++ [y],by simp [hl],fun i hi => ?_⟩
  by_cases hc:i<n
  ·rw [mY _ _ _ _ (by omega)];exact hr i hc
  ·obtain rfl:i=n:=by omega
   rw [lY _ _ _ _ (by omega),hl,Nat.sub_self]
   exact hy
theorem nt {α : Type} [Inhabited α] {P : Program} {t e : TypeId} {sz by8 : Nat} {E : α → List PV} {Ok : α → Prop} (ht : P.underlying t = some (.slice e)) (hs : P.cellsOf e = sz) (hpos : 0 < sz) (hb : P.bytesOf e = by8) (h : nZ P e E Ok) :
  nZ P t (fun l:List α=>[PV.lst sz l.length (bj E l)]) (fun l=>l.length * by8≤reachBytes∧∀ x ∈ l,Ok x):=by
 intro H enc w sp held fuel cs x hx hw
 rcases DataW.trod_slice ht hx with ⟨rfl,rfl⟩|⟨a,len,cap,elems,rest,m,rfl,rfl,rfl,hbase,hle,hcap,hel,hev,_,_⟩
 ·exact ⟨[],⟨by simp,fun x hx=>by cases hx⟩,Cells.one1 rfl ⟨none,0,rfl,Nat.le_refl 0,fun h=>absurd h (Nat.lt_irrefl 0)⟩⟩
 ·simp only [DataW.weights,ht,List.all_cons,List.all_append,Bool.and_eq_true,decide_eq_true_eq,List.length_map,hb] at hw
  obtain ⟨hw1,hw2,_⟩:=hw
  have hall:=mf hw2
  have each:∀ i,i<len→∃ y:α,Ok y∧∃ c,c.length=sz∧(∀ j,j<sz→w.cell? ((a.add (i * sz)).add j)=c[j]?)∧Cells w c (E y):=by
   intro i hi
   have:=hev i hi
   rw [hs,List.getElem?_eq_getElem (by omega),Option.bind_eq_some_iff] at this
   obtain ⟨c,hc,htr⟩:=this
   obtain ⟨_,hlen,hcell⟩:=World.cells?_some hc
   obtain ⟨y,hy,hcy⟩:=h H enc w sp held m c _ htr (hall _ (List.mem_map_of_mem (List.getElem_mem _)))
   exact ⟨y,hy,c,hlen,hcell,hcy⟩
  obtain ⟨l,hl,hR⟩:=qZ len each
  refine ⟨l,⟨Nat.le_trans (by rw [hl,← hel];exact Nat.mul_le_mul_right _ (Nat.le_add_right _ _)) hw1,fun y hy => ?_⟩,Cells.one1 rfl ⟨some a,cap,by rw [hl],by rw [hl];exact hle,fun hp => ?_⟩⟩
  ·obtain ⟨i,hi,rfl⟩:=List.getElem_of_mem hy
   have:=(hR i (by omega)).1
   rwa [List.getD_eq_getElem?_getD,List.getElem?_eq_getElem hi] at this
  ·rw [hl] at hp
   obtain ⟨b,o,sp0⟩:=a
   obtain ⟨_,c,hlc,hc,hcc⟩:=hR 0 hp
   have h0:=hc 0 hpos
   rw [List.getElem?_eq_getElem (by omega)] at h0
   have hspot:sp0=none:=by simpa [Addr.add] using World.cell?_spot h0
   subst hspot
   refine ⟨b,o,rfl, ?_,fun i hi j hj => ?_⟩
   ·simp only [Nat.zero_mul,Addr.add,if_true] at h0
    unfold World.cell? at h0
    split at h0
    ·rename_i hh
     exact (Array.getElem?_eq_some_iff.1 hh).1
    ·cases h0
   ·rw [hl] at hi
    obtain ⟨_,c,hlc,hc,hcc⟩:=hR i hi
    have hj':=hc j hj
    rw [List.getElem?_eq_getElem (by omega)] at hj'
    have e1:(Addr.add (Addr.add ⟨b,o,none⟩ (i * sz)) j)=⟨b,o+(i * sz+j),none⟩:=by
     unfold Addr.add
     by_cases h1:i * sz=0 <;> by_cases h2:j=0 <;> simp [h1,h2,Nat.add_assoc]
    rw [e1] at hj'
    have o1:=hcc.one j (by omega)
    have d1:=hcc.den j (by omega)
    rw [List.getD_eq_getElem?_getD,List.getElem?_eq_getElem (by omega),Option.getD_some] at o1
    rw [List.getD_eq_getElem?_getD (l:=c),List.getElem?_eq_getElem (by omega),Option.getD_some] at d1
    exact ⟨_,hj',o1,d1⟩
theorem nZ.argN {α : Type} {P : Program} {t : TypeId} {E : α → List PV} {Ok : α → Prop} (h : nZ P t E Ok) {H : Type} {enc : TypeId × Value → H} {w : World} {sp : Nat → Bool} {held : Bool} {us : Array Value} {d : DataW H} {ps : List MemPlace}
  (hd:DataW.Trod enc P w 0 sp held t (.agg us) d ps) (hw:(DataW.weights P t d).all (· ≤ reachBytes)=true):∃ a,Ok a∧bT bR (· < w.heap.size) w (.agg ((E a).map CV.p)) (.agg us):=by
 obtain ⟨fuel,hf⟩:=hd
 obtain ⟨a,ha,hc⟩:=h H enc w sp held fuel _ _ hf hw
 have hlen:us.size=(E a).length:=by have:=hc.len;simpa [Value.cells] using this
 refine ⟨a,ha,us,rfl,by simpa using hlen,fun j hj => ?_,fun j => ?_⟩
 ·have:=hc.one j (by simpa [Value.cells] using hj)
  simpa [Value.cells] using this
 ·by_cases hj:j<us.size
  ·have h1:=hc.den j (by simpa [Value.cells] using hj)
   have e1:((E a).map CV.p).getD j .any=CV.p ((E a).getD j .any):=by
    rw [List.getD_eq_getElem?_getD,List.getD_eq_getElem?_getD,List.getElem?_map]
    cases (E a)[j]? <;> rfl
   rw [e1]
   simpa [Value.cells,cd] using h1
  ·have e1:((E a).map CV.p).getD j .any=CV.any:=by
    rw [List.getD_eq_getElem?_getD,List.getElem?_eq_none (by simp;omega)];rfl
   rw [e1]
   simp [cd,bp]
def PT:Lit→Value
 | .int k n => .int k n
 | .bool b => .bool b
 | .string s => .string ⟨s.toArray⟩
 | .float k b => .float k b
 | .nil => .nilIface
mutual
def kY {H:Type}:DataW H→List Value
 | .lit l=>[PT l]
 | .agg parts=>jy parts
 | .nil=>[]
 | .ptr _=>[]
 | .slice _ _=>[]
 | .iface _ _=>[]
 | .map _=>[]
 | .held _=>[]
def jy {H:Type}:List (DataW H)→List Value
 | []=>[]
 | d :: r=>kY d ++ jy r
end
def TS (H:Type) (P:Program) (t:TypeId) (n:Nat) (d:DataW H):Prop :=
 ∀ (enc:TypeId × Value→H) (w:World) (sp:Nat→Bool) (held:Bool) (fuel:Nat) (cs:List Value) (ps:List MemPlace),DataW.trod enc P w 0 sp held fuel t cs=some (d,ps)→cs=kY d∧cs.length=n
def te (P:Program) (t:TypeId) (n:Nat):Prop:=P.cellsOf t=n∧∀ (H:Type) (d:DataW H),TS H P t n d
theorem sB {P:Program} {t:TypeId} {k:IntKind} (ht:P.underlying t=some (.int k)) (hn:P.cellsOf t=1):te P t 1:=by
 refine ⟨hn,fun H d enc w sp held fuel cs ps h => ?_⟩
 obtain ⟨n,rfl,hx,_⟩:=DataW.trod_int ht h
 cases hx
 exact ⟨rfl,rfl⟩
theorem zJ {P:Program} {t:TypeId} (ht:P.underlying t=some .string) (hn:P.cellsOf t=1):te P t 1:=by
 refine ⟨hn,fun H d enc w sp held fuel cs ps h => ?_⟩
 obtain ⟨s,rfl,hx,_⟩:=DataW.trod_string ht h
 cases hx
 exact ⟨by simp [kY,PT],rfl⟩
def LD (P:Program) (fs:List (TypeId × Nat)) (off n:Nat):Prop :=
 ∀ (H:Type) (enc:TypeId × Value→H) (w:World) (sp:Nat→Bool) (held:Bool) (fuel:Nat) (cs:List Value) (xs:List (DataW H × List MemPlace)),
  xs.length=fs.length→(∀ (i:Nat) (f:TypeId × Nat),fs[i]?=some f→DataW.trod enc P w 0 sp held fuel f.1 ((cs.drop f.2).take (P.cellsOf f.1))=xs[i]?) →
  (cs.drop off).take n=jy (xs.map (·.1))
theorem HG {P:Program} {off:Nat}:LD P [] off 0:=by
 intro H enc w sp held fuel cs xs hl _
 obtain rfl:xs=[]:=List.length_eq_zero_iff.1 hl
 simp [jy]
theorem mZ {P:Program} {f:TypeId} {fs:List (TypeId × Nat)} {off k n:Nat} (h:te P f k) (hl:LD P fs (off+k) n):LD P ((f,off) :: fs) off (k+n):=by
 intro H enc w sp held fuel cs xs hlen hx
 obtain ⟨y,ys,rfl⟩:∃ y ys,xs=y :: ys:=by
  cases xs with
  | nil=>simp at hlen
  | cons y ys=>exact ⟨y,ys,rfl⟩
 have h0:=hx 0 (f,off) rfl
 simp only [h.1] at h0
 simp only [List.getElem?_cons_zero] at h0
 have e0:=(h.2 H y.1 enc w sp held fuel _ y.2 h0).1
 have e1:=hl H enc w sp held fuel cs ys (by simpa using hlen) (fun i g hg=>by have:=hx (i+1) g (by simpa using hg);simpa using this)
 rw [List.take_add,List.drop_drop,e0,e1]
 rfl
theorem yP {P:Program} {t:TypeId} {fs:List (TypeId × Nat)} {n:Nat} (ht:fieldsOf P t=some fs) (hn:P.cellsOf t=n) (h:LD P fs 0 n):te P t n:=by
 refine ⟨hn,fun H d enc w sp held fuel cs ps hx => ?_⟩
 obtain ⟨xs,m,hd,hlen,hxl,hf,_⟩:=uX ht hx
 cases hd
 have:=h H enc w sp held m cs xs hxl hf
 rw [List.drop_zero,List.take_of_length_le (by omega)] at this
 exact ⟨by rw [this];rfl,by omega⟩
theorem AB {H : Type} {P : Program} {e : TypeId} {k : Nat} (h : te P e k) {enc : TypeId × Value → H} {w : World} {sp : Nat → Bool} {held : Bool} {fuel : Nat} {cs : List Value} :
  ∀ (m off:Nat) (xs:List (DataW H × List MemPlace)),xs.length=m→(∀ i,i<m→DataW.trod enc P w 0 sp held fuel e ((cs.drop (off+i * k)).take k)=xs[i]?)→(cs.drop off).take (m * k)=jy (xs.map (·.1))
 | 0,off,xs,hl,_=>by
  obtain rfl:xs=[]:=List.length_eq_zero_iff.1 hl
  simp [jy]
 | m+1,off,[],hl,_=>by simp at hl
 | m+1,off,y :: ys,hl,hx=>by
  have h0:=hx 0 (by omega)
  simp only [Nat.zero_mul,Nat.add_zero,List.getElem?_cons_zero] at h0
  have e0:=(h.2 H y.1 enc w sp held fuel _ y.2 h0).1
  have e1:=AB h m (off+k) ys (by simpa using hl) (fun i hi=>by
   have:=hx (i+1) (by omega)
   rw [show off+(i+1) * k=off+k+i * k by rw [Nat.succ_mul];omega] at this
   simpa using this)
  rw [show (m+1) * k=k+m * k by rw [Nat.succ_mul];omega,List.take_add,List.drop_drop,e0,e1]
  rfl
theorem yY {P:Program} {t e:TypeId} {m k n:Nat} (ht:P.underlying t=some (.array m e)) (hn:P.cellsOf t=n) (hm:n=m * k) (h:te P e k):te P t n:=by
 refine ⟨hn,fun H d enc w sp held fuel cs ps hx => ?_⟩
 cases fuel with
 | zero=>simp [DataW.trod] at hx
 | succ fuel =>
  simp only [DataW.trod,ht,h.1] at hx
  split at hx
  ·rename_i hl
   obtain ⟨xs,hmm,hxx⟩:=Option.map_eq_some_iff.1 hx
   cases hxx
   have hxl:xs.length=m:=by simpa using Lib.mapM_length hmm
   have:=AB (k:=k) h (enc:=enc) (w:=w) (sp:=sp) (held:=held) (fuel:=fuel) (cs:=cs) m 0 xs hxl (fun i hi=>by
    obtain ⟨b,hb,hf⟩:=Lib.mapM_at hmm i i (by simp [hi])
    rw [Nat.zero_add,hf,hb])
   rw [List.drop_zero,List.take_of_length_le (by omega)] at this
   exact ⟨by rw [this];rfl,by omega⟩
  ·cases hx
theorem oI {P : Program} {w : World} : ∀ {l : List (String × DataW Unit)} {ps : List MemPlace}, DataW.LaidVars P w l ps → ∀ n d, (n, d) ∈ l →
  ∃ g t cs fuel p,P.globalNamed n=some g∧(P.globals[g]?).map (·.type)=some t∧w.var? P n=some cs∧DataW.trod (fun _=>()) P w 0 (fun _=>true) false fuel t cs.toList=some (d,p)
 | [],_,_,n,d,hm=>by cases hm
 | (n0,d0) :: r,ps,h,n,d,hm=>by
  obtain ⟨g,t,cs,fuel,p,q,h1,h2,h3,h4,h5,_⟩:=h
  cases hm with
  | head=>exact ⟨g,t,cs,fuel,p,h1,h2,h3,h4⟩
  | tail _ hm=>exact oI h5 n d hm
theorem tY {P : Program} {w : World} {laid : List (String × DataW Unit)} (h : laidMet P laid w) {n : String} {d : DataW Unit} (hm : (n, d) ∈ laid) {g : Nat} {t : TypeId} {k : Nat} (hg : P.globalNamed n = some g)
  (hty:(P.globals[g]?).map (·.type)=some t) (hl:te P t k):g<w.heap.size∧∀ j,j<k→w.cell? ⟨g,j,none⟩=(kY d)[j]?:=by
 obtain ⟨ps,hv,_⟩:=h
 obtain ⟨g',t',cs,fuel,p,h1,h2,h3,h4⟩:=oI hv n d hm
 obtain rfl:g=g':=Option.some.inj (hg.symm.trans h1)
 obtain rfl:t=t':=Option.some.inj (hty.symm.trans h2)
 obtain ⟨e1,e2⟩:=hl.2 Unit d _ _ _ _ _ _ _ h4
 unfold World.var? at h3
 rw [hg,Option.bind_some] at h3
 split at h3
 ·rename_i c tt fr hh
  cases h3
  refine ⟨(Array.getElem?_eq_some_iff.1 hh).1,fun j hj => ?_⟩
  unfold World.cell?
  simp only [hh,Option.isSome_none]
  rw [← e1,Array.getElem?_toList]
  rfl
 ·cases h3
theorem Cr {w : World} {g k : Nat} {d : DataW Unit} {vs : List Value} (h : g < w.heap.size ∧ ∀ j, j < k → w.cell? ⟨g, j, none⟩ = (kY d)[j]?) (hd : kY d = vs) (hk : vs.length = k) (h1 : vs.all Value.oneCell' = true) :
  g<w.heap.size∧∀ j,j<k→∃ x,w.cell? ⟨g,j,none⟩=some x∧x.oneCell'=true∧bp (· < w.heap.size) w ((vs.map PV.val).getD j .any) x:=by
 refine ⟨h.1,fun j hj=>⟨vs[j]'(by omega), ?_, ?_, ?_⟩⟩
 ·rw [h.2 j hj,hd,List.getElem?_eq_getElem]
 ·exact List.all_eq_true.1 h1 _ (List.getElem_mem _)
 ·rw [List.getD_eq_getElem?_getD,List.getElem?_map,List.getElem?_eq_getElem (by omega)]
  rfl
section
variable {H:Type} {enc:TypeId × Value→H} {P:Program}
theorem kH (hl : laidOutB P = true) {W W' : World} (hb : RowKit.Below W.heap.size W W') {sp : Nat → Bool} : ∀ {ts : List TypeId} {vs : List Value} {ds : List (DataW H)} {ps : List MemPlace},
  (ts.all fun t=>P.readableRec t && decide (t<P.types.size))=true→DataW.TrodAll enc P W 0 (fun _=>true) true ts vs ds ps→(∀ x ∈ ps,x.block<W.heap.size)→(∀ x ∈ ps,sp x.block=true)→DataW.TrodAll enc P W' 0 sp true ts vs ds ps
 | [],[],[],ps,_,h,_,_=>h
 | t :: ts,v :: vs,d :: ds,ps,hr,h,hlt,hsp=>by
  obtain ⟨p,q,h1,h2,rfl⟩:=h
  simp only [List.all_cons,Bool.and_eq_true,decide_eq_true_eq] at hr
  exact ⟨p,q,WideElems.Trod_stays hl hr.1.1 hr.1.2 h1 (fun x hx=>hb.same (hlt x (List.mem_append_left _ hx))) (fun x hx=>hsp x (List.mem_append_left _ hx)),
   kH hl hb hr.2 h2 (fun x hx=>hlt x (List.mem_append_right _ hx)) (fun x hx=>hsp x (List.mem_append_right _ hx)),rfl⟩
 | [],_ :: _,_,_,_,h,_,_=>absurd h (by simp [DataW.TrodAll])
 | [],[],_ :: _,_,_,h,_,_=>absurd h (by simp [DataW.TrodAll])
 | _ :: _,[],_,_,_,h,_,_=>absurd h (by simp [DataW.TrodAll])
 | _ :: _,_ :: _,[],_,_,h,_,_=>absurd h (by simp [DataW.TrodAll])
theorem EF {fn : Func} {s : ChangeSpec} {fresh handsOn again : Bool} {W W' : World} {args : Array Value} {ds gs : List (DataW H)} {before : List MemPlace} {tb : TypeId} (hl : laidOutB P = true)
  (hread:(fn.params.toList.all fun t=>P.readableRec t && decide (t<P.types.size))=true) (hrt:fn.resultTypes = #[tb]) (htb:P.underlying tb=some .bool) (hv:s.vars=[])
  (hW:DataW.Whole enc P fn.params.toList s.vars false W args.toList ds gs before) (hs:s.fn H ds = { results:=[.lit (.bool true)],args:=ds }) (hb:RowKit.Below W.heap.size W W') :
  s.post enc P fn false fresh handsOn again W args (.bool true) W':=by
 have hlt:=fun p hp=>hW.lt p hp
 have hW0:=hW
 obtain ⟨p,q,hA,hV,rfl,hz,hn⟩:=hW0
 rw [hv] at hV
 obtain ⟨rfl,rfl⟩:=trodVars_none hV
 simp only [List.append_nil] at hW hlt hz hn
 have hone:(Value.bool true).resultList fn.resultTypes.size=[.bool true]:=by rw [hrt];rfl
 refine ⟨ds,[],p,[],p,[],hW, ?_, ?_, ?_,hb.frame _,fun _=>⟨?_,[.lit (.bool true)] ++ ds,[],p,⟨p,[], ?_, ?_,(List.append_nil p).symm, ?_,fun h=>by cases h⟩,fun x hx _=>hx⟩⟩
 ·rw [List.append_nil,hs,hrt]
  exact trodAll_mk1 (RowKit.shut_bool htb _)
 ·rw [List.append_nil,hs]
  exact kH hl hb hread hA hlt (fun x hx=>by simpa using hlt x hx)
 ·rw [List.append_nil,hs,hv]
  rfl
 ·exact RowKit.ok_one hrt rfl (RowKit.okWide_bool_mk htb _)
 ·have:=trodAll_append (enc:=enc) (P:=P) (w:=W') (base:=0) (spare:=fun _=>true) (held:=true) (kH hl hb hread hA hlt (fun _ _=>rfl)) (ts:=fn.resultTypes.toList) (vs:=(Value.bool true).resultList fn.resultTypes.size) (ds:=[.lit (.bool true)]) (p:=[]) (by rw [hrt];exact trodAll_mk1 (RowKit.shut_bool htb _))
  exact this
 ·rw [hv]
  rfl
 ·intro b off hm
  have:=hz b off hm
  rw [hb.frozen (p:=⟨b,off,none⟩) (hlt _ hm)]
  exact this
theorem oF {ok:Nat→Prop} {w:World}:∀ j,bT bR ok w (([]:List BV).getD j .any) (([]:List Value).getD j undef):=fun j=>by simp [bT,cd,bp]
theorem bV {ok : Nat → Prop} {w : World} {b : BV} {v : Value} {bs : List BV} {vs : List Value} (h : bT bR ok w b v) (k : ∀ j, bT bR ok w (bs.getD j .any) (vs.getD j undef)) :
  ∀ j,bT bR ok w ((b :: bs).getD j .any) ((v :: vs).getD j undef)
 | 0=>h
 | j+1=>k j
theorem lf {S : Env} {f : FuncId} {fn : Func} {s : ChangeSpec} {bvs : List BV} {fresh handsOn again : Bool} {W : World} {args : Array Value} {ds gs : List (DataW H)} {before : List MemPlace} {tb : TypeId}
  (hp:aC S f bvs (fun r=>r = .b (.c (.p (.val (.bool true)))))) (hl:laidOutB S.P=true) (hread:(fn.params.toList.all fun t=>S.P.readableRec t && decide (t<S.P.types.size))=true)
  (hrt:fn.resultTypes = #[tb]) (htb:S.P.underlying tb=some .bool) (hv:s.vars=[]) (hW:DataW.Whole enc S.P fn.params.toList s.vars false W args.toList ds gs before)
  (hs:s.fn H ds = { results:=[.lit (.bool true)],args:=ds }) (hG:lM S (· < W.heap.size) W) (hn:args.toList.length=bvs.length) (hd:∀ j,bT bR (· < W.heap.size) W (bvs.getD j .any) (args.toList.getD j undef)) :
  Calls S.P f args W fun e W'=>∃ v,e = .returned v∧s.post enc S.P fn false fresh handsOn again W args v W':=by
 have:=hp.2 (· < W.heap.size) W args (fun _ h=>h) hG (by simpa using hn) (fun j=>by have:=hd j;rwa [show args.toList.getD j undef=args.getD j undef by simp [List.getD_eq_getElem?_getD,Array.getD_eq_getD_getElem?]] at this)
 refine this.mono fun e W' h => ?_
 obtain ⟨v,r,he,hr,_,hb,hdn⟩:=h
 subst hr
 obtain rfl:v = .bool true:=hdn
 exact ⟨_,he,EF hl hread hrt htb hv hW hs hb⟩
theorem ft {α : Type} {t : TypeId} {E : α → List PV} {Ok : α → Prop} (C : nZ P t E Ok) (ht : (fieldsOf P t).isSome = true) {W : World} {r : Reach} {b0 : Nat} {v : Value} {d : DataW H} {ps : List MemPlace} {sp : Nat → Bool} {held : Bool}
  (hval:Value.okWide P W r b0 t v) (hd:DataW.Trod enc P W 0 sp held t v d ps) (hw:(DataW.weights P t d).all (· ≤ reachBytes)=true):∃ a,Ok a∧bT bR (· < W.heap.size) W (.agg ((E a).map CV.p)) v:=by
 unfold fieldsOf at ht
 unfold Value.okWide at hval
 split at ht
 ·rename_i fs hu
  rw [hu] at hval
  obtain ⟨cs,rfl,_⟩:=hval
  exact C.argN hd hw
 ·rename_i m e hu
  rw [hu] at hval
  obtain ⟨cs,rfl,_⟩:=hval
  exact C.argN hd hw
 ·cases ht
theorem eO {t : TypeId} {k : IntKind} (ht : P.underlying t = some (.int k)) {W : World} {r : Reach} {b0 : Nat} {v : Value} {d : DataW H} {ps : List MemPlace} {sp : Nat → Bool} {held : Bool}
  (hval:Value.okWide P W r b0 t v) (hd:DataW.Trod enc P W 0 sp held t v d ps):∃ n,(Lit.int k n).wf=true∧bT bR (· < W.heap.size) W (.c (.p (.val (.int k n)))) v:=by
 obtain ⟨n,rfl,_,_,hw⟩:=open_int ht hval hd
 exact ⟨n,hw,rfl⟩
end
end Go.SL
set_option maxRecDepth 100000
namespace Go.Proofs.YtmfblbbemekkoaaGreatDoor
open Go Go.SL
theorem QL:te Tryz.prog 258 13:=yY (e:=9) (m:=13) (k:=1) (by kernel_rfl) (by kernel_rfl) (by rfl) (zJ (t:=9) (by kernel_rfl) (by kernel_rfl))
def Tz:List Value:=[.string ⟨#[]⟩, .string ⟨#[110,111,114,109,97,108]⟩, .string ⟨#[109,117,108,116,105,112,108,121]⟩, .string ⟨#[115,99,114,101,101,110]⟩, .string ⟨#[111,118,101,114,108,97,121]⟩, .string ⟨#[100,97,114,107,101,110]⟩, .string ⟨#[108,105,103,104,116,101,110]⟩, .string ⟨#[99,111,108,111,114,45,100,111,100,103,101]⟩, .string ⟨#[99,111,108,111,114,45,98,117,114,110]⟩, .string ⟨#[104,97,114,100,45,108,105,103,104,116]⟩, .string ⟨#[115,111,102,116,45,108,105,103,104,116]⟩, .string ⟨#[100,105,102,102,101,114,101,110,99,101]⟩, .string ⟨#[101,120,99,108,117,115,105,111,110]⟩]
theorem SS:g0=Tz.map PV.val:=rfl
theorem RB {laid:List (String × DataW Unit)} {W:World} (h:laidMet Tryz.prog laid W) (hm:∃ n,(n,Rows.laid_compositor_blend_names) ∈ laid∧Tryz.prog.globalNamed n=some 0):0<W.heap.size∧∀ j,j<13→∃ x,W.cell? ⟨0,j,none⟩=some x∧x.oneCell'=true∧bp (· < W.heap.size) W (g0.getD j .any) x:=by
 rw [SS]
 obtain ⟨n,hm,hn⟩:=hm
 exact Cr (vs:=Tz) (tY h hm (g:=0) (t:=258) hn (by kernel_rfl) QL) (by kernel_rfl) rfl (by kernel_rfl)
theorem QE:te Tryz.prog 255 4:=yP (fs:=[(9,0),(3,1),(3,2),(3,3)]) (by kernel_rfl) (by kernel_rfl) (mZ (zJ (t:=9) (by kernel_rfl) (by kernel_rfl)) (mZ (sB (t:=3) (k := .i64) (by kernel_rfl) (by kernel_rfl)) (mZ (sB (t:=3) (k := .i64) (by kernel_rfl) (by kernel_rfl)) (mZ (sB (t:=3) (k := .i64) (by kernel_rfl) (by kernel_rfl)) (HG)))))
theorem Rj:te Tryz.prog 275 52:=yY (e:=255) (m:=13) (k:=4) (by kernel_rfl) (by kernel_rfl) (by rfl) (QE)
def Tx:List Value:=[.string ⟨#[]⟩, .int .i64 0, .int .i64 0, .int .i64 0, .string ⟨#[99,108,101,97,114]⟩, .int .i64 0, .int .i64 0, .int .i64 0, .string ⟨#[115,114,99]⟩, .int .i64 1, .int .i64 0, .int .i64 1, .string ⟨#[100,115,116]⟩, .int .i64 0, .int .i64 1, .int .i64 2, .string ⟨#[115,114,99,45,111,118,101,114]⟩, .int .i64 1, .int .i64 3, .int .i64 3, .string ⟨#[100,115,116,45,111,118,101,114]⟩, .int .i64 3, .int .i64 1, .int .i64 3, .string ⟨#[115,114,99,45,105,110]⟩, .int .i64 2, .int .i64 0, .int .i64 4, .string ⟨#[100,115,116,45,105,110]⟩, .int .i64 0, .int .i64 2, .int .i64 4, .string ⟨#[115,114,99,45,111,117,116]⟩, .int .i64 3, .int .i64 0, .int .i64 1, .string ⟨#[100,115,116,45,111,117,116]⟩, .int .i64 0, .int .i64 3, .int .i64 2, .string ⟨#[115,114,99,45,97,116,111,112]⟩, .int .i64 2, .int .i64 3, .int .i64 2, .string ⟨#[100,115,116,45,97,116,111,112]⟩, .int .i64 3, .int .i64 2, .int .i64 1, .string ⟨#[120,111,114]⟩, .int .i64 3, .int .i64 3, .int .i64 3]
theorem RZ:g1=Tx.map PV.val:=rfl
theorem SH {laid:List (String × DataW Unit)} {W:World} (h:laidMet Tryz.prog laid W) (hm:∃ n,(n,Rows.laid_compositor_operator_rules) ∈ laid∧Tryz.prog.globalNamed n=some 1):1<W.heap.size∧∀ j,j<52→∃ x,W.cell? ⟨1,j,none⟩=some x∧x.oneCell'=true∧bp (· < W.heap.size) W (g1.getD j .any) x:=by
 rw [RZ]
 obtain ⟨n,hm,hn⟩:=hm
 exact Cr (vs:=Tx) (tY h hm (g:=1) (t:=275) hn (by kernel_rfl) Rj) (by kernel_rfl) rfl (by kernel_rfl)
theorem glOk {laid:List (String × DataW Unit)} {W:World} (h:laidMet Tryz.prog laid W) (h0:∃ n,(n,Rows.laid_compositor_blend_names) ∈ laid∧Tryz.prog.globalNamed n=some 0:=by first|exact ⟨_, .head _,by kernel_rfl⟩|exact ⟨_, .tail _ (.head _),by kernel_rfl⟩|exact ⟨_, .tail _ (.tail _ (.head _)),by kernel_rfl⟩|exact ⟨_, .tail _ (.tail _ (.tail _ (.head _))),by kernel_rfl⟩) (h1:∃ n,(n,Rows.laid_compositor_operator_rules) ∈ laid∧Tryz.prog.globalNamed n=some 1:=by first|exact ⟨_, .head _,by kernel_rfl⟩|exact ⟨_, .tail _ (.head _),by kernel_rfl⟩|exact ⟨_, .tail _ (.tail _ (.head _)),by kernel_rfl⟩|exact ⟨_, .tail _ (.tail _ (.tail _ (.head _))),by kernel_rfl⟩):lM Sg (· < W.heap.size) W:=by
 intro g n f hg
 have hg:NT g=some (n,f):=hg
 unfold NT at hg
 split at hg
 ·rename_i e;subst e;cases hg;exact RB h h0
 split at hg
 ·rename_i e;subst e;cases hg;exact SH h h1
 cases hg
noncomputable def cX (os : Os) : World := { World.holding Tryz.prog os ⟨#[], #[], []⟩ with heap := (((((World.holding Tryz.prog os ⟨#[], #[], []⟩).heap).modify 0 fun
   | .cells _ t fr => .cells #[.string ⟨#[]⟩, .string ⟨#[110,111,114,109,97,108]⟩, .string ⟨#[109,117,108,116,105,112,108,121]⟩, .string ⟨#[115,99,114,101,101,110]⟩, .string ⟨#[111,118,101,114,108,97,121]⟩, .string ⟨#[100,97,114,107,101,110]⟩, .string ⟨#[108,105,103,104,116,101,110]⟩, .string ⟨#[99,111,108,111,114,45,100,111,100,103,101]⟩, .string ⟨#[99,111,108,111,114,45,98,117,114,110]⟩, .string ⟨#[104,97,114,100,45,108,105,103,104,116]⟩, .string ⟨#[115,111,102,116,45,108,105,103,104,116]⟩, .string ⟨#[100,105,102,102,101,114,101,110,99,101]⟩, .string ⟨#[101,120,99,108,117,115,105,111,110]⟩] t fr
   | o=>o)).modify 1 fun
   | .cells _ t fr => .cells #[.string ⟨#[]⟩, .int .i64 0, .int .i64 0, .int .i64 0, .string ⟨#[99,108,101,97,114]⟩, .int .i64 0, .int .i64 0, .int .i64 0, .string ⟨#[115,114,99]⟩, .int .i64 1, .int .i64 0, .int .i64 1, .string ⟨#[100,115,116]⟩, .int .i64 0, .int .i64 1, .int .i64 2, .string ⟨#[115,114,99,45,111,118,101,114]⟩, .int .i64 1, .int .i64 3, .int .i64 3, .string ⟨#[100,115,116,45,111,118,101,114]⟩, .int .i64 3, .int .i64 1, .int .i64 3, .string ⟨#[115,114,99,45,105,110]⟩, .int .i64 2, .int .i64 0, .int .i64 4, .string ⟨#[100,115,116,45,105,110]⟩, .int .i64 0, .int .i64 2, .int .i64 4, .string ⟨#[115,114,99,45,111,117,116]⟩, .int .i64 3, .int .i64 0, .int .i64 1, .string ⟨#[100,115,116,45,111,117,116]⟩, .int .i64 0, .int .i64 3, .int .i64 2, .string ⟨#[115,114,99,45,97,116,111,112]⟩, .int .i64 2, .int .i64 3, .int .i64 2, .string ⟨#[100,115,116,45,97,116,111,112]⟩, .int .i64 3, .int .i64 2, .int .i64 1, .string ⟨#[120,111,114]⟩, .int .i64 3, .int .i64 3, .int .i64 3] t fr
   | o=>o) }
end Go.Proofs.YtmfblbbemekkoaaGreatDoor
set_option maxRecDepth 8000
namespace Go.Proofs.YtmfblbbemekkoaaGreatDoor
open Go Go.SL
theorem sF {n:Int} (h:(Lit.int .i64 n).wf=true):i64 n:=bounds_i64 h
theorem Pa {n:Int} (h:(Lit.int .u16 n).wf=true):u16 n:=bounds_u16 h
theorem uq {α:Type} [Inhabited α] {p:α→Prop} {l:List α} (h:∀ x ∈ l,p x) (i:Nat) (hi:i<l.length):p (l.getD i default):=by
 rw [List.getD_eq_getElem?_getD,List.getElem?_eq_getElem hi]
 exact h _ (List.getElem_mem _)
theorem xz {n b:Nat} (hb:0<b) (h:n * b≤reachBytes):n≤4611686018427387904:=by
 have:n≤n * b:=Nat.le_mul_of_pos_right _ hb
 have e:reachBytes=140737488351232:=rfl
 omega
theorem cV:nZ Sg.P 3 (fun n=>[PI n]) i64:=(CE (k := .i64) (by kernel_rfl)).to id (fun _=>rfl) (fun _ h=>sF h)
theorem Pz:nZ Sg.P 27 (fun n=>[PU n]) u16:=(CE (k := .u16) (by kernel_rfl)).to id (fun _=>rfl) (fun _ h=>Pa h)
theorem Gq:nZ Sg.P 4 (fun b=>[PB b]) (fun _=>True):=HH (by kernel_rfl)
theorem NA:nZ Sg.P 22 (fun l=>[dQ l]) (fun l=>l.length≤4611686018427387904∧∀ x ∈ l,i64 x) :=
 (nt (sz:=1) (by8:=8) (by kernel_rfl) (by kernel_rfl) (by decide) (by kernel_rfl) cV).to id (fun _=>rfl) (fun _ h=>⟨xz (by decide) h.1,h.2⟩)
theorem Mb:nZ Sg.P 31 za RawOk:=by
 refine nZ.to (ij ?_ ?_ (aM cV rfl (aM cV rfl (aM cV rfl (aM cV rfl (aM cV rfl (aM cV rfl (aM cV rfl (aM cV rfl (aM cV rfl (aM cV rfl (aM cV rfl kT))))))))))))
  (fun (a,b,c,d,e,f,g,h,i,j,k,_)=>(⟨a,b,c,d,e,f,g,h,i,j,k⟩:Raw)) (fun _=>rfl) ?_
 ·kernel_rfl
 ·kernel_rfl
 ·rintro _ ⟨h1,h2,h3,h4,h5,h6,h7,h8,h9,h10,h11,_⟩
  exact ⟨h1,h2,h3,h4,h5,h6,h7,h8,h9,h10,h11⟩
theorem SE:nZ Sg.P 130 RA N5ok:=by
 refine nZ.to (ij ?_ ?_ (aM cV rfl (aM cV rfl (aM cV rfl (aM cV rfl (aM cV rfl kT)))))) (fun (a,b,c,d,e,_)=>(⟨a,b,c,d,e⟩:N5)) (fun _=>rfl) ?_
 ·kernel_rfl
 ·kernel_rfl
 ·rintro _ ⟨h1,h2,h3,h4,h5,_⟩
  exact ⟨h1,h2,h3,h4,h5⟩
theorem Rt:nZ Sg.P 76 (fun l=>[Ry l]) (fun l=>l.length≤4611686018427387904∧∀ x ∈ l,N5ok x) :=
 (nt (sz:=5) (by8:=40) (by kernel_rfl) (by kernel_rfl) (by decide) (by kernel_rfl) SE).to id (fun _=>rfl) (fun _ h=>⟨xz (by decide) h.1,h.2⟩)
theorem Rc:nZ Sg.P 78 JT RowOk:=by
 refine nZ.to (ij ?_ ?_ (aM cV rfl (aM Rt rfl kT))) (fun (a,b,_)=>(⟨a,b⟩:Row)) (fun _=>rfl) ?_
 ·kernel_rfl
 ·kernel_rfl
 ·rintro _ ⟨h1,h2,_⟩
  exact ⟨h1,uq h2.2,h2.1⟩
theorem Ru:nZ Sg.P 80 FS PicOk:=by
 refine nZ.to (ij ?_ ?_ (aM cV rfl (aM cV rfl (aM cV rfl (aM Rc rfl kT))))) (fun (a,b,c,d,_)=>(⟨a,b,c,d⟩:Pic)) (fun _=>rfl) ?_
 ·kernel_rfl
 ·kernel_rfl
 ·rintro _ ⟨h1,h2,h3,h4,_⟩
  exact ⟨h1,h2,h3,h4⟩
theorem Om:nZ Sg.P 23 (fun l=>[Na l]) (fun l=>l.length≤4611686018427387904∧∀ x ∈ l,PicOk x) :=
 (nt (sz:=5) (by8:=56) (by kernel_rfl) (by kernel_rfl) (by decide) (by kernel_rfl) Ru).to id (fun _=>rfl) (fun _ h=>⟨xz (by decide) h.1,h.2⟩)
theorem Nv:nZ Sg.P 24 (fun l=>[MJ l]) (fun l=>l.length≤4611686018427387904∧∀ x ∈ l,RawOk x) :=
 (nt (sz:=11) (by8:=88) (by kernel_rfl) (by kernel_rfl) (by decide) (by kernel_rfl) Mb).to id (fun _=>rfl) (fun _ h=>⟨xz (by decide) h.1,h.2⟩)
theorem oC:nZ Sg.P 26 dk SceneOk:=by
 refine nZ.to (ij ?_ ?_ (aM cV rfl (aM cV rfl (aM cV rfl (aM cV rfl (aM cV rfl (aM cV rfl (aM cV rfl (aM NA rfl (aM Om rfl (aM Nv rfl kT)))))))))))
  (fun (a,b,c,d,e,f,g,h,i,j,_)=>(⟨a,b,c,d,e,f,g,h,i,j⟩:Scene)) (fun _=>rfl) ?_
 ·kernel_rfl
 ·kernel_rfl
 ·rintro _ ⟨h1,h2,h3,h4,h5,h6,h7,h8,h9,h10,_⟩
  exact ⟨h1,h2,h3,h4,h5,h6,h7,h8.1,h9.1,h10.1,uq h9.2,uq h10.2⟩
theorem QV:nZ Sg.P 29 cT (fun o=>i64 o.kind∧i64 o.image∧i64 o.x∧i64 o.y∧i64 o.mask∧i64 o.maskX∧i64 o.maskY∧u16 o.opacity∧i64 o.operator∧i64 o.mode):=by
 refine nZ.to (ij ?_ ?_ (aM cV rfl (aM cV rfl (aM cV rfl (aM cV rfl (aM cV rfl (aM cV rfl (aM cV rfl (aM Pz rfl (aM cV rfl (aM cV rfl (aM Gq rfl (aM Gq rfl kT)))))))))))))
  (fun (a,b,c,d,e,f,g,h,i,j,k,l,_)=>(⟨a,b,c,d,e,f,g,h,i,j,k,l⟩:Op)) (fun _=>rfl) ?_
 ·kernel_rfl
 ·kernel_rfl
 ·rintro _ ⟨h1,h2,h3,h4,h5,h6,h7,h8,h9,h10,_⟩
  exact ⟨h1,h2,h3,h4,h5,h6,h7,h8,h9,h10⟩
end Go.Proofs.YtmfblbbemekkoaaGreatDoor
namespace Go.SL
open Go Go.ChangeShapes Go.WideShapes Go.ChangeAt Go.RowKit
section
variable {P:Program} {H:Type} {enc:TypeId × Value→H}
theorem pa {w : World} {cz : Nat} {spare : Nat → Bool} {held : Bool} {t0 t1 t2 t3 t4 : TypeId} {args : Array Value} {ds : List (DataW H)} {ps : List MemPlace} (h : DataW.TrodAll enc P w cz spare held [t0, t1, t2, t3, t4] args.toList ds ps) :
  ∃ v0 v1 v2 v3 v4 d0 d1 d2 d3 d4 p0 p1 p2 p3 p4,args = #[v0,v1,v2,v3,v4]∧ds=[d0,d1,d2,d3,d4]∧ps=p0 ++ p1 ++ p2 ++ p3 ++ p4∧DataW.Trod enc P w cz spare held t0 v0 d0 p0∧DataW.Trod enc P w cz spare held t1 v1 d1 p1 ∧
   DataW.Trod enc P w cz spare held t2 v2 d2 p2∧DataW.Trod enc P w cz spare held t3 v3 d3 p3∧DataW.Trod enc P w cz spare held t4 v4 d4 p4:=by
 obtain ⟨v0,vs,d0,ds',p0,q,hargs,rfl,rfl,h0,hrest⟩:=trodAll_cons h
 obtain ⟨v1,vs1,d1,ds1,p1,q1,rfl,rfl,rfl,h1,hrest1⟩:=trodAll_cons hrest
 obtain ⟨v2,vs2,d2,ds2,p2,q2,rfl,rfl,rfl,h2,hrest2⟩:=trodAll_cons hrest1
 obtain ⟨v3,vs3,d3,ds3,p3,q3,rfl,rfl,rfl,h3,hrest3⟩:=trodAll_cons hrest2
 obtain ⟨v4,vs4,d4,ds4,p4,q4,rfl,rfl,rfl,h4,hrest4⟩:=trodAll_cons hrest3
 obtain ⟨rfl,rfl,rfl⟩:=trodAll_nil hrest4
 exact ⟨v0,v1,v2,v3,v4,d0,d1,d2,d3,d4,p0,p1,p2,p3,p4,by cases args;simp_all,rfl,by simp,h0,h1,h2,h3,h4⟩
end
end Go.SL
set_option maxHeartbeats 1000000
namespace Go.Proofs.YtmfblbbemekkoaaGreatDoor
structure Mic where
 op:Int
 kind:Int
 inp:Pixel
 back:Pixel
 k:Int
 out:Pixel
 deriving DecidableEq,Inhabited
def dP (a:Acc):Pixel:=⟨a.c0,a.c1,a.c2,a.a,a.f⟩
def oS (m:Int) (o:Op) (p:Pixel) (k:Int):Pixel:=if o.mask=0 then p else aL p k m
def cc (m:Int) (i:Nat) (o:Op) (p:Pixel) (k:Int):List Mic :=
 (if o.mask=0 then [] else [⟨i,2,p,aI,k,aL p k m⟩]) ++ [⟨i,3,oS m o p k,aI,o.opacity,ax m o p k⟩]
def qs (m:Int) (z:Op→Pixel × Int) (i:Nat) (st:List Lv) (o:Op):List Mic :=
 match st with
 | []=>[]
 | t :: r =>
  if o.kind=1 then ⟨i,1,aI,aI,0,(z o).1⟩ :: (cc m i o (z o).1 (z o).2 ++ [⟨i,4,ax m o (z o).1 (z o).2,dP t.acc,0,dP (bJ m o (ax m o (z o).1 (z o).2) t).acc⟩])
  else if o.kind=2 then [⟨i,5,aI,aI,0,(fi o t).back⟩]
  else match r with
   | []=>[]
   | u :: _ => ⟨i, 6, aI, aI, 0, aU t.acc t.back m⟩ :: (cc m i t.op (aU t.acc t.back m) (z t.op).2 ++
     [⟨i,4,ax m t.op (aU t.acc t.back m) (z t.op).2,dP u.acc,0,dP (bJ m t.op (ax m t.op (aU t.acc t.back m) (z t.op).2) u).acc⟩])
def cn (m:Int) (z:Op→Pixel × Int) (ops:List Op):Nat→List Mic
 | 0=>[]
 | n+1=>cn m z ops n ++ qs m z n (fI m z ops n) (aR ops n)
theorem rm {m:Int} {o:Op} {p:Pixel} {k:Int} (hm:Full m):ax m o p k=aL (oS m o p k) o.opacity m:=by
 unfold ax oS
 split
 ·rw [gr hm]
 ·rfl
theorem tk {m : Int} {z : Op → Pixel × Int} {i : Nat} {t : Lv} {r : List Lv} {o : Op} (h : o.kind = 1) :
  qs m z i (t :: r) o=⟨i,1,aI,aI,0,(z o).1⟩ :: (cc m i o (z o).1 (z o).2 ++ [⟨i,4,ax m o (z o).1 (z o).2,dP t.acc,0,dP (bJ m o (ax m o (z o).1 (z o).2) t).acc⟩]):=by
 unfold qs
 dsimp only
 rw [if_pos h]
theorem qv {m:Int} {z:Op→Pixel × Int} {i:Nat} {t:Lv} {r:List Lv} {o:Op} (h:o.kind=2):qs m z i (t :: r) o=[⟨i,5,aI,aI,0,(fi o t).back⟩]:=by
 unfold qs
 dsimp only
 rw [if_neg (by omega),if_pos h]
theorem xi {m : Int} {z : Op → Pixel × Int} {i : Nat} {t u : Lv} {r : List Lv} {o : Op} (h : o.kind = 3) :
  qs m z i (t :: u :: r) o=⟨i,6,aI,aI,0,aU t.acc t.back m⟩ :: (cc m i t.op (aU t.acc t.back m) (z t.op).2 ++
   [⟨i,4,ax m t.op (aU t.acc t.back m) (z t.op).2,dP u.acc,0,dP (bJ m t.op (ax m t.op (aU t.acc t.back m) (z t.op).2) u).acc⟩]):=by
 unfold qs
 dsimp only
 rw [if_neg (by omega),if_neg (by omega)]
theorem oN {m:Int} {i:Nat} {o:Op} {p:Pixel} {k:Int}:(cc m i o p k).length≤2:=by
 unfold cc
 split <;> simp
theorem Iz {m:Int} {z:Op→Pixel × Int} {i:Nat} {st:List Lv} {o:Op}:(qs m z i st o).length≤4:=by
 cases st with
 | nil=>exact Nat.zero_le _
 | cons t r =>
  unfold qs
  dsimp only
  split
  ·have:=oN (m:=m) (i:=i) (o:=o) (p:=(z o).1) (k:=(z o).2)
   simp only [List.length_cons,List.length_append,List.length_nil];omega
  split
  ·exact Nat.le_of_ble_eq_true rfl
  ·cases r with
   | nil=>exact Nat.zero_le _
   | cons u r =>
    have:=oN (m:=m) (i:=i) (o:=t.op) (p:=aU t.acc t.back m) (k:=(z t.op).2)
    simp only [List.length_cons,List.length_append,List.length_nil];omega
theorem nr {m:Int} {z:Op→Pixel × Int} {ops:List Op}:∀ n,(cn m z ops n).length≤4 * n
 | 0=>Nat.zero_le _
 | n+1=>by
  have:=nr (m:=m) (z:=z) (ops:=ops) n
  have:=Iz (m:=m) (z:=z) (i:=n) (st:=fI m z ops n) (o:=aR ops n)
  rw [cn,List.length_append];omega
def Rv (x:Mic):Prop:=x.kind=1∨x.kind=5∨x.kind=6
def Nb (m:Int) (x:Mic):Prop:=(x.kind=2∨x.kind=3)∧PixV x.inp m∧0≤x.k∧x.k≤m∧x.out=aL x.inp x.k m
def FI (m:Int) (p:Option Pixel) (x:Mic):Prop:=Rv x∨(Nb m x∨x.kind=4)∧p=some x.inp
def gT (m:Int):Option Pixel→List Mic→Prop
 | _,[]=>True
 | p,x :: l=>FI m p x∧gT m (some x.out) l
def He (p:Option Pixel) (l:List Mic):Option Pixel:=l.foldl (fun _ x=>some x.out) p
theorem wg {m:Int}:∀ {l l':List Mic} {p:Option Pixel},gT m p (l ++ l')↔gT m p l∧gT m (He p l) l'
 | [],l',p=>by simp [gT,He]
 | x :: l,l',p=>by
  rw [List.cons_append,gT,gT,wg]
  exact ⟨fun ⟨a,b,c⟩=>⟨⟨a,b⟩,c⟩,fun ⟨⟨a,b⟩,c⟩=>⟨a,b,c⟩⟩
theorem Ap {m:Int}:∀ {l:List Mic} {p:Option Pixel},gT m p l→∀ i,i<l.length→FI m (if i=0 then p else some (l.getD (i - 1) default).out) (l.getD i default)
 | [],_,_,i,hi=>absurd hi (Nat.not_lt_zero _)
 | x :: l,p,h,0,_=>h.1
 | x :: l,p,h,i+1,hi=>by
  have:=Ap h.2 i (by simpa using hi)
  rw [if_neg (by omega)]
  cases i with
  | zero=>exact this
  | succ i =>
   rw [if_neg (by omega)] at this
   exact this
theorem sQ {m : Int} {i : Nat} {o : Op} {p b q : Pixel} {k : Int} (hm : Full m) (hp : PixV p m) (h0 : 0 ≤ k) (h1 : k ≤ m) (o0 : 0 ≤ o.opacity) (om : o.opacity ≤ m) :
  gT m (some p) (cc m i o p k ++ [⟨i,4,ax m o p k,b,0,q⟩]):=by
 have hv:=gP hm hp h0 h1
 unfold cc
 by_cases h:o.mask=0
 ·rw [if_pos h,List.nil_append]
  have e:oS m o p k=p:=if_pos h
  rw [e]
  refine ⟨.inr ⟨.inl ⟨.inr rfl,hp,o0,om, ?_⟩,rfl⟩, .inr ⟨.inr rfl,rfl⟩,trivial⟩
  show ax m o p k=_
  rw [rm hm,e]
 ·rw [if_neg h]
  have e:oS m o p k=aL p k m:=if_neg h
  rw [e]
  refine ⟨.inr ⟨.inl ⟨.inl rfl,hp,h0,h1,rfl⟩,rfl⟩, .inr ⟨.inl ⟨.inr rfl,hv,o0,om, ?_⟩,rfl⟩, .inr ⟨.inr rfl,rfl⟩,trivial⟩
  show ax m o p k=_
  rw [rm hm,e]
section
variable {s:Script} {m x y:Int}
theorem Ej (C:Pt s m x y) {i:Nat} (hi:i<s.ops.length) (p:Option Pixel):gT m p (qs m (bd s x y) i (fI m (bd s x y) s.ops i) (aR s.ops i)):=by
 have ha:=BW C i (by omega)
 obtain ⟨t,r,e⟩:=ha.ne
 rw [e] at ha ⊢
 rcases C.V.wf.kinds i hi with k|k|k
 ·rw [tk k]
  have hf:=ha.fit C hi (by omega)
  exact ⟨.inl (.inl rfl),sQ C.hm (C.z.p _) (C.z.k0 _) (C.z.km _) hf.op0 hf.opm⟩
 ·rw [qv k]
  exact ⟨.inl (.inr (.inl rfl)),trivial⟩
 ·cases r with
  | nil=>unfold qs;dsimp only;rw [if_neg (by omega),if_neg (by omega)];trivial
  | cons u r =>
   rw [xi k]
   obtain ⟨vt,vf,vs⟩:=ha.v
   exact ⟨.inl (.inr (.inr rfl)),sQ C.hm (fW C.hm vt.v) (C.z.k0 _) (C.z.km _) vf.op0 vf.opm⟩
theorem mQ (C:Pt s m x y):∀ n,n≤s.ops.length→gT m none (cn m (bd s x y) s.ops n)
 | 0,_=>trivial
 | n+1,h=>by
  rw [cn,wg]
  exact ⟨mQ C n (by omega),Ej C (by omega) _⟩
end
end Go.Proofs.YtmfblbbemekkoaaGreatDoor
namespace Go.Proofs.YtmfblbbemekkoaaGreatDoor
theorem ji (m:Image) (x y dx dy:Int):eJ m x y dx dy=eI m (x - dx) (y - dy):=by
 unfold eJ
 split
 ·rename_i h
  unfold eI
  cases hf:aX m with
  | false=>rw [if_pos (.inl rfl)]
  | true =>
   obtain ⟨a,b,c,d⟩:=lv hf
   rw [if_pos (by omega)]
 ·rfl
end Go.Proofs.YtmfblbbemekkoaaGreatDoor
namespace Go.SL
open Go
section
variable {P:Program} {n l:Nat} {Q:Exit→Act→World→Prop}
theorem Jm {row:String} {args:Array Value} {w:World} {R:Value→World→Prop} (h:Rows P row args w R):RowsIn (Fence.wide.inRound l) n P row args w R :=
 fun c cs _=>let ⟨v,w',r,s⟩:=h c cs; ⟨v,w',r,stepsIn_wide.2 s⟩
theorem IU {o:Oper} {a:Act} {w:World} {next:Act→World→Prop} (hd:∀ c,o.op ≠ .defer c) (h:o.wp P a w next Q):o.wpIn (Fence.wide.inRound l) n P a w next Q:=by
 refine ⟨fun _ _=>trivial, ?_⟩
 rw [Fence.inRound_round,Oper.semAt_some l _ _ hd]
 unfold Oper.wp at h
 generalize (execOp a.eval o).run P w=r at *
 cases r with
 | ok x w' =>
  cases x with
  | value v=>exact h
  | skip=>exact h
  | defer d=>exact h
  | enter f args=>exact ⟨fun q=>(by cases q),CallsIn.inRound l (callsIn_wide.2 h)⟩
  | row r args=>exact ⟨fun q=>(by cases q),Jm h⟩
  | _=>exact h.elim
 | halt x w' =>
  cases x with
  | panic v=>exact h
  | _=>exact h.elim
def yX (ops:List Oper):Bool:=ops.all fun o=>match o.op with
 | .defer _=>false
 | _=>true
theorem AV {ops:Array Oper} (h:yX ops.toList=true) {i:Nat} {o:Oper} (ho:ops[i]?=some o) (c:Call):o.op ≠ .defer c:=fun e=>by
 have hm:o ∈ ops.toList:=by
  have:=Array.mem_of_getElem? ho
  simpa using this
 have:=List.all_eq_true.1 h o hm
 rw [e] at this
 cases this
theorem Ct {ops:Array Oper} (hd:yX ops.toList=true) (hL:¬ LetsOut Q) {i:Nat} {K K':Act→World→Prop} {a:Act} {w:World} (hK:∀ a w,K a w→K' a w) (h:wpOp P ops Q i K a w):wpOpIn (Fence.wide.inRound l) n P ops Q i K' a w:=by
 unfold wpOp at h
 unfold wpOpIn
 cases ho:ops[i]? with
 | none=>rw [ho] at h;exact hK _ _ h
 | some o =>
  rw [ho] at h
  dsimp only at h ⊢
  split
  ·rename_i hw
   rw [if_pos hw] at h
   rcases h with h|⟨_,h⟩
   ·exact IU (AV hd ho) (Oper.wp_mono hK h)
   ·exact absurd h hL
  ·rename_i hw
   rw [if_neg hw] at h
   exact ⟨fun _ _=>trivial,hK _ _ h⟩
theorem zV {ops:Array Oper} (hd:yX ops.toList=true) (hL:¬ LetsOut Q):∀ (L:List Nat) (a:Act) (w:World),wpOps P ops Q L a w→wpOpsIn (Fence.wide.inRound l) n P ops Q L a w
 | [],_,_,h=>h
 | i :: r,a,w,h=>by
  rw [wpOps_cons] at h
  rw [wpOpsIn_cons]
  exact Ct hd hL (zV hd hL r) h
theorem zF {ops:Array Oper} (hd:yX ops.toList=true) (hL:¬ LetsOut Q):∀ (fuel:Nat) (listed:Array Bool) (a:Act) (w:World),wpAny P .any ops Q fuel listed a w→wpAnyIn (Fence.wide.inRound l) n P .any ops Q fuel listed a w
 | 0,_,_,_,h=>h
 | fuel+1,listed,a,w,h=>⟨h.1,fun i hi=>Ct hd hL (zF hd hL fuel _) (h.2 i hi)⟩
end
def jI:Code→Bool
 | .region _ ops _=>yX ops.toList
 | .seq x y=>jI x && jI y
 | .cond _ x y=>jI x && jI y
 | .block _ c=>jI c
 | .loop c=>jI c
 | _=>true
section
variable {S:Env} {E:Ent}
theorem Cx {Q:AExit→St→Prop}:¬ LetsOut (Bi S E Q):=fun ⟨_,_,h⟩=>h
theorem gw (hm:S.P.follows .mixedOrders=true) (l n:Nat):∀ (c:Code) {Q:AExit→St→Prop} {st:St} {ρ:fO} {a:Act} {w:World},cZ E.N c=true→jI c=true→cw S c Q st→Gam S E st ρ a w→c.wpIn (Fence.wide.inRound l) n S.P (Bi S E Q) a w
 | .skip,Q,st,ρ,a,w,_,_,h,g=>wpIn_skip ⟨st,ρ,g,h⟩
 | .label _,Q,st,ρ,a,w,_,_,h,g=>wpIn_label ⟨st,ρ,g,h⟩
 | .exit id,Q,st,ρ,a,w,_,_,h,g=>wpIn_exit ⟨st,ρ,g,h⟩
 | .ret,Q,st,ρ,a,w,_,_,h,g=>wpIn_ret ⟨st,ρ,g,h⟩
 | .region id ops draw,Q,st,ρ,a,w,hN,hd,h,g=>by
  simp only [cw] at h
  simp only [cZ] at hN
  simp only [jI] at hd
  cases draw with
  | true =>
   rw [if_pos rfl] at h
   exact wpIn_region_any hm (zF hd Cx _ _ _ _ (lX hN (fun _ _ h=>h) _ _ h g.drew))
  | false =>
   rw [if_neg (by simp)] at h
   refine wpIn_region (zV hd Cx _ _ _ ?_)
   have:=oo (Q:=Bi S E Q) hN (fun _ _ h=>h) ops.toList 0 (fun j=>by simp) h g
   rw [List.range_eq_range']
   simpa using this
 | .seq x y,Q,st,ρ,a,w,hN,hd,h,g=>by
  simp only [cZ,Bool.and_eq_true] at hN
  simp only [jI,Bool.and_eq_true] at hd
  refine wpIn_seq (wpIn_mono (gw hm l n x hN.1 hd.1 h g) fun e a w hq => ?_)
  cases e with
  | normal =>
   obtain ⟨st',ρ',g',hk⟩:=hq
   rcases hk with hk|hk
   ·obtain ⟨st2,ρ2,g2,hk2⟩:=Wk.nxt hk g'
    exact gw hm l n y hN.2 hd.2 hk2 g2
   ·exact gw hm l n y hN.2 hd.2 hk g'
  | _=>exact hq
 | .cond c x y,Q,st,ρ,a,w,hN,hd,h,g=>by
  simp only [cZ,Bool.and_eq_true] at hN
  simp only [jI,Bool.and_eq_true] at hd
  simp only [cw] at h
  split at h
  ·rename_i t ht
   have hdd:=(g.ev c).1
   rw [ht] at hdd
   have hc:a.eval c = .bool t:=hdd
   cases t with
   | true=>exact wpIn_cond_true hc (gw hm l n x hN.1 hd.1 (h.1 rfl) g)
   | false=>exact wpIn_cond_false hc (gw hm l n y hN.2 hd.2 (h.2 rfl) g)
  ·exact h.elim
 | .block id c,Q,st,ρ,a,w,hN,hd,h,g=>by
  refine wpIn_block (wpIn_mono (gw hm l n c hN hd h g) fun e a w hq => ?_)
  cases e with
  | exit id' =>
   obtain ⟨st',ρ',g',hk⟩:=hq
   simp only [kG] at hk
   simp only [Exit.inBlock]
   split
   ·rename_i he;rw [if_pos he] at hk;exact ⟨st',ρ',g',hk⟩
   ·rename_i he;rw [if_neg he] at hk;exact ⟨st',ρ',g',hk⟩
  | _=>exact hq
 | .loop c,Q,st,ρ,a,w,hN,hd,h,g=>by
  obtain ⟨I,n0,h0,hr⟩:=h
  have key:∀ k m st ρ a w,m<k→I m st→Gam S E st ρ a w→Code.roundsIn (Fence.wide.inRound l) n S.P c (Bi S E Q) k a w:=by
   intro k
   induction k with
   | zero=>intro m st ρ a w hlt;omega
   | succ k ih =>
    intro m st ρ a w hlt hI g
    rw [roundsIn_succ]
    refine wpIn_mono (gw hm l n c hN hd (hr m st hI) g) fun e a w hq => ?_
    cases e with
    | normal =>
     obtain ⟨st',ρ',g',hk⟩:=hq
     obtain ⟨st2,ρ2,g2,n',hlt',hk1⟩:=Wk.nxt hk g'
     exact ih n' st2 ρ2 a w (by omega) hk1 g2
    | _=>exact hq
  obtain ⟨st2,ρ2,g2,h2⟩:=Wk.nxt h0 g
  exact wpIn_loop_rounds (n0+1) (key _ n0 st2 ρ2 a w (Nat.lt_succ_self _) h2 g2)
 | .rangeFunc ..,Q,st,ρ,a,w,_,_,h,g=>h.elim
 | .scope _,Q,st,ρ,a,w,_,_,h,g=>h.elim
 | .goto _,Q,st,ρ,a,w,_,_,h,g=>h.elim
 | .refuse _,Q,st,ρ,a,w,_,_,h,g=>h.elim
end
end Go.SL
namespace Go.SL
open Go Go.RowKit
structure RndOk (S:Env) (N:Nat) (w:World) (f:Nat→SV) (a:Act):Prop where
 dfr:a.defers=[]
 sz:a.tmps.size=N
 lt:∀ s,(f s).lt 0
 den:∀ s,bn bR (fun b=>b<w.heap.size) w (f s) (a.tmps.getD s undef)
section
variable {S:Env}
theorem Iy {N : Nat} {w W : World} {f : Nat → SV} {a : Act} (h : RndOk S N w f a) (hgl : lM S (fun b => b < w.heap.size) w) (hB : Below w.heap.size w W) :
  Gam S { w0:=W,ok0:=fun b=>b<w.heap.size,rx:=none,N:=N } ⟨f,fun _=>none,0,fun _ => .any⟩ bR a W:=by
 have hok:∀ b,b<w.heap.size→bC { w0:=W,ok0:=fun b=>b<w.heap.size,rx:=none,N:=N } (fun _=>none) bR W b:=fun b hb=>⟨Nat.lt_of_lt_of_le hb hB.size,fun _=>hb,fun _ h=>absurd rfl h⟩
 have hk:fF (fun b=>b<w.heap.size) (bC { w0:=W,ok0:=fun b=>b<w.heap.size,rx:=none,N:=N } (fun _=>none) bR W) w W:=fun b hb=>⟨hok b hb,fun _=>World.cell?_of_block (hB.block b hb)⟩
 refine ⟨h.dfr,h.sz,⟨rfl,rfl,rfl,Nat.le_refl _,fun _ _ _=>rfl,fun _ _ _ q=>(by cases q)⟩,h.lt,fun _ _ q=>(by cases q),fun _ _ q=>(by cases q),fun _ _ _ q=>(by cases q),fun _ _ _ q=>absurd rfl q,
  fun _ _ _ q=>(by cases q),fun s=>bn.mono (nx:=0) hk (fun _ _=>rfl) (h.lt s) (h.den s),fun gg n f hg => ?_,fun s=>⟨trivial,trivial⟩⟩
 obtain ⟨h1,h2⟩:=hgl gg n f hg
 refine ⟨hok gg h1,fun j hj => ?_⟩
 obtain ⟨x,hx,h3,hd⟩:=h2 j hj
 exact ⟨x,by rw [World.cell?_of_block (hB.block gg h1)];exact hx,h3,bp.mono hk hd⟩
def LR:AExit→St→Prop
 | .normal,_=>True
 | _,_=>False
theorem xq {st:St}:LR .normal st=True:=rfl
attribute [go_sem] xq
theorem zx {α : Type} (hm : S.P.follows .mixedOrders = true) {g : Operand} {ps : Array Tmp} {assign body : Code} {Q : Exit → Act → World → Prop} {a : Act} {w : World} {N gf NN : Nat} {lb : Array Value} {encs : α → Array Value} (hg : a.eval g = .func (.func gf) #[] lb)
  (eg:∀ args w,(callFunc gf args).run S.P w = .ok (.enter gf args) w) (hseq:SeqStopsK Fence.wide 3 S.P gf lb encs (Below w.heap.size) (fun _=>True) (fun _=>True) NN w) (hps:∀ x,(encs x).size=ps.size)
  (a1:α→Act) (f:α→Nat→SV)
  (hassign:∀ (l:Nat) (x:α) (W:World) (K:Act→World→Prop),K (a1 x) W→assign.wpIn (Fence.wide.inRound l) 2 S.P (Exit.then K (fun _ _ _=>False)) { tmps:=(ps.zip (encs x)).foldl (fun t (p,v)=>t.setIfInBounds p v) a.tmps,defers:=[] } W)
  (hr:∀ x,RndOk S N w (f x) (a1 x)) (hgl:lM S (fun b=>b<w.heap.size) w) (hN:cZ N body=true) (hnd:jI body=true)
  (hcw:∀ x,cw S body LR ⟨f x,fun _=>none,0,fun _ => .any⟩)
  (hdone:∀ (D:Nat) (W:World),w.heap.size≤D→Below w.heap.size w W→W.heap[D]?=some (.deferred (some []))→Q .normal { a with defers := { target := .collected D,args := #[] } :: a.defers } W) :
  (Code.rangeFunc g ps assign body).wp S.P Q a w:=by
 refine (wpIn_wide (n:=4)).1 ?_
 refine wpIn_rangeFunc_ownG (F:=Fence.wide) (n:=4) (w0:=w) rfl (by omega) hg trivial eg hseq belowK_t (belowK_b (Nat.le_refl _)) (Below.refl _ _) hps
  (fun _ W=>Below w.heap.size w W) (fun _ _ _=>False) (fun s A B row hs hg hr=>hs.grown hg (by have:=hs.size;omega) (fun k e=>(hr k e).1)) (fun _ _ _ _ _ hs _ _=>hs) (Below.refl _ _) a1 hassign ?_ ?_ ?_
 ·intro l pre x W hI _
  refine wpIn_mono (gw (S:=S) hm l 2 body hN hnd (hcw x) (Iy (hr x) hgl hI)) fun e a3 W3 hq => ?_
  cases e with
  | normal =>
   obtain ⟨st',ρ',g',_⟩:=hq
   have hb:∀ k,k<W.heap.size→W3.heap[k]?=W.heap[k]?:=fun k hk=>g'.frm.block k hk fun _ _ q=>by cases q
   have hB:Below w.heap.size W W3:=⟨g'.frm.os,g'.frm.tape,g'.frm.output,g'.frm.size,fun k hk=>hb k (Nat.lt_of_lt_of_le hk hI.size)⟩
   exact ⟨⟨g'.frm.size,fun k o _ hk _=>by rw [hb k (bY hk)];exact hk⟩,hB,hI.trans hB⟩
  | exit id=>obtain ⟨_,_,_,h⟩:=hq;exact h.elim
  | ret=>obtain ⟨_,_,_,h⟩:=hq;exact h.elim
  | _=>exact hq.elim
 ·intro D xs W hD _ hI hK
  exact hdone D W hD hI hK
 ·intro D c pre W _ _ h _
  exact h.elim
def LU (s0:St):AExit→St→Prop
 | .normal,st=>Wk (fun s=>s=s0) st
 | _,_=>False
theorem yb {s0 st:St}:LU s0 .normal st=Wk (fun s=>s=s0) st:=rfl
attribute [go_sem] yb
theorem si {E : Ent} {st : St} {ρ : fO} {a : Act} {w : World} {x y : Code} {Q : Exit → Act → World → Prop} (hm : S.P.follows .mixedOrders = true) (s0 : St) (hx : cw S x (LU s0) st) (hN : cZ E.N x = true) (g : Gam S E st ρ a w)
  (hy:∀ ρ' a' w',Gam S E s0 ρ' a' w'→y.wp S.P Q a' w'):(Code.seq x y).wp S.P Q a w:=by
 refine wp_seq (wp_mono (eA hm x hN hx g) fun e a' w' hq => ?_)
 cases e with
 | normal =>
  obtain ⟨st',ρ',g',hk⟩:=hq
  obtain ⟨s1,ρ1,g1,rfl⟩:=Wk.nxt hk g'
  exact hy ρ1 a' w' g1
 | exit id=>obtain ⟨_,_,_,h⟩:=hq;exact h.elim
 | ret=>obtain ⟨_,_,_,h⟩:=hq;exact h.elim
 | _=>exact hq.elim
theorem EB {N : Nat} {args : List BV} {ok : Nat → Prop} {w : World} {vs : Array Value} (hok : ∀ b, ok b → b < w.heap.size) (hgl : lM S ok w) (hsz : vs.size = args.length) (hden : ∀ j, bT bR ok w (args.getD j .any) (vs.getD j undef)) (hlen : args.length ≤ N) (hl : ∀ x ∈ args, BV.lt 0 x) :
  Gam S { w0:=w,ok0:=ok,rx:=none,N:=N } (xE args) bR { tmps:=vs ++ Array.replicate (N - vs.size) undef,defers:=[] } w:=by
 let E:Ent := { w0:=w,ok0:=ok,rx:=none,N:=N }
 have hokA:∀ b,ok b→bC E (fun _=>none) bR w b:=fun b hb=>⟨hok b hb,fun _=>hb,fun _ h=>absurd rfl h⟩
 have hk:fF ok (bC E (fun _=>none) bR w) w w:=fun b hb=>⟨hokA b hb,fun _=>rfl⟩
 refine ⟨rfl,by simp;omega,⟨rfl,rfl,rfl,Nat.le_refl _,fun _ _ _=>rfl,fun _ _ _ h=>(by cases h)⟩,fun s => ?_,fun _ _ h=>(by cases h),fun _ _ h=>(by cases h),fun _ _ _ h=>(by cases h),fun _ _ _ h=>absurd rfl h,
  fun _ _ _ h=>(by cases h),fun s => ?_,fun gg n f hg => ?_,fun s=>⟨trivial,trivial⟩⟩
 ·simp only [xE,cD]
  split
  ·rename_i hs
   refine hl _ ?_
   rw [List.getD_eq_getElem?_getD,List.getElem?_eq_getElem (by omega)];exact List.getElem_mem _
  ·trivial
 ·simp only [xE,cD]
  split
  ·rename_i hs
   have e:(vs ++ Array.replicate (N - vs.size) undef).getD s undef=vs.getD s undef:=by
    have:s<vs.size:=by omega
    simp [this]
    rw [Array.getElem?_append_left this]
    simp [this]
   rw [e]
   exact bT.mono (nx:=0) hk (fun _ _=>rfl) (hl _ (by rw [List.getD_eq_getElem?_getD,List.getElem?_eq_getElem (by omega)];exact List.getElem_mem _)) (hden (s - 0))
  ·trivial
 ·obtain ⟨h1,h2⟩:=hgl gg n f hg
  refine ⟨hokA gg h1,fun j hj => ?_⟩
  obtain ⟨x,hx,h3,hd⟩:=h2 j hj
  exact ⟨x,hx,h3,bp.mono hk hd⟩
theorem GR {E:Ent} {st:St} {ρ:fO} {a:Act} {w:World} (g:Gam S E st ρ a w) {s:Nat} {x y:BV} (h:st.fr s = .b x) (hy:eo st.bx x=y) (hl:BV.lt 0 y):bn bR (fun b=>b<w.heap.size) w (.b y) (a.tmps.getD s undef):=by
 have hd:=g.slt s
 rw [h] at hd
 have:=oq g hd
 rw [hy] at this
 exact fh hl this
theorem PL {E:Ent} {st:St} {ρ:fO} {a:Act} {w:World} (g:Gam S E st ρ a w):lM S (fun b=>b<w.heap.size) w:=fun k n f hg=>by
 obtain ⟨h1,h2⟩:=g.glb k n f hg
 refine ⟨h1.1,fun j hj => ?_⟩
 obtain ⟨x,hx,hx1,hdx⟩:=h2 j hj
 exact ⟨x,hx,hx1,bp.mono (fun b hb=>⟨hb.1,fun _=>rfl⟩) hdx⟩
end
end Go.SL
namespace Go.Proofs.YtmfblbbemekkoaaGreatDoor
open Go Go.RowKit Go.Shelf
attribute [local go_sem] Oper.semAt_some
def rE (W:Nat):Value→Nat
 | .int _ k=>W - k.toNat
 | _=>0
theorem nd (W k:Nat):rE W (.int .i64 k)=W - k:=by simp [rE]
set_option maxRecDepth 100000 in
set_option maxHeartbeats 1000000 in
theorem AJ (F : Fence) (n : Nat) (h6 : F.fn 184) (hro : F.round = none) (hn : 1 ≤ n) (l Bh oh Bw ow n₀ W H : Nat) (hW : W ≤ 16777216) (hH : H ≤ 16777216) (J Jx : List {p : Nat × Nat // p.1 < W ∧ p.2 < H} → World → Prop)
  (hY:∀ pre x w,J pre w→pre.length<H * W→YieldAt F (n - 1) Tryz.prog l #[.int .i64 x.1.1, .int .i64 x.1.2] w fun e w' =>
   (e = .returned (.bool true)∧J (pre ++ [x]) w'∧Below n₀ w w')∨(e = .returned (.bool false)∧Jx (pre ++ [x]) w'))
  (w:World) (hBh:Bh<n₀) (hBw:Bw<n₀) (hch:w.cell? ⟨Bh,oh,none⟩=some (.int .i64 H)) (hcw:w.cell? ⟨Bw,ow,none⟩=some (.int .i64 W)) (h0:J [] w) :
  CallsIn F n Tryz.prog 184 #[.func (.yield l) #[] #[], .pointer (some ⟨Bh,oh,none⟩), .pointer (some ⟨Bw,ow,none⟩)] w fun e w'=>(∃ v,e = .returned v)∧((∃ ys,True∧J ys w')∨(∃ pre,True∧Jx pre w')):=by
 refine callsIn_of_wp Tryz.func184 rfl h6 ?_ hro
 simp only [Tryz.ntmps184,List.size_toArray,List.length_cons,List.length_nil,Nat.reduceAdd,Nat.reduceSub,Array.replicate_succ,Array.replicate_zero,List.push_toArray,List.append_toArray,List.nil_append,List.cons_append]
 gi_wp2
 gi_loopw [7] (fun v wr=>∃ (j:Nat) (pre:List {p:Nat × Nat // p.1<W∧p.2<H}),v = .int .i64 j∧j≤H∧pre.length=j * W∧wr.cell? ⟨Bw,ow,none⟩=some (.int .i64 W)∧J pre wr)
  (fun v wr=>rE H v)
 case atStart =>
  exact ⟨0,[],rfl,Nat.zero_le _,by simp,hcw,h0⟩
 case round =>
  obtain ⟨j,pre,rfl,hj,hp,hc,hJ⟩:=hrel
  gi_wp2
  ·rename_i hjH K hK
   rw [decide_eq_true hjH]
   gi_loopw [11] (fun v wr=>∃ (k:Nat) (pre:List {p:Nat × Nat // p.1<W∧p.2<H}),v = .int .i64 k∧k≤W∧pre.length=j * W+k∧wr.cell? ⟨Bw,ow,none⟩=some (.int .i64 W)∧J pre wr)
    (fun v wr=>rE W v)
   case atStart =>
    exact ⟨0,pre,rfl,Nat.zero_le _,by omega,hc,hJ⟩
   case round =>
    obtain ⟨k,pre2,rfl,hk,hp2,hc2,hJ2⟩:=hrel
    by_cases hkW:k<W
    ·have hlen:pre2.length<H * W:=by
      have:(j+1) * W≤H * W:=Nat.mul_le_mul hjH (Nat.le_refl _)
      rw [Nat.succ_mul] at this
      omega
     obtain ⟨fn,tmps,assign,body,hy,hR⟩:=hY pre2 ⟨(k,j),hkW,hjH⟩ wr hJ2 hlen
     dsimp only at hy
     gi_wp2
     ·refine hR.mono ?_
      rintro e W3 (⟨rfl,hJ3,hk3⟩|⟨rfl,hJx3⟩)
      ·have hc3:W3.cell? ⟨Bw,ow,none⟩=some (.int .i64 W):=(hk3.cell (p:=⟨Bw,ow,none⟩) hBw).trans hc2
       gi_wp2
       go_roundw
       case rel=>exact ⟨k+1,pre2 ++ [⟨(k,j),hkW,hjH⟩],rfl,by omega,by rw [List.length_append,hp2];rfl,hc3,hJ3⟩
       case measure =>
        show rE W (.int .i64 ((k+1:Nat):Int))<rE W (.int .i64 (k:Int))
        rw [nd,nd];omega
      ·gi_wp2
       refine bodyPost_ret (results_none rfl _ _ _) rfl ?_
       exact ⟨⟨_,rfl⟩, .inr ⟨_,trivial,hJx3⟩⟩
    ·gi_wp2
     go_roundw
     case rel =>
      have:k=W:=by omega
      exact ⟨j+1,pre2,by simp,by omega,by rw [Nat.succ_mul,hp2,this],hc2,hJ2⟩
     case measure =>
      show rE H (.int .i64 ((j+1:Nat):Int))<rE H (.int .i64 (j:Int))
      rw [nd,nd];omega
  ·go_end0
   exact ⟨⟨_,rfl⟩, .inl ⟨pre,trivial,hJ⟩⟩
theorem yq (n : Nat) (hn : 1 ≤ n) (Bh oh Bw ow n₀ W H : Nat) (hW : W ≤ 16777216) (hH : H ≤ 16777216) (w : World) (hn₀ : n₀ ≤ w.heap.size) (hBh : Bh < n₀) (hBw : Bw < n₀) (hch : w.cell? ⟨Bh, oh, none⟩ = some (.int .i64 H)) (hcw : w.cell? ⟨Bw, ow, none⟩ = some (.int .i64 W)) :
  SeqStopsK Fence.wide n Tryz.prog 184 #[.pointer (some ⟨Bh,oh,none⟩), .pointer (some ⟨Bw,ow,none⟩)] (fun x : {p:Nat × Nat // p.1<W∧p.2<H} => #[.int .i64 x.1.1, .int .i64 x.1.2]) (Below n₀) (fun _=>True) (fun _=>True) (H * W) w:=fun l J Jx w1 hB _ _ hY h0 =>
 AJ Fence.wide n trivial rfl hn l Bh oh Bw ow n₀ W H hW hH J Jx hY w1 hBh hBw ((hB.cell (p:=⟨Bh,oh,none⟩) (by show Bh<w.heap.size;omega)).trans hch) ((hB.cell (p:=⟨Bw,ow,none⟩) (by show Bw<w.heap.size;omega)).trans hcw) h0
end Go.Proofs.YtmfblbbemekkoaaGreatDoor
set_option maxHeartbeats 1000000
namespace Go.Proofs.YtmfblbbemekkoaaGreatDoor
def Rw (r:Rect) (x y:Int):Prop:=bZ r=false∧OF r x y
section
variable {s:Script} {m x y:Int}
open Classical in
end
structure Twin (s t:Script):Prop where
 im:s.images=t.images
 c:s.canvas=t.canvas
theorem Twin.box {s t:Script} (T:Twin s t) (o:Op) (r:Rect):Ag s o r=Ag t o r:=by
 unfold Ag wu xL
 rw [T.im,T.c]
section
variable {s t:Script} {x y:Int} {p q:Nat}
structure Ends (s t:Script) (x y:Int) (p q:Nat):Prop where
 T:Twin s t
 W:Wf s.ops
 U:Wf t.ops
 ls:p+q≤s.ops.length
 lt:p+q≤t.ops.length
 pre:∀ i,i<p→aR s.ops i=aR t.ops i
 suf:∀ k,k<q→aR s.ops (s.ops.length - q+k)=aR t.ops (t.ops.length - q+k)
 os:∀ g,(p≤g∧g<s.ops.length - q∨g ∈ bD s.ops p)→¬ Rw (FH s g) x y
 ot:∀ g,(p≤g∧g<t.ops.length - q∨g ∈ bD t.ops p)→¬ Rw (FH t g) x y
theorem Ends.symm (E:Ends s t x y p q):Ends t s x y p q:=⟨⟨E.T.im.symm,E.T.c.symm⟩,E.U,E.W,E.lt,E.ls,fun i h=>(E.pre i h).symm,fun k h=>(E.suf k h).symm,E.ot,E.os⟩
end
end Go.Proofs.YtmfblbbemekkoaaGreatDoor
set_option maxHeartbeats 8000000
set_option maxRecDepth 16000
namespace Go.Proofs.YtmfblbbemekkoaaGreatDoor
open Go Go.SL
open Go.RowKit (wrap64)
theorem nJ {l jk : List Op} {x : Op} {g : Nat → Nat → PV} (hg : ∀ j, j < 12 → g 0 j = (cT x).getD j .any) :
  ∀ i,i<l.length+1→∀ j,j<12→PV.le (fX l.length (bj cT (l ++ jk)) g i j) (bj cT (l ++ [x]) i j):=fun i hi j hj=>by
 have:=dz (enc:=cT) (xs:=l) (x:=x) (s:=12) (g:=g) hg i hi j hj
 unfold fX at this ⊢
 by_cases h:i<l.length
 ·rw [if_pos h] at this ⊢
  have e:(l ++ jk).getD i default=l.getD i default:=by
   rw [List.getD_eq_getElem?_getD,List.getD_eq_getElem?_getD,List.getElem?_append_left h]
  unfold bj at this ⊢
  rw [e];exact this
 ·rw [if_neg h] at this ⊢
  exact this
def FT (s:Script):List (Option PV):=[some (PI s.bits),some (PI s.canvas.x0),some (PI s.canvas.y0),some (PI s.canvas.x1),some (PI s.canvas.y1),some (PI s.tileW),some (PI s.tileH),some (dQ s.order),some (sC s.images),none]
attribute [local go_sem] FT
theorem rj (s:Scene) (hs:SceneOk s):kR Sg 15 [ag (dk s)] (FT (au s)) 9 29 12 (au s).ops.length (bj cT (au s).ops):=by
 obtain ⟨hb,⟨x1,x2⟩,⟨y1,y2⟩,⟨w1,w2⟩,⟨v1,v2⟩,⟨t1,t2⟩,⟨u1,u2⟩,ho,hp,hop,hpic,hraw⟩:=hs
 have hm:=lL s.bits
 have hsm:=bK s
 have htw:=jS (aq s) (bI s) (bF s)
 have hw0:1≤1+s.w % 5∧1+s.w % 5≤5:=by omega
 have hh0:1≤1+s.h % 4∧1+s.h % 4≤4:=by omega
 have ew:s.tileW % (1+s.w % 5)=bI s - 1:=by unfold bI;omega
 have eh:s.tileH % (1+s.h % 4)=bF s - 1:=by unfold bF;omega
 have bw:=Int.emod_nonneg s.tileW (show 1+s.w % 5≠0 by omega)
 have bw2:=Int.emod_lt_of_pos s.tileW (show 0<1+s.w % 5 by omega)
 have bh:=Int.emod_nonneg s.tileH (show 1+s.h % 4≠0 by omega)
 have bh2:=Int.emod_lt_of_pos s.tileH (show 0<1+s.h % 4 by omega)
 have hmx:aC Sg 52 [I s.bits] (fun r=>r = .b (U (bO s.bits))):=Au _
 refine Cc Tryz.func15 rfl (rs:=[.cell 2 37]) rfl rfl dK (by decide +kernel) (Nat.le_of_ble_eq_true rfl) (ch (by simp (maxSteps:=999999)(disch:=omega) only [go_sem])) ?_
 repeat' (first|refine an ?_|((with_reducible refine aT (id:=10) (fun K hW => ?_));(try simp (maxSteps:=999999)(disch:=omega) only [go_sem]);and_intros;(all_goals first|(refine hK _ ?_;clear hK K)|exact aa|skip))|((first|refine ai (fun K hK => ?_)|refine ae (hmx) ?_|refine ae (bN _ _ (by omega) (by omega)) ?_|refine ae (nY ⟨_,_,_,_⟩ _ _) ?_);and_intros;(all_goals first|(refine hK _ ?_;clear hK K)|exact aa|skip))|(apply fo;(case hf=>rfl);(case hc=>exact eH);(all_goals first|(intro hb;(try simp only [ov] at hb))|skip))|exact bB)
 refine rZ ?_ ?_ (by simp (maxSteps:=999999)(disch:=omega) only [go_sem]) (kZ s.order (dD (aq s) (bI s) (bF s) * dA (aq s) (bI s) (bF s)) ho htw.2)
 try simp (maxSteps:=999999)(disch:=omega) only [go_sem]
 try (refine hK _ ?_;clear hK K)
 rotate_left
 ·rw [← htw.1]
  have e1:1+s.tileW % (1+s.w % 5)=bI s:=rfl
  have e2:1+s.tileH % (1+s.h % 4)=bF s:=rfl
  simp only [e1,e2]
  rfl
 refine hW _ (aQ [(1, .b (.c (.ptr 0 0))),(2, .b (.c (.ptr 1 0))),(3, .b (U (bO s.bits))),(4, .b (.c (.ptr 2 0))),(7, .b (I (1+s.w % 5))),(8, .b (I (1+s.h % 4)))]
  [(0, .fix ((dk s).map CV.p)),(1, .fix ((List.range 10).map fun _=>CV.p .any)),(2, .fix [.p (PI (au s).bits), .p (PI (aq s).x0), .p (PI (aq s).y0), .p (PI (aq s).x1), .p (PI (aq s).y1), .p (PI (bI s)), .p (PI (bF s)), .p (dQ (au s).order), .p Cb, .p Cb])] 3) ?_ ?_
 ·clear hW
  refine az [(1,some 1),(2,some 2)] ?_ ?_
  and_intros
  all_goals first|exact ao|skip
 clear hW
 refine eB ?_
 refine ga fun K hK => ?_
 simp (maxSteps:=999999)(disch:=omega) only [go_sem]
 and_intros
 all_goals first|(refine hK _ ?_;clear hK K)|exact aa|skip
 refine dZ fun KB hV => ?_
 refine aO (X:=Nat) (fun i=>aQ [(1, .b (.c (.ptr 0 0))),(2, .b (.c (.ptr 1 0))),(3, .b (U (bO s.bits))),(4, .b (.c (.ptr 2 0))),(7, .b (I (1+s.w % 5))),(8, .b (I (1+s.h % 4))),(12, .b (I i))]
  [(0, .fix ((dk s).map CV.p)),(1, .fix ((List.range 10).map fun _=>CV.p .any)),(2, .fix [.p (PI (au s).bits), .p (PI (aq s).x0), .p (PI (aq s).y0), .p (PI (aq s).x1), .p (PI (aq s).y1), .p (PI (bI s)), .p (PI (bF s)), .p (dQ (au s).order), .own 3 i, .p Cb]),
   (3, .arr 47 28 i (bj aN ((aS s).take i)))] 4) (fun i=>i≤s.pics.length∧i≤4) (fun i=>4 - i) 0 ?_ ?_ ?_
 ·omega
 ·refine az [(1,some 1),(2,some 2),(3,none)] ?_ ?_
  and_intros
  all_goals first|exact ao|skip
 ·rintro i ⟨hi,hi4⟩
  have him:i<s.pics.length→PicOk (s.pics.getD i default):=hpic i
  repeat' (first|(((with_reducible refine gz (id:=14) [] (by decide +kernel) (by decide +kernel) ?_ (fun K hK => ?_));(first|(refine And.intro (fun iw hiw => ?_) ?_;(focus ((try simp (maxSteps:=999999)(disch:=omega) only [go_sem] at hiw ⊢);(repeat (refine Eq.trans (if_neg ?_) ?_;(focus omega)));exact hw iw (by omega)));(focus (first|exact Nat.zero_le _|(simp (maxSteps:=999999)(disch:=omega) only [go_sem];done)|(simp (maxSteps:=999999)(disch:=omega) only [go_sem];omega))))|exact cR));(try simp (maxSteps:=999999)(disch:=omega) only [go_sem]);and_intros;(all_goals first|(refine hK _ (by simp (maxSteps:=999999)(disch:=omega) only [go_sem]) ?_;clear hK K)|exact aa|skip))|refine an ?_|(refine ai (fun K hK => ?_);and_intros;(all_goals first|(refine hK _ ?_;clear hK K)|exact aa|skip))|(refine aW (fun hb => ?_) (fun hb => ?_);all_goals try exact aG))
  ·refine rX (uU (s.pics.getD (i:Int).toNat default) (aq s) (bO s.bits) (by rw [Int.toNat_natCast];exact hpic i (by omega)) hsm (by unfold u16;omega)) (by simp (maxSteps:=999999)(disch:=omega) only [go_sem]) ?_
   try simp (maxSteps:=999999)(disch:=omega) only [go_sem]
   and_intros
   all_goals first|(refine hK _ ?_;clear hK K)|exact aa|skip
   refine hK _ trivial ?_
   clear hK
   repeat' (first|refine an ?_|(refine ai (fun K hK => ?_);and_intros;(all_goals first|(refine hK _ ?_;clear hK K)|exact aa|skip)))
   rw [ah]
   refine aw (i+1) ?_ (by omega) (by omega)
   have hl1:((aS s).take i).length=i:=by simp [aS];omega
   have he:(aS s).take (i+1)=(aS s).take i ++ [iv (s.pics.getD i default) (aq s) (bO s.bits)]:=by
    have h1:i<(s.pics.take 4).length:=by rw [List.length_take];omega
    have h2:i<s.pics.length:=by omega
    simp only [aS,← List.map_take]
    rw [List.take_add_one,List.map_append,List.getElem?_eq_getElem h1,List.getD_eq_getElem?_getD,List.getElem?_eq_getElem h2,List.getElem_take]
    rfl
   refine az [(1,some 1),(2,some 2),(3,some 5)] ?_ ?_
   and_intros
   all_goals first|exact ao|skip
   have key:=fun g hg=>dz (enc:=aN) (xs:=(aS s).take i) (x:=iv (s.pics.getD i default) (aq s) (bO s.bits)) (s:=28) (g:=g) hg
   simp only [hl1,← he] at key
   refine .inr (key _ fun j hj => ?_)
   simp only [Int.toNat_natCast]
   have hivl:j=0∨j=1∨j=2∨j=3∨j=4∨j=5∨j=6∨j=7∨j=8∨j=9∨j=10∨j=11∨j=12∨j=13∨j=14∨j=15∨j=16∨j=17∨j=18∨j=19∨j=20∨j=21∨j=22∨j=23∨j=24∨j=25∨j=26∨j=27:=by omega
   rcases hivl with rfl|rfl|rfl|rfl|rfl|rfl|rfl|rfl|rfl|rfl|rfl|rfl|rfl|rfl|rfl|rfl|rfl|rfl|rfl|rfl|rfl|rfl|rfl|rfl|rfl|rfl|rfl|rfl <;> rfl
  ·have hn0:i=(aS s).length:=by simp [aS];omega
   refine hV _ (aQ [(1, .b (.c (.ptr 0 0))),(2, .b (.c (.ptr 1 0))),(3, .b (U (bO s.bits))),(4, .b (.c (.ptr 2 0))),(7, .b (I (1+s.w % 5))),(8, .b (I (1+s.h % 4)))]
    [(0, .fix ((dk s).map CV.p)),(1, .fix ((List.range 10).map fun _=>CV.p .any)),(2, .fix [.p (PI (au s).bits), .p (PI (aq s).x0), .p (PI (aq s).y0), .p (PI (aq s).x1), .p (PI (aq s).y1), .p (PI (bI s)), .p (PI (bF s)), .p (dQ (au s).order), .own 3 (aS s).length, .p Cb]),(3, .arr 47 28 (aS s).length (bj aN (aS s)))] 4) ?_ ?_
   ·rw [hn0,List.take_of_length_le (Nat.le_refl _)]
    refine az [(1,some 1),(2,some 2),(3,some 3)] ?_ ?_
    and_intros
    all_goals first|exact ao|skip
   clear hV hn0 him
   refine eB ?_
   refine ga fun K hK => ?_
   simp (maxSteps:=999999)(disch:=omega) only [go_sem]
   and_intros
   all_goals first|(refine hK _ ?_;clear hK K)|exact aa|skip
   refine Gm (t:=(((aS s).length:Int) == 0)) (aQ [(1, .b (.c (.ptr 0 0))),(2, .b (.c (.ptr 1 0))),(3, .b (U (bO s.bits))),(4, .b (.c (.ptr 2 0)))]
    [(0, .fix ((dk s).map CV.p)),(1, .fix ((List.range 10).map fun _=>CV.p .any)),(2, .fix [.p (PI (au s).bits), .p (PI (aq s).x0), .p (PI (aq s).y0), .p (PI (aq s).x1), .p (PI (aq s).y1), .p (PI (bI s)), .p (PI (bF s)), .p (dQ (au s).order), .p (sC (aJ s)), .p Cb])] 3) ?_ ?_ ?_ ?_
   ·simp (maxSteps:=999999)(disch:=omega) only [go_sem]
   ·intro hb
    have h0:(aS s).length=0:=by simpa using hb
    have hi1:aJ s=[jf (1+s.w % 5) (1+s.h % 4) ⟨bO s.bits,0,0,bO s.bits,bO s.bits⟩]:=by rw [aJ,if_pos h0]
    repeat' (first|(((with_reducible refine gz (id:=16) [] (by decide +kernel) (by decide +kernel) ?_ (fun K hK => ?_));(first|(refine And.intro (fun iw hiw => ?_) ?_;(focus ((try simp (maxSteps:=999999)(disch:=omega) only [go_sem] at hiw ⊢);(repeat (refine Eq.trans (if_neg ?_) ?_;(focus omega)));exact hw iw (by omega)));(focus (first|exact Nat.zero_le _|(simp (maxSteps:=999999)(disch:=omega) only [go_sem];done)|(simp (maxSteps:=999999)(disch:=omega) only [go_sem];omega))))|exact cR));(try simp (maxSteps:=999999)(disch:=omega) only [go_sem]);and_intros;(all_goals first|(refine hK _ (by simp (maxSteps:=999999)(disch:=omega) only [go_sem]) ?_;clear hK K)|exact aa|skip))|(refine ae (ob (1+s.w % 5) (1+s.h % 4) ⟨bO s.bits,0,0,bO s.bits,bO s.bits⟩) ?_;and_intros;(all_goals first|(refine hK _ ?_;clear hK K)|exact aa|skip)))
    refine hK _ trivial ?_
    clear hK
    rw [ah,hi1]
    refine ⟨_, ?_,rfl⟩
    refine az [(1,some 1),(2,some 2)] ?_ ?_
    and_intros
    all_goals first|exact ao|skip
    have h00:aS s=[]:=List.eq_nil_of_length_eq_zero h0
    rw [h00]
    intro a ha j hj
    have:a=0:=by simpa using ha
    subst this
    have hivl:j=0∨j=1∨j=2∨j=3∨j=4∨j=5∨j=6∨j=7∨j=8∨j=9∨j=10∨j=11∨j=12∨j=13∨j=14∨j=15∨j=16∨j=17∨j=18∨j=19∨j=20∨j=21∨j=22∨j=23∨j=24∨j=25∨j=26∨j=27:=by omega
    rcases hivl with rfl|rfl|rfl|rfl|rfl|rfl|rfl|rfl|rfl|rfl|rfl|rfl|rfl|rfl|rfl|rfl|rfl|rfl|rfl|rfl|rfl|rfl|rfl|rfl|rfl|rfl|rfl|rfl <;> exact PV.le_refl _
   ·intro hb
    have h0:¬ (aS s).length=0:=by simpa using hb
    have hi1:aJ s=aS s:=by rw [aJ,if_neg h0]
    refine xU ?_
    rw [ah,hi1]
    refine ⟨_, ?_,rfl⟩
    refine az [(1,some 1),(2,some 2)] ?_ ?_
    and_intros
    all_goals first|exact ao|skip
    exact fun _ _ _ _=>PV.le_refl _
   have h3m:u16 (bO s.bits):=by unfold u16;omega
   have him1:1≤(aJ s).length∧(aJ s).length≤4:=by
    unfold aJ
    split
    ·simp
    ·have:(aS s).length≤4:=by simp [aS];omega
     omega
   refine ga fun K hK => ?_
   simp (maxSteps:=999999)(disch:=omega) only [go_sem]
   and_intros
   all_goals first|(refine hK _ ?_;clear hK K)|exact aa|skip
   refine eB ?_
   refine ga fun K hK => ?_
   simp (maxSteps:=999999)(disch:=omega) only [go_sem]
   and_intros
   all_goals first|(refine hK _ ?_;clear hK K)|exact aa|skip
   refine dZ fun KB2 hV2 => ?_
   refine aO (X:=Nat × List Op × List Op × List Op) (fun x=>aQ [(1, .b (.c (.ptr 0 0))),(2, .b (.c (.ptr 1 0))),(3, .b (U (bO s.bits))),(4, .b (.c (.ptr 2 0))),(13, .b (.c (.own 4 x.2.2.1.length))),(14, .b (I x.1))]
    [(0, .fix ((dk s).map CV.p)),(1, .fix ((List.range 10).map fun _=>CV.p .any)),(2, .fix [.p (PI (au s).bits), .p (PI (aq s).x0), .p (PI (aq s).y0), .p (PI (aq s).x1), .p (PI (aq s).y1), .p (PI (bI s)), .p (PI (bF s)), .p (dQ (au s).order), .p (sC (aJ s)), .own 3 x.2.1.length]),
     (3, .arr 29 12 x.2.1.length (bj cT x.2.1)),(4, .arr 29 12 (x.2.2.1.length+x.2.2.2.length) (bj cT (x.2.2.1 ++ x.2.2.2)))] 5)
    (fun x=>x.1≤s.ops.length∧x.1≤9∧(s.ops.take x.1).foldl (jd (aJ s).length (aq s) (bO s.bits)) ([],[])=(x.2.1,x.2.2.1)∧x.2.1.length≤x.1∧x.2.2.1.length≤x.1) (fun x=>9 - x.1) (0,[],[],[]) ?_ ?_ ?_
   ·exact ⟨by omega,by omega,rfl,Nat.le_refl _,Nat.le_refl _⟩
   ·refine az [(1,some 1),(2,some 2),(3,none),(4,none)] ?_ ?_
    and_intros
    all_goals first|exact ao|skip
   ·rintro ⟨i,ops,l,jk⟩ ⟨hi,hi9,hf,ho1,hl1⟩
    dsimp only at hi hi9 hf ho1 hl1 ⊢
    have hstep:∀ (hlt:i<s.ops.length) (q:List Op × List Op),jd (aJ s).length (aq s) (bO s.bits) (ops,l) (s.ops.getD i default)=q→(s.ops.take (i+1)).foldl (jd (aJ s).length (aq s) (bO s.bits)) ([],[])=q:=by
     rintro hlt q rfl
     rw [List.take_add_one,List.getElem?_eq_getElem hlt,List.foldl_append,hf,List.getD_eq_getElem?_getD,List.getElem?_eq_getElem hlt]
     rfl
    by_cases hc:i<s.ops.length∧i<9
    ·by_cases hk0:(s.ops.getD i default).kind % 8=0∧0<l.length
     ·have hkT:((s.ops.getD i default).kind % 8 == 0 && decide ((l.length:Int)>0))=true:=by
       simp only [Bool.and_eq_true,beq_iff_eq,decide_eq_true_eq];omega
      repeat' (first|refine aj hkT ?_|refine an ?_|((first|refine ai (fun K hK => ?_)|refine ae (bN _ _ (by omega) (by omega)) ?_);and_intros;(all_goals first|(refine hK _ ?_;clear hK K)|exact aa|skip))|(refine aW (fun hb => ?_) (fun hb => ?_);all_goals try exact aG))
      rw [ah]
      have hp:=hk0.2
      have hne:l≠[]:=fun h=>by rw [h] at hp;simp at hp
      have hj:l.dropLast ++ (l.getLast hne :: jk)=l ++ jk:=by
       conv=>rhs;rw [← List.dropLast_concat_getLast hne]
       simp
      refine aw (i+1,ops ++ [eG],l.dropLast,l.getLast hne :: jk) ?_ ⟨by dsimp only;omega,by dsimp only;omega,hstep hc.1 _ (by rw [jd,if_pos hk0]),by simp;omega,by rw [List.length_dropLast];dsimp only;omega⟩ (by dsimp only;omega)
      dsimp only
      rw [hj]
      refine az [(1,some 1),(2,some 2),(3,some 6),(4,some 4)] ?_ ?_
      and_intros
      all_goals first|exact ao|skip
      ·rw [List.length_dropLast];omega
      ·simp
      ·simp
      ·refine .inr fun a ha j hj=>dz (fun j hj => ?_) a ha j hj
       have hivl:j=0∨j=1∨j=2∨j=3∨j=4∨j=5∨j=6∨j=7∨j=8∨j=9∨j=10∨j=11:=by omega
       rcases hivl with rfl|rfl|rfl|rfl|rfl|rfl|rfl|rfl|rfl|rfl|rfl|rfl <;> rfl
      ·rw [List.length_dropLast];omega
     ·have hkF:((s.ops.getD i default).kind % 8 == 0 && decide ((l.length:Int)>0))=false:=by
       rw [Bool.eq_false_iff]
       intro h
       simp only [Bool.and_eq_true,beq_iff_eq,decide_eq_true_eq] at h
       exact hk0 ⟨h.1,by omega⟩
      have hraw1:RawOk (s.ops.getD (i:Int).toNat default):=hraw i hc.1
      have hcb : -2000000000≤(aq s).x0∧(aq s).x0≤2000000000 ∧ -2000000000≤(aq s).y0∧(aq s).y0≤2000000000:=by
       unfold aq
       dsimp only
       omega
      repeat' (first|refine aj hkF ?_|refine an ?_|((first|refine ai (fun K hK => ?_)|refine ae (bN _ _ (by omega) (by omega)) ?_);and_intros;(all_goals first|(refine hK _ ?_;clear hK K)|exact aa|skip))|(refine aW (fun hb => ?_) (fun hb => ?_);all_goals try exact aG))
      any_goals (focus (simp only [beq_eq_false_iff_ne,ne_eq];omega))
      any_goals (focus (rintro ⟨q1,q2⟩;refine ⟨⟨q1,q2⟩, ?_⟩;simp only [beq_eq_false_iff_ne,ne_eq] at q1;omega))
      repeat' (first|(((with_reducible refine bM (id:=27) [] (by decide +kernel) (by decide +kernel) ?_ (fun K hK => ?_));(first|(refine And.intro (fun iw hiw => ?_) ?_;(focus ((try simp (maxSteps:=999999)(disch:=omega) only [go_sem] at hiw ⊢);(repeat (refine Eq.trans (if_neg ?_) ?_;(focus omega)));exact hw iw (by omega)));(focus (first|exact Nat.zero_le _|(simp (maxSteps:=999999)(disch:=omega) only [go_sem];done)|(simp (maxSteps:=999999)(disch:=omega) only [go_sem];omega))))|exact cR));(try simp (maxSteps:=999999)(disch:=omega) only [go_sem]);and_intros;(all_goals first|(refine hK _ (by simp (maxSteps:=999999)(disch:=omega) only [go_sem]) ?_;clear hK K)|exact aa|skip))|(refine ae (xT _ _ _ (aq s) _ (bO s.bits) hraw1 (by omega) (by omega) hcb.1 hcb.2.1 hcb.2.2.1 hcb.2.2.2 h3m) ?_;and_intros;(all_goals first|(refine hK _ ?_;clear hK K)|exact aa|skip)))
      refine hK _ trivial ?_
      clear hK
      have hfr:((l.length:Int) == 0 || ((l ++ jk).getD ((l.length:Int) - 1).toNat default).isolated && !((l ++ jk).getD ((l.length:Int) - 1).toNat default).knockout)=eC l:=by
       cases hl0:l with
       | nil=>rfl
       | cons a r =>
        rw [← hl0]
        have hpos:0<l.length:=by rw [hl0];simp
        have e1:((l.length:Int) - 1).toNat=l.length - 1:=by omega
        have e2:(l ++ jk).getD (l.length - 1) default=l.getD (l.length - 1) default:=by
         rw [List.getD_eq_getElem?_getD,List.getD_eq_getElem?_getD,List.getElem?_append_left (by omega)]
        have e3:((l.length:Int) == 0)=false:=beq_eq_false_iff_ne.2 (by omega)
        have e4:l.isEmpty=false:=by rw [hl0];rfl
        rw [e1,e2,e3,eC,e4]
      generalize hO:kz (s.ops.getD i default) (decide ((s.ops.getD i default).kind % 8<3)) (aJ s).length (aq s).x0 (aq s).y0 (eC l) (bO s.bits)=O at *
      by_cases hp:(s.ops.getD i default).kind % 8<3
      ·have gk:∀ f x y,((kz (s.ops.getD i default) (decide ((s.ops.getD i default).kind % 8<3)) (aJ s).length x y f (bO s.bits)).kind == 2)=true:=fun f x y=>by rw [decide_eq_true hp];rfl
       repeat' (first|refine aj gk ?_|refine an ?_|(refine ai (fun K hK => ?_);and_intros;(all_goals first|(refine hK _ ?_;clear hK K)|exact aa|skip)))
       rw [ah]
       simp only [hfr,Int.toNat_natCast,hO]
       refine aw (i+1,ops ++ [O],l ++ [O],[]) ?_ ⟨by dsimp only;omega,by dsimp only;omega,hstep hc.1 _ (by rw [jd,if_neg hk0,if_pos hp];dsimp only;rw [hO]),by simp;omega,by simp;omega⟩ (by dsimp only;omega)
       simp only [List.append_nil,List.length_nil,Nat.add_zero]
       refine az [(1,some 1),(2,some 2),(3,some 7),(4,some 9)] ?_ ?_
       and_intros
       all_goals first|exact ao|skip
       ·simp
       ·simp
       ·simp
       ·refine .inr fun a ha j hj=>dz (fun j hj => ?_) a ha j hj
        have hivl:j=0∨j=1∨j=2∨j=3∨j=4∨j=5∨j=6∨j=7∨j=8∨j=9∨j=10∨j=11:=by omega
        rcases hivl with rfl|rfl|rfl|rfl|rfl|rfl|rfl|rfl|rfl|rfl|rfl|rfl <;> rfl
       ·simp
       ·refine .inr fun a ha j hj=>nJ (fun j hj => ?_) a ha j hj
        have hivl:j=0∨j=1∨j=2∨j=3∨j=4∨j=5∨j=6∨j=7∨j=8∨j=9∨j=10∨j=11:=by omega
        rcases hivl with rfl|rfl|rfl|rfl|rfl|rfl|rfl|rfl|rfl|rfl|rfl|rfl <;> rfl
      ·have gk:∀ f x y,((kz (s.ops.getD i default) (decide ((s.ops.getD i default).kind % 8<3)) (aJ s).length x y f (bO s.bits)).kind == 2)=false:=fun f x y=>by rw [decide_eq_false hp];rfl
       repeat' (first|refine aj gk ?_|refine an ?_|(refine ai (fun K hK => ?_);and_intros;(all_goals first|(refine hK _ ?_;clear hK K)|exact aa|skip)))
       rw [ah]
       simp only [hfr,Int.toNat_natCast,hO]
       refine aw (i+1,ops ++ [O],l,jk) ?_ ⟨by dsimp only;omega,by dsimp only;omega,hstep hc.1 _ (by rw [jd,if_neg hk0,if_neg hp];dsimp only;rw [hO]),by simp;omega,by dsimp only;omega⟩ (by dsimp only;omega)
       dsimp only
       refine az [(1,some 1),(2,some 2),(3,some 7),(4,some 4)] ?_ ?_
       and_intros
       all_goals first|exact ao|skip
       ·simp
       ·simp
       ·refine .inr fun a ha j hj=>dz (fun j hj => ?_) a ha j hj
        have hivl:j=0∨j=1∨j=2∨j=3∨j=4∨j=5∨j=6∨j=7∨j=8∨j=9∨j=10∨j=11:=by omega
        rcases hivl with rfl|rfl|rfl|rfl|rfl|rfl|rfl|rfl|rfl|rfl|rfl|rfl <;> rfl
    ·repeat' (first|refine an ?_|(refine ai (fun K hK => ?_);and_intros;(all_goals first|(refine hK _ ?_;clear hK K)|exact aa|skip))|(refine aW (fun hb => ?_) (fun hb => ?_);all_goals try exact aG))
     have hc2:i=s.ops.length∨i=9:=by omega
     have hfin:oe s=(ops,l):=by
      rw [oe,← hf]
      rcases hc2 with h|h
      ·rw [h,List.take_of_length_le (Nat.le_refl _),List.take_of_length_le (by omega)]
      ·rw [h]
     refine hV2 _ (aQ [(1, .b (.c (.ptr 0 0))),(2, .b (.c (.ptr 1 0))),(4, .b (.c (.ptr 2 0))),(13, .b (.c (.own 4 l.length)))]
      [(0, .fix ((dk s).map CV.p)),(1, .fix ((List.range 10).map fun _=>CV.p .any)),(2, .fix [.p (PI (au s).bits), .p (PI (aq s).x0), .p (PI (aq s).y0), .p (PI (aq s).x1), .p (PI (aq s).y1), .p (PI (bI s)), .p (PI (bF s)), .p (dQ (au s).order), .p (sC (aJ s)), .own 3 ops.length]),
       (3, .arr 29 12 ops.length (bj cT ops)),(4, .arr 29 12 (l.length+jk.length) (bj cT (l ++ jk)))] 5) ?_ ?_
     ·refine az [(1,some 1),(2,some 2),(3,some 3),(4,some 4)] ?_ ?_
      and_intros
      all_goals first|exact ao|skip
     clear hV2 hraw hstep hf
     refine eB ?_
     refine ga fun K hK => ?_
     simp (maxSteps:=999999)(disch:=omega) only [go_sem]
     and_intros
     all_goals first|(refine hK _ ?_;clear hK K)|exact aa|skip
     refine qC fun KB3 hB3 => ?_
     refine aO (X:=Nat) (fun k=>aQ [(1, .b (.c (.ptr 0 0))),(2, .b (.c (.ptr 1 0))),(4, .b (.c (.ptr 2 0))),(13, .b (.c (.own 4 l.length))),(19, .b (I k))]
      [(0, .fix ((dk s).map CV.p)),(1, .fix ((List.range 10).map fun _=>CV.p .any)),(2, .fix [.p (PI (au s).bits), .p (PI (aq s).x0), .p (PI (aq s).y0), .p (PI (aq s).x1), .p (PI (aq s).y1), .p (PI (bI s)), .p (PI (bF s)), .p (dQ (au s).order), .p (sC (aJ s)), .own 3 (ops.length+k)]),
       (3, .arr 29 12 (ops.length+k) (bj cT (ops ++ List.replicate k eG))),(4, .arr 29 12 (l.length+jk.length) (bj cT (l ++ jk)))] 5) (fun k=>k≤l.length) (fun k=>l.length - k) 0 ?_ ?_ ?_
     ·omega
     ·refine az [(1,some 1),(2,some 2),(3,some 3),(4,some 4)] ?_ ?_
      and_intros
      all_goals first|exact ao|skip
      exact .inl (by rw [List.replicate_zero,List.append_nil])
     ·intro k hk
      repeat' (first|refine an ?_|(refine ai (fun K hK => ?_);and_intros;(all_goals first|(refine hK _ ?_;clear hK K)|exact aa|skip))|(refine aW (fun hb => ?_) (fun hb => ?_);all_goals try exact aG)|refine yg (S:=Sg) (by assumption) ?_|(refine ak ?_;(try clear hB KB);(try clear hK K)))
      ·rw [ah]
       refine aw (k+1) ?_ (by omega) (by omega)
       have hl1:(ops ++ List.replicate k eG).length=ops.length+k:=by simp
       have he:(ops ++ List.replicate k eG) ++ [eG]=ops ++ List.replicate (k+1) eG:=by rw [List.append_assoc,List.replicate_succ']
       refine az [(1,some 1),(2,some 2),(3,some 6),(4,some 4)] ?_ ?_
       and_intros
       all_goals first|exact ao|skip
       have key:=fun g hg=>dz (enc:=cT) (xs:=ops ++ List.replicate k eG) (x:=eG) (s:=12) (g:=g) hg
       simp only [hl1,he] at key
       refine .inr (key _ fun j hj => ?_)
       have hivl:j=0∨j=1∨j=2∨j=3∨j=4∨j=5∨j=6∨j=7∨j=8∨j=9∨j=10∨j=11:=by omega
       rcases hivl with rfl|rfl|rfl|rfl|rfl|rfl|rfl|rfl|rfl|rfl|rfl|rfl <;> rfl
      ·have hk2:k=l.length:=by omega
       have e2:ops ++ List.replicate k eG=(au s).ops:=by
        rw [hk2]
        show _=(oe s).1 ++ List.replicate (oe s).2.length eG
        rw [hfin]
       have e1:ops.length+k=(au s).ops.length:=by rw [← e2];simp
       rw [e1,e2]
       refine ⟨⟨_,rfl,rfl,fun _ _ _ _=>PV.le_refl _⟩, ?_⟩
       and_intros
       all_goals first|exact .inl rfl|trivial|skip
theorem lF (s:Scene) (hs:SceneOk s):aC Sg 15 [ag (dk s)] (fun r=>r = .b (ag (aE (au s)))) :=
 DR (rj s hs) rfl
end Go.Proofs.YtmfblbbemekkoaaGreatDoor
set_option maxRecDepth 8000
namespace Go.Proofs.YtmfblbbemekkoaaGreatDoor
open Go Go.SL
open Go.RowKit (wrap64)
theorem xg {st : St} {f : FuncId} {args : List BV} {K : SV → St → Prop} {cs : List (Option PV)} {k e sz n : Nat} {g : Nat → Nat → PV} {q : Prop} (h : kR Sg f args cs k e sz n g) (hk : q) (hw : dW 0 st := by (first | exact cR | fail))
  (ho:qS k cs=true:=by rfl) (hr:Sg.rcv f=true:=by rfl) (hl:gI args:=by simp (maxSteps:=999999)(disch:=omega) only [go_sem]) (w:q→K (.b (.agg (ig (.own st.nx n) cs))) (st.turn (aB st.nx (.arr e sz n g) st.bx) (st.nx+1)):=by (first|(intro h;first|(simp (maxSteps:=999999)(disch:=omega) only [go_sem];exact h)|exact h)|fail)):du Sg st f args (Sl.of K):=by
 refine cf (HD h (ch hl) ho st.bx st.nx) hr (fun i hi => ?_) (by omega) (w hk)
 simp only [aB]
 rw [if_neg (by omega)]
 exact hw.1 i (by omega)
end Go.Proofs.YtmfblbbemekkoaaGreatDoor
