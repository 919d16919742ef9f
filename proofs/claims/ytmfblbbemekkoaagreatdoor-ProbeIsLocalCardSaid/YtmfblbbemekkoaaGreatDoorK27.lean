/- Part of the proof: Br, BrG, BrS, SlRd, SlRe, Y1, F24, SlZa. -/
import Derived.ChangeArms
import Derived.DataReads
import Derived.DataOpen
import Derived.OpenShut
import Derived.Lib.LaidTab
import Derived.Carry
import Derived.ProofKit
import Derived.WideKeyArgs
import Derived.WalkKit
import GoSem.ClaimJoined
import Derived.Test.YtmfblbbemekkoaaGreatDoorRows
import Derived.KernelRfl
import Derived.RangeFuncKeeps
import Derived.RangeFuncLeaves
import Derived.RangeFuncCalls
import Derived.LoopNIn
import Derived.OrdersIn
import Derived.TacticsIn
import Derived.RangeFuncWrites
import Derived.Shelf.Abstract
import Derived.OwnWalkIn
import Derived.TacticsInMore
import Derived.LoopIn
import Derived.Test.YtmfblbbemekkoaaGreatDoorK14
set_option linter.unusedSimpArgs false
set_option linter.unusedVariables false
namespace Go.SL
open Go Go.ChangeShapes
structure Cells (w:World) (cs:List Value) (l:List PV):Prop where
 len:cs.length=l.length
 one:∀ j,j<cs.length→(cs.getD j undef).oneCell'=true
 den:∀ j,j<cs.length→aV (· < w.heap.size) w (l.getD j .any) (cs.getD j undef)
theorem Cells.nil {w:World}:Cells w [] []:=⟨rfl,fun j h=>absurd h (Nat.not_lt_zero j),fun j h=>absurd h (Nat.not_lt_zero j)⟩
theorem lK {α:Type} (a b:List α) (d:α) (j:Nat) (h:j<a.length):(a ++ b).getD j d=a.getD j d:=by
 rw [List.getD_eq_getElem?_getD,List.getD_eq_getElem?_getD,List.getElem?_append_left h]
theorem jG {α:Type} (a b:List α) (d:α) (j:Nat) (h:a.length≤j):(a ++ b).getD j d=b.getD (j - a.length) d:=by
 rw [List.getD_eq_getElem?_getD,List.getD_eq_getElem?_getD,List.getElem?_append_right h]
theorem Cells.append {w:World} {a b:List Value} {l r:List PV} (h:Cells w a l) (k:Cells w b r):Cells w (a ++ b) (l ++ r):=by
 refine ⟨by rw [List.length_append,List.length_append,h.len,k.len],fun j hj => ?_,fun j hj => ?_⟩
 ·rw [List.length_append] at hj
  by_cases hc:j<a.length
  ·rw [lK _ _ _ _ hc];exact h.one j hc
  ·rw [jG _ _ _ _ (by omega)];exact k.one _ (by omega)
 ·rw [List.length_append] at hj
  by_cases hc:j<a.length
  ·rw [lK _ _ _ _ hc,lK _ _ _ _ (by rw [← h.len];exact hc)];exact h.den j hc
  ·rw [jG l r _ _ (by have:=h.len;omega),jG a b _ _ (by omega),← h.len];exact k.den _ (by omega)
theorem Cells.one1 {w:World} {u:Value} {p:PV} (h1:u.oneCell'=true) (h:aV (· < w.heap.size) w p u):Cells w [u] [p]:=by
 refine ⟨rfl,fun j hj => ?_,fun j hj => ?_⟩ <;> (obtain rfl:j=0:=by simp at hj;exact hj)
 ·exact h1
 ·exact h
def oC {α:Type} (P:Program) (t:TypeId) (E:α→List PV) (Ok:α→Prop):Prop :=
 ∀ (H:Type) (enc:TypeId × Value→H) (w:World) (sp:Nat→Bool) (held:Bool) (fuel:Nat) (cs:List Value) (x:DataW H × List MemPlace),
  DataW.trod enc P w 0 sp held fuel t cs=some x→(DataW.weights P t x.1).all (· ≤ reachBytes)=true→∃ a:α,Ok a∧Cells w cs (E a)
theorem oC.to {α β:Type} {P:Program} {t:TypeId} {E:α→List PV} {Ok:α→Prop} {E':β→List PV} {Ok':β→Prop} (h:oC P t E Ok) (g:α→β) (hE:∀ a,E' (g a)=E a) (hO:∀ a,Ok a→Ok' (g a)):oC P t E' Ok':=by
 intro H enc w sp held fuel cs x hx hw
 obtain ⟨a,ho,hc⟩:=h H enc w sp held fuel cs x hx hw
 exact ⟨g a,hO a ho,by rw [hE];exact hc⟩
theorem Gd {P:Program} {t:TypeId} {k:IntKind} (ht:P.underlying t=some (.int k)):oC P t (fun n=>[PV.val (.int k n)]) (fun n=>(Lit.int k n).wf=true):=by
 intro H enc w sp held fuel cs x hx _
 obtain ⟨n,rfl,_,hw⟩:=DataW.trod_int ht hx
 exact ⟨n,hw,Cells.one1 rfl rfl⟩
def fieldsOf (P:Program) (t:TypeId):Option (List (TypeId × Nat)) :=
 match P.underlying t with
 | some (.struct fs)=>some (fs.toList.map fun f=>(f.type,f.offset))
 | some (.array m e)=>some ((List.range m).map fun i=>(e,i * P.cellsOf e))
 | _=>none
theorem kr {H:Type} {P:Program} {e:TypeId}:∀ {ts:List TypeId} {l:List (DataW H)},ts.length=l.length→(∀ t ∈ ts,t=e)→DataW.weightsEach P ts l=DataW.weightsAll P e l
 | [],[],_,_=>rfl
 | t :: ts,d :: l,hl,h=>by
  simp only [DataW.weightsEach,DataW.weightsAll,h t (List.mem_cons_self ..)]
  rw [kr (by simpa using hl) (fun x hx=>h x (List.mem_cons_of_mem _ hx))]
 | [],_ :: _,hl,_=>by simp at hl
 | _ :: _,[],hl,_=>by simp at hl
theorem su {H : Type} {enc : TypeId × Value → H} {P : Program} {w : World} {sp : Nat → Bool} {held : Bool} {fuel : Nat} {cs : List Value} {x : DataW H × List MemPlace} {t : TypeId} {l : List (TypeId × Nat)} (h : fieldsOf P t = some l)
  (hx:DataW.trod enc P w 0 sp held fuel t cs=some x):∃ (xs:List (DataW H × List MemPlace)) (m:Nat),x=(.agg (xs.map (·.1)),xs.flatMap (·.2))∧cs.length=P.cellsOf t∧xs.length=l.length ∧
   (∀ (i:Nat) (f:TypeId × Nat),l[i]?=some f→DataW.trod enc P w 0 sp held m f.1 ((cs.drop f.2).take (P.cellsOf f.1))=xs[i]?) ∧
   (∀ k:List (DataW H),k.length=l.length→DataW.weights P t (.agg k)=DataW.weightsEach P (l.map (·.1)) k):=by
 unfold fieldsOf at h
 split at h
 ·rename_i fs hu
  cases h
  obtain ⟨xs,m,rfl,rfl,hlen,hxl,hf⟩:=DataW.trod_struct hu hx
  refine ⟨xs,m,rfl,hlen,by simpa using hxl,fun i f hi => ?_,fun k _ => ?_⟩
  ·rw [List.getElem?_map,Option.map_eq_some_iff] at hi
   obtain ⟨g,hg,rfl⟩:=hi
   exact hf i g (by simpa using hg)
  ·simp only [DataW.weights,hu,List.map_map]
   rfl
 ·rename_i m e hu
  cases h
  cases fuel with
  | zero=>simp [DataW.trod] at hx
  | succ fuel =>
   simp only [DataW.trod,hu] at hx
   split at hx
   ·rename_i hlen
    obtain ⟨xs,hmm,rfl⟩:=Option.map_eq_some_iff.1 hx
    refine ⟨xs,fuel,rfl,hlen,by simpa using Lib.mapM_length hmm,fun i f hi => ?_,fun k hk => ?_⟩
    ·rw [List.getElem?_map,Option.map_eq_some_iff] at hi
     obtain ⟨g,hg,rfl⟩:=hi
     obtain ⟨b,hb,hf⟩:=Lib.mapM_at hmm i g hg
     have:g=i:=by
      rw [List.getElem?_eq_some_iff] at hg
      obtain ⟨_,hg⟩:=hg
      simpa using hg.symm
     subst this
     rw [hb]
     exact hf
    ·simp only [DataW.weights,hu]
     exact (kr (by simpa using hk.symm) (fun t ht=>by simp at ht;exact ht.2.symm)).symm
   ·cases hx
 ·cases h
def HH {β:Type} (P:Program) (fs:List (TypeId × Nat)) (off n:Nat) (E:β→List PV) (Ok:β→Prop):Prop :=
 ∀ (H:Type) (enc:TypeId × Value→H) (w:World) (sp:Nat→Bool) (held:Bool) (fuel:Nat) (cs:List Value) (xs:List (DataW H × List MemPlace)),
  xs.length=fs.length→(∀ (i:Nat) (f:TypeId × Nat),fs[i]?=some f→DataW.trod enc P w 0 sp held fuel f.1 ((cs.drop f.2).take (P.cellsOf f.1))=xs[i]?) →
  (DataW.weightsEach P (fs.map (·.1)) (xs.map (·.1))).all (· ≤ reachBytes)=true→∃ b:β,Ok b∧Cells w ((cs.drop off).take n) (E b)
theorem kV {P:Program} {off:Nat}:HH P [] off 0 (fun _:Unit=>[]) (fun _=>True):=by
 intro H enc w sp held fuel cs xs _ _ _
 exact ⟨(),trivial,by rw [List.take_zero];exact Cells.nil⟩
theorem aN {α β : Type} {P : Program} {f : TypeId} {fs : List (TypeId × Nat)} {off k n : Nat} {E : α → List PV} {Ok : α → Prop} {E' : β → List PV} {Ok' : β → Prop}
  (h:oC P f E Ok) (hk:P.cellsOf f=k) (hl:HH P fs (off+k) n E' Ok') :
  HH P ((f,off) :: fs) off (k+n) (fun x:α × β=>E x.1 ++ E' x.2) (fun x=>Ok x.1∧Ok' x.2):=by
 intro H enc w sp held fuel cs xs hlen hx hw
 obtain ⟨y,ys,rfl⟩:∃ y ys,xs=y :: ys:=by
  cases xs with
  | nil=>simp at hlen
  | cons y ys=>exact ⟨y,ys,rfl⟩
 have h0:=hx 0 (f,off) rfl
 simp only [hk] at h0
 simp only [List.getElem?_cons_zero] at h0
 simp only [List.map_cons,DataW.weightsEach,List.all_append,Bool.and_eq_true] at hw
 obtain ⟨a,ha,hca⟩:=h H enc w sp held fuel _ y h0 hw.1
 obtain ⟨b,hb,hcb⟩:=hl H enc w sp held fuel cs ys (by simpa using hlen) (fun i g hg=>by have:=hx (i+1) g (by simpa using hg);simpa using this) hw.2
 refine ⟨(a,b),⟨ha,hb⟩, ?_⟩
 rw [List.take_add,List.drop_drop]
 exact hca.append hcb
theorem iA {β:Type} {P:Program} {t:TypeId} {fs:List (TypeId × Nat)} {n:Nat} {E:β→List PV} {Ok:β→Prop} (ht:fieldsOf P t=some fs) (hn:P.cellsOf t=n) (h:HH P fs 0 n E Ok):oC P t E Ok:=by
 intro H enc w sp held fuel cs x hx hw
 obtain ⟨xs,m,rfl,hlen,hxl,hf,hwt⟩:=su ht hx
 rw [hwt _ (by simpa using hxl)] at hw
 obtain ⟨b,hb,hc⟩:=h H enc w sp held m cs xs hxl hf hw
 refine ⟨b,hb, ?_⟩
 rw [List.drop_zero,List.take_of_length_le (by omega)] at hc
 exact hc
theorem kB {H:Type} {P:Program} {e:TypeId}:∀ {l:List (DataW H)},(DataW.weightsAll P e l).all (· ≤ reachBytes)=true→∀ d ∈ l,(DataW.weights P e d).all (· ≤ reachBytes)=true
 | [],_,d,hd=>by cases hd
 | y :: l,h,d,hd=>by
  simp only [DataW.weightsAll,List.all_append,Bool.and_eq_true] at h
  cases hd with
  | head=>exact h.1
  | tail _ hm=>exact kB h.2 d hm
theorem hC {H:Type} {P:Program}:∀ {ts:List TypeId} {ds:List (DataW H)},(DataW.weightsEach P ts ds).all (· ≤ reachBytes)=true→∀ (j:Nat) {t:TypeId} {d:DataW H},ts[j]?=some t→ds[j]?=some d→(DataW.weights P t d).all (· ≤ reachBytes)=true
 | [],_,_,j,t,d,h,_=>by simp at h
 | _ :: _,[],_,j,t,d,_,h=>by simp at h
 | t0 :: ts,d0 :: ds,h,0,t,d,ht,hd=>by
  simp only [DataW.weightsEach,List.all_append,Bool.and_eq_true] at h
  simp only [List.getElem?_cons_zero,Option.some.injEq] at ht hd
  subst ht;subst hd
  exact h.1
 | t0 :: ts,d0 :: ds,h,j+1,t,d,ht,hd=>by
  simp only [DataW.weightsEach,List.all_append,Bool.and_eq_true] at h
  exact hC h.2 j (by simpa using ht) (by simpa using hd)
theorem pd {α:Type} [Inhabited α] {R:Nat→α→Prop}:∀ (n:Nat),(∀ i,i<n→∃ y,R i y)→∃ l:List α,l.length=n∧∀ i,i<n→R i (l.getD i default)
 | 0,_=>⟨[],rfl,fun i h=>absurd h (Nat.not_lt_zero i)⟩
 | n+1,h=>by
  obtain ⟨l,hl,hr⟩:=pd n (fun i hi=>h i (by omega))
  obtain ⟨y,hy⟩:=h n (by omega)
  refine ⟨l ++ [y],by simp [hl],fun i hi => ?_⟩
  by_cases hc:i<n
  ·rw [lK _ _ _ _ (by omega)];exact hr i hc
  ·obtain rfl:i=n:=by omega
   rw [jG _ _ _ _ (by omega),hl,Nat.sub_self]
   exact hy
theorem lA {α : Type} [Inhabited α] {P : Program} {t e : TypeId} {sz by8 : Nat} {E : α → List PV} {Ok : α → Prop} (ht : P.underlying t = some (.slice e)) (hs : P.cellsOf e = sz) (hpos : 0 < sz) (hb : P.bytesOf e = by8) (h : oC P e E Ok) :
  oC P t (fun l:List α=>[PV.lst sz l.length (bd E l)]) (fun l=>l.length * by8≤reachBytes∧∀ x ∈ l,Ok x):=by
 intro H enc w sp held fuel cs x hx hw
 rcases DataW.trod_slice ht hx with ⟨rfl,rfl⟩|⟨a,len,cap,elems,rest,m,rfl,rfl,rfl,hbase,hle,hcap,hel,hev,_,_⟩
 ·exact ⟨[],⟨by simp,fun x hx=>by cases hx⟩,Cells.one1 rfl ⟨none,0,rfl,Nat.le_refl 0,fun h=>absurd h (Nat.lt_irrefl 0)⟩⟩
 ·simp only [DataW.weights,ht,List.all_cons,List.all_append,Bool.and_eq_true,decide_eq_true_eq,List.length_map,hb] at hw
  obtain ⟨hw1,hw2,_⟩:=hw
  have hall:=kB hw2
  have each:∀ i,i<len→∃ y:α,Ok y∧∃ c,c.length=sz∧(∀ j,j<sz→w.cell? ((a.add (i * sz)).add j)=c[j]?)∧Cells w c (E y):=by
   intro i hi
   have:=hev i hi
   rw [hs,List.getElem?_eq_getElem (by omega),Option.bind_eq_some_iff] at this
   obtain ⟨c,hc,htr⟩:=this
   obtain ⟨_,hlen,hcell⟩:=World.cells?_some hc
   obtain ⟨y,hy,hcy⟩:=h H enc w sp held m c _ htr (hall _ (List.mem_map_of_mem (List.getElem_mem _)))
   exact ⟨y,hy,c,hlen,hcell,hcy⟩
  obtain ⟨l,hl,hR⟩:=pd len each
  refine ⟨l,⟨Nat.le_trans (by rw [hl,← hel];exact Nat.mul_le_mul_right _ (Nat.le_add_right _ _)) hw1,fun y hy => ?_⟩,Cells.one1 rfl ⟨some a,cap,by rw [hl],by rw [hl];exact hle,fun hp => ?_⟩⟩
  ·obtain ⟨i,hi,rfl⟩:=List.getElem_of_mem hy
   have:=(hR i (by omega)).1
   rwa [List.getD_eq_getElem?_getD,List.getElem?_eq_getElem hi] at this
  ·rw [hl] at hp
   obtain ⟨b,o,sp0⟩:=a
   obtain ⟨_,c,hlc,hc,hcc⟩:=hR 0 hp
   have h0:=hc 0 hpos
   rw [List.getElem?_eq_getElem (by omega)] at h0
   have hspot:sp0=none:=by simpa [Addr.add] using World.cell?_spot h0
   subst hspot
   refine ⟨b,o,rfl, ?_,fun i hi j hj => ?_⟩
   ·simp only [Nat.zero_mul,Addr.add,if_true] at h0
    unfold World.cell? at h0
    split at h0
    ·rename_i hh
     exact (Array.getElem?_eq_some_iff.1 hh).1
    ·cases h0
   ·rw [hl] at hi
    obtain ⟨_,c,hlc,hc,hcc⟩:=hR i hi
    have hj':=hc j hj
    rw [List.getElem?_eq_getElem (by omega)] at hj'
    have e1:(Addr.add (Addr.add ⟨b,o,none⟩ (i * sz)) j)=⟨b,o+(i * sz+j),none⟩:=by
     unfold Addr.add
     by_cases h1:i * sz=0 <;> by_cases h2:j=0 <;> simp [h1,h2,Nat.add_assoc]
    rw [e1] at hj'
    have o1:=hcc.one j (by omega)
    have d1:=hcc.den j (by omega)
    rw [List.getD_eq_getElem?_getD,List.getElem?_eq_getElem (by omega),Option.getD_some] at o1
    rw [List.getD_eq_getElem?_getD (l:=c),List.getElem?_eq_getElem (by omega),Option.getD_some] at d1
    exact ⟨_,hj',o1,d1⟩
theorem oC.argN {α : Type} {P : Program} {t : TypeId} {E : α → List PV} {Ok : α → Prop} (h : oC P t E Ok) {H : Type} {enc : TypeId × Value → H} {w : World} {sp : Nat → Bool} {held : Bool} {us : Array Value} {d : DataW H} {ps : List MemPlace}
  (hd:DataW.Trod enc P w 0 sp held t (.agg us) d ps) (hw:(DataW.weights P t d).all (· ≤ reachBytes)=true):∃ a,Ok a∧bu bo (· < w.heap.size) w (.agg ((E a).map CV.p)) (.agg us):=by
 obtain ⟨fuel,hf⟩:=hd
 obtain ⟨a,ha,hc⟩:=h H enc w sp held fuel _ _ hf hw
 have hlen:us.size=(E a).length:=by have:=hc.len;simpa [Value.cells] using this
 refine ⟨a,ha,us,rfl,by simpa using hlen,fun j hj => ?_,fun j => ?_⟩
 ·have:=hc.one j (by simpa [Value.cells] using hj)
  simpa [Value.cells] using this
 ·by_cases hj:j<us.size
  ·have h1:=hc.den j (by simpa [Value.cells] using hj)
   have e1:((E a).map CV.p).getD j .any=CV.p ((E a).getD j .any):=by
    rw [List.getD_eq_getElem?_getD,List.getD_eq_getElem?_getD,List.getElem?_map]
    cases (E a)[j]? <;> rfl
   rw [e1]
   simpa [Value.cells,bB] using h1
  ·have e1:((E a).map CV.p).getD j .any=CV.any:=by
    rw [List.getD_eq_getElem?_getD,List.getElem?_eq_none (by simp;omega)];rfl
   rw [e1]
   simp [bB,aV]
def Nh:Lit→Value
 | .int k n => .int k n
 | .bool b => .bool b
 | .string s => .string ⟨s.toArray⟩
 | .float k b => .float k b
 | .nil => .nilIface
mutual
def jx {H:Type}:DataW H→List Value
 | .lit l=>[Nh l]
 | .agg parts=>gL parts
 | .nil=>[]
 | .ptr _=>[]
 | .slice _ _=>[]
 | .iface _ _=>[]
 | .map _=>[]
 | .held _=>[]
def gL {H:Type}:List (DataW H)→List Value
 | []=>[]
 | d :: r=>jx d ++ gL r
end
def Ra (H:Type) (P:Program) (t:TypeId) (n:Nat) (d:DataW H):Prop :=
 ∀ (enc:TypeId × Value→H) (w:World) (sp:Nat→Bool) (held:Bool) (fuel:Nat) (cs:List Value) (ps:List MemPlace),DataW.trod enc P w 0 sp held fuel t cs=some (d,ps)→cs=jx d∧cs.length=n
def qn (P:Program) (t:TypeId) (n:Nat):Prop:=P.cellsOf t=n∧∀ (H:Type) (d:DataW H),Ra H P t n d
theorem qj {P:Program} {t:TypeId} {k:IntKind} (ht:P.underlying t=some (.int k)) (hn:P.cellsOf t=1):qn P t 1:=by
 refine ⟨hn,fun H d enc w sp held fuel cs ps h => ?_⟩
 obtain ⟨n,rfl,hx,_⟩:=DataW.trod_int ht h
 cases hx
 exact ⟨rfl,rfl⟩
theorem xE {P:Program} {t:TypeId} (ht:P.underlying t=some .string) (hn:P.cellsOf t=1):qn P t 1:=by
 refine ⟨hn,fun H d enc w sp held fuel cs ps h => ?_⟩
 obtain ⟨s,rfl,hx,_⟩:=DataW.trod_string ht h
 cases hx
 exact ⟨by simp [jx,Nh],rfl⟩
def Hl (P:Program) (fs:List (TypeId × Nat)) (off n:Nat):Prop :=
 ∀ (H:Type) (enc:TypeId × Value→H) (w:World) (sp:Nat→Bool) (held:Bool) (fuel:Nat) (cs:List Value) (xs:List (DataW H × List MemPlace)),
  xs.length=fs.length→(∀ (i:Nat) (f:TypeId × Nat),fs[i]?=some f→DataW.trod enc P w 0 sp held fuel f.1 ((cs.drop f.2).take (P.cellsOf f.1))=xs[i]?) →
  (cs.drop off).take n=gL (xs.map (·.1))
theorem EX {P:Program} {off:Nat}:Hl P [] off 0:=by
 intro H enc w sp held fuel cs xs hl _
 obtain rfl:xs=[]:=List.length_eq_zero_iff.1 hl
 simp [gL]
theorem la {P:Program} {f:TypeId} {fs:List (TypeId × Nat)} {off k n:Nat} (h:qn P f k) (hl:Hl P fs (off+k) n):Hl P ((f,off) :: fs) off (k+n):=by
 intro H enc w sp held fuel cs xs hlen hx
 obtain ⟨y,ys,rfl⟩:∃ y ys,xs=y :: ys:=by
  cases xs with
  | nil=>simp at hlen
  | cons y ys=>exact ⟨y,ys,rfl⟩
 have h0:=hx 0 (f,off) rfl
 simp only [h.1] at h0
 simp only [List.getElem?_cons_zero] at h0
 have e0:=(h.2 H y.1 enc w sp held fuel _ y.2 h0).1
 have e1:=hl H enc w sp held fuel cs ys (by simpa using hlen) (fun i g hg=>by have:=hx (i+1) g (by simpa using hg);simpa using this)
 rw [List.take_add,List.drop_drop,e0,e1]
 rfl
theorem xx {P:Program} {t:TypeId} {fs:List (TypeId × Nat)} {n:Nat} (ht:fieldsOf P t=some fs) (hn:P.cellsOf t=n) (h:Hl P fs 0 n):qn P t n:=by
 refine ⟨hn,fun H d enc w sp held fuel cs ps hx => ?_⟩
 obtain ⟨xs,m,hd,hlen,hxl,hf,_⟩:=su ht hx
 cases hd
 have:=h H enc w sp held m cs xs hxl hf
 rw [List.drop_zero,List.take_of_length_le (by omega)] at this
 exact ⟨by rw [this];rfl,by omega⟩
theorem xv {H : Type} {P : Program} {e : TypeId} {k : Nat} (h : qn P e k) {enc : TypeId × Value → H} {w : World} {sp : Nat → Bool} {held : Bool} {fuel : Nat} {cs : List Value} :
  ∀ (m off:Nat) (xs:List (DataW H × List MemPlace)),xs.length=m→(∀ i,i<m→DataW.trod enc P w 0 sp held fuel e ((cs.drop (off+i * k)).take k)=xs[i]?)→(cs.drop off).take (m * k)=gL (xs.map (·.1))
 | 0,off,xs,hl,_=>by
  obtain rfl:xs=[]:=List.length_eq_zero_iff.1 hl
  simp [gL]
 | m+1,off,[],hl,_=>by simp at hl
 | m+1,off,y :: ys,hl,hx=>by
  have h0:=hx 0 (by omega)
  simp only [Nat.zero_mul,Nat.add_zero,List.getElem?_cons_zero] at h0
  have e0:=(h.2 H y.1 enc w sp held fuel _ y.2 h0).1
  have e1:=xv h m (off+k) ys (by simpa using hl) (fun i hi=>by
   have:=hx (i+1) (by omega)
   rw [show off+(i+1) * k=off+k+i * k by rw [Nat.succ_mul];omega] at this
   simpa using this)
  rw [show (m+1) * k=k+m * k by rw [Nat.succ_mul];omega,List.take_add,List.drop_drop,e0,e1]
  rfl
theorem xf {P:Program} {t e:TypeId} {m k n:Nat} (ht:P.underlying t=some (.array m e)) (hn:P.cellsOf t=n) (hm:n=m * k) (h:qn P e k):qn P t n:=by
 refine ⟨hn,fun H d enc w sp held fuel cs ps hx => ?_⟩
 cases fuel with
 | zero=>simp [DataW.trod] at hx
 | succ fuel =>
  simp only [DataW.trod,ht,h.1] at hx
  split at hx
  ·rename_i hl
   obtain ⟨xs,hmm,hxx⟩:=Option.map_eq_some_iff.1 hx
   cases hxx
   have hxl:xs.length=m:=by simpa using Lib.mapM_length hmm
   have:=xv (k:=k) h (enc:=enc) (w:=w) (sp:=sp) (held:=held) (fuel:=fuel) (cs:=cs) m 0 xs hxl (fun i hi=>by
    obtain ⟨b,hb,hf⟩:=Lib.mapM_at hmm i i (by simp [hi])
    rw [Nat.zero_add,hf,hb])
   rw [List.drop_zero,List.take_of_length_le (by omega)] at this
   exact ⟨by rw [this];rfl,by omega⟩
  ·cases hx
theorem ny {P : Program} {w : World} : ∀ {l : List (String × DataW Unit)} {ps : List MemPlace}, DataW.LaidVars P w l ps → ∀ n d, (n, d) ∈ l →
  ∃ g t cs fuel p,P.globalNamed n=some g∧(P.globals[g]?).map (·.type)=some t∧w.var? P n=some cs∧DataW.trod (fun _=>()) P w 0 (fun _=>true) false fuel t cs.toList=some (d,p)
 | [],_,_,n,d,hm=>by cases hm
 | (n0,d0) :: r,ps,h,n,d,hm=>by
  obtain ⟨g,t,cs,fuel,p,q,h1,h2,h3,h4,h5,_⟩:=h
  cases hm with
  | head=>exact ⟨g,t,cs,fuel,p,h1,h2,h3,h4⟩
  | tail _ hm=>exact ny h5 n d hm
theorem rQ {P : Program} {w : World} {laid : List (String × DataW Unit)} (h : laidMet P laid w) {n : String} {d : DataW Unit} (hm : (n, d) ∈ laid) {g : Nat} {t : TypeId} {k : Nat} (hg : P.globalNamed n = some g)
  (hty:(P.globals[g]?).map (·.type)=some t) (hl:qn P t k):g<w.heap.size∧∀ j,j<k→w.cell? ⟨g,j,none⟩=(jx d)[j]?:=by
 obtain ⟨ps,hv,_⟩:=h
 obtain ⟨g',t',cs,fuel,p,h1,h2,h3,h4⟩:=ny hv n d hm
 obtain rfl:g=g':=Option.some.inj (hg.symm.trans h1)
 obtain rfl:t=t':=Option.some.inj (hty.symm.trans h2)
 obtain ⟨e1,e2⟩:=hl.2 Unit d _ _ _ _ _ _ _ h4
 unfold World.var? at h3
 rw [hg,Option.bind_some] at h3
 split at h3
 ·rename_i c tt fr hh
  cases h3
  refine ⟨(Array.getElem?_eq_some_iff.1 hh).1,fun j hj => ?_⟩
  unfold World.cell?
  simp only [hh,Option.isSome_none]
  rw [← e1,Array.getElem?_toList]
  rfl
 ·cases h3
theorem Ap {w : World} {g k : Nat} {d : DataW Unit} {vs : List Value} (h : g < w.heap.size ∧ ∀ j, j < k → w.cell? ⟨g, j, none⟩ = (jx d)[j]?) (hd : jx d = vs) (hk : vs.length = k) (h1 : vs.all Value.oneCell' = true) :
  g<w.heap.size∧∀ j,j<k→∃ x,w.cell? ⟨g,j,none⟩=some x∧x.oneCell'=true∧aV (· < w.heap.size) w ((vs.map PV.val).getD j .any) x:=by
 refine ⟨h.1,fun j hj=>⟨vs[j]'(by omega), ?_, ?_, ?_⟩⟩
 ·rw [h.2 j hj,hd,List.getElem?_eq_getElem]
 ·exact List.all_eq_true.1 h1 _ (List.getElem_mem _)
 ·rw [List.getD_eq_getElem?_getD,List.getElem?_map,List.getElem?_eq_getElem (by omega)]
  rfl
section
variable {H:Type} {enc:TypeId × Value→H} {P:Program}
theorem je (hl : laidOutB P = true) {W W' : World} (hb : RowKit.Below W.heap.size W W') {sp : Nat → Bool} : ∀ {ts : List TypeId} {vs : List Value} {ds : List (DataW H)} {ps : List MemPlace},
  (ts.all fun t=>P.readableRec t && decide (t<P.types.size))=true→DataW.TrodAll enc P W 0 (fun _=>true) true ts vs ds ps→(∀ x ∈ ps,x.block<W.heap.size)→(∀ x ∈ ps,sp x.block=true)→DataW.TrodAll enc P W' 0 sp true ts vs ds ps
 | [],[],[],ps,_,h,_,_=>h
 | t :: ts,v :: vs,d :: ds,ps,hr,h,hlt,hsp=>by
  obtain ⟨p,q,h1,h2,rfl⟩:=h
  simp only [List.all_cons,Bool.and_eq_true,decide_eq_true_eq] at hr
  exact ⟨p,q,WideElems.Trod_stays hl hr.1.1 hr.1.2 h1 (fun x hx=>hb.same (hlt x (List.mem_append_left _ hx))) (fun x hx=>hsp x (List.mem_append_left _ hx)),
   je hl hb hr.2 h2 (fun x hx=>hlt x (List.mem_append_right _ hx)) (fun x hx=>hsp x (List.mem_append_right _ hx)),rfl⟩
 | [],_ :: _,_,_,_,h,_,_=>absurd h (by simp [DataW.TrodAll])
 | [],[],_ :: _,_,_,h,_,_=>absurd h (by simp [DataW.TrodAll])
 | _ :: _,[],_,_,_,h,_,_=>absurd h (by simp [DataW.TrodAll])
 | _ :: _,_ :: _,[],_,_,h,_,_=>absurd h (by simp [DataW.TrodAll])
theorem Ba {fn : Func} {s : ChangeSpec} {fresh handsOn again : Bool} {W W' : World} {args : Array Value} {ds gs : List (DataW H)} {before : List MemPlace} {tb : TypeId} (hl : laidOutB P = true)
  (hread:(fn.params.toList.all fun t=>P.readableRec t && decide (t<P.types.size))=true) (hrt:fn.resultTypes = #[tb]) (htb:P.underlying tb=some .bool) (hv:s.vars=[])
  (hW:DataW.Whole enc P fn.params.toList s.vars false W args.toList ds gs before) (hs:s.fn H ds = { results:=[.lit (.bool true)],args:=ds }) (hb:RowKit.Below W.heap.size W W') :
  s.post enc P fn false fresh handsOn again W args (.bool true) W':=by
 have hlt:=fun p hp=>hW.lt p hp
 have hW0:=hW
 obtain ⟨p,q,hA,hV,rfl,hz,hn⟩:=hW0
 rw [hv] at hV
 obtain ⟨rfl,rfl⟩:=trodVars_none hV
 simp only [List.append_nil] at hW hlt hz hn
 have hone:(Value.bool true).resultList fn.resultTypes.size=[.bool true]:=by rw [hrt];rfl
 refine ⟨ds,[],p,[],p,[],hW, ?_, ?_, ?_,hb.frame _,fun _=>⟨?_,[.lit (.bool true)] ++ ds,[],p,⟨p,[], ?_, ?_,(List.append_nil p).symm, ?_,fun h=>by cases h⟩,fun x hx _=>hx⟩⟩
 ·rw [List.append_nil,hs,hrt]
  exact trodAll_mk1 (RowKit.shut_bool htb _)
 ·rw [List.append_nil,hs]
  exact je hl hb hread hA hlt (fun x hx=>by simpa using hlt x hx)
 ·rw [List.append_nil,hs,hv]
  rfl
 ·exact RowKit.ok_one hrt rfl (RowKit.okWide_bool_mk htb _)
 ·have:=trodAll_append (enc:=enc) (P:=P) (w:=W') (base:=0) (spare:=fun _=>true) (held:=true) (je hl hb hread hA hlt (fun _ _=>rfl)) (ts:=fn.resultTypes.toList) (vs:=(Value.bool true).resultList fn.resultTypes.size) (ds:=[.lit (.bool true)]) (p:=[]) (by rw [hrt];exact trodAll_mk1 (RowKit.shut_bool htb _))
  exact this
 ·rw [hv]
  rfl
 ·intro b off hm
  have:=hz b off hm
  rw [hb.frozen (p:=⟨b,off,none⟩) (hlt _ hm)]
  exact this
theorem Gb {ok:Nat→Prop} {w:World}:∀ j,bu bo ok w (([]:List BV).getD j .any) (([]:List Value).getD j undef):=fun j=>by simp [bu,bB,aV]
theorem ni {ok : Nat → Prop} {w : World} {b : BV} {v : Value} {bs : List BV} {vs : List Value} (h : bu bo ok w b v) (k : ∀ j, bu bo ok w (bs.getD j .any) (vs.getD j undef)) :
  ∀ j,bu bo ok w ((b :: bs).getD j .any) ((v :: vs).getD j undef)
 | 0=>h
 | j+1=>k j
theorem Bo {S : Env} {f : FuncId} {fn : Func} {s : ChangeSpec} {bvs : List BV} {fresh handsOn again : Bool} {W : World} {args : Array Value} {ds gs : List (DataW H)} {before : List MemPlace} {tb : TypeId}
  (hp:aD S f bvs (fun r=>r = .b (.c (.p (.val (.bool true)))))) (hl:laidOutB S.P=true) (hread:(fn.params.toList.all fun t=>S.P.readableRec t && decide (t<S.P.types.size))=true)
  (hrt:fn.resultTypes = #[tb]) (htb:S.P.underlying tb=some .bool) (hv:s.vars=[]) (hW:DataW.Whole enc S.P fn.params.toList s.vars false W args.toList ds gs before)
  (hs:s.fn H ds = { results:=[.lit (.bool true)],args:=ds }) (hG:mZ S (· < W.heap.size) W) (hn:args.toList.length=bvs.length) (hd:∀ j,bu bo (· < W.heap.size) W (bvs.getD j .any) (args.toList.getD j undef)) :
  Calls S.P f args W fun e W'=>∃ v,e = .returned v∧s.post enc S.P fn false fresh handsOn again W args v W':=by
 have:=hp.2 (· < W.heap.size) W args (fun _ h=>h) hG (by simpa using hn) (fun j=>by have:=hd j;rwa [show args.toList.getD j undef=args.getD j undef by simp [List.getD_eq_getElem?_getD,Array.getD_eq_getD_getElem?]] at this)
 refine this.mono fun e W' h => ?_
 obtain ⟨v,r,he,hr,_,hb,hdn⟩:=h
 subst hr
 obtain rfl:v = .bool true:=hdn
 exact ⟨_,he,Ba hl hread hrt htb hv hW hs hb⟩
theorem qv {α : Type} {t : TypeId} {E : α → List PV} {Ok : α → Prop} (C : oC P t E Ok) (ht : (fieldsOf P t).isSome = true) {W : World} {r : Reach} {b0 : Nat} {v : Value} {d : DataW H} {ps : List MemPlace} {sp : Nat → Bool} {held : Bool}
  (hval:Value.okWide P W r b0 t v) (hd:DataW.Trod enc P W 0 sp held t v d ps) (hw:(DataW.weights P t d).all (· ≤ reachBytes)=true):∃ a,Ok a∧bu bo (· < W.heap.size) W (.agg ((E a).map CV.p)) v:=by
 unfold fieldsOf at ht
 unfold Value.okWide at hval
 split at ht
 ·rename_i fs hu
  rw [hu] at hval
  obtain ⟨cs,rfl,_⟩:=hval
  exact C.argN hd hw
 ·rename_i m e hu
  rw [hu] at hval
  obtain ⟨cs,rfl,_⟩:=hval
  exact C.argN hd hw
 ·cases ht
theorem Aa {t : TypeId} {k : IntKind} (ht : P.underlying t = some (.int k)) {W : World} {r : Reach} {b0 : Nat} {v : Value} {d : DataW H} {ps : List MemPlace} {sp : Nat → Bool} {held : Bool}
  (hval:Value.okWide P W r b0 t v) (hd:DataW.Trod enc P W 0 sp held t v d ps):∃ n,(Lit.int k n).wf=true∧bu bo (· < W.heap.size) W (.c (.p (.val (.int k n)))) v:=by
 obtain ⟨n,rfl,_,_,hw⟩:=open_int ht hval hd
 exact ⟨n,hw,rfl⟩
end
end Go.SL
set_option maxRecDepth 100000
namespace Go.Proofs.YtmfblbbemekkoaaGreatDoor
open Go Go.SL
theorem Np:qn Tryz.prog 258 13:=xf (e:=9) (m:=13) (k:=1) (by kernel_rfl) (by kernel_rfl) (by rfl) (xE (t:=9) (by kernel_rfl) (by kernel_rfl))
def QT:List Value:=[.string ⟨#[]⟩, .string ⟨#[110,111,114,109,97,108]⟩, .string ⟨#[109,117,108,116,105,112,108,121]⟩, .string ⟨#[115,99,114,101,101,110]⟩, .string ⟨#[111,118,101,114,108,97,121]⟩, .string ⟨#[100,97,114,107,101,110]⟩, .string ⟨#[108,105,103,104,116,101,110]⟩, .string ⟨#[99,111,108,111,114,45,100,111,100,103,101]⟩, .string ⟨#[99,111,108,111,114,45,98,117,114,110]⟩, .string ⟨#[104,97,114,100,45,108,105,103,104,116]⟩, .string ⟨#[115,111,102,116,45,108,105,103,104,116]⟩, .string ⟨#[100,105,102,102,101,114,101,110,99,101]⟩, .string ⟨#[101,120,99,108,117,115,105,111,110]⟩]
theorem OU:g0=QT.map PV.val:=rfl
theorem QB {laid:List (String × DataW Unit)} {W:World} (h:laidMet Tryz.prog laid W) (hm:∃ n,(n,Rows.laid_compositor_blend_names) ∈ laid∧Tryz.prog.globalNamed n=some 0):0<W.heap.size∧∀ j,j<13→∃ x,W.cell? ⟨0,j,none⟩=some x∧x.oneCell'=true∧aV (· < W.heap.size) W (g0.getD j .any) x:=by
 rw [OU]
 obtain ⟨n,hm,hn⟩:=hm
 exact Ap (vs:=QT) (rQ h hm (g:=0) (t:=258) hn (by kernel_rfl) Np) (by kernel_rfl) rfl (by kernel_rfl)
theorem Oi:qn Tryz.prog 255 4:=xx (fs:=[(9,0),(3,1),(3,2),(3,3)]) (by kernel_rfl) (by kernel_rfl) (la (xE (t:=9) (by kernel_rfl) (by kernel_rfl)) (la (qj (t:=3) (k := .i64) (by kernel_rfl) (by kernel_rfl)) (la (qj (t:=3) (k := .i64) (by kernel_rfl) (by kernel_rfl)) (la (qj (t:=3) (k := .i64) (by kernel_rfl) (by kernel_rfl)) (EX)))))
theorem No:qn Tryz.prog 275 52:=xf (e:=255) (m:=13) (k:=4) (by kernel_rfl) (by kernel_rfl) (by rfl) (Oi)
def QU:List Value:=[.string ⟨#[]⟩, .int .i64 0, .int .i64 0, .int .i64 0, .string ⟨#[99,108,101,97,114]⟩, .int .i64 0, .int .i64 0, .int .i64 0, .string ⟨#[115,114,99]⟩, .int .i64 1, .int .i64 0, .int .i64 1, .string ⟨#[100,115,116]⟩, .int .i64 0, .int .i64 1, .int .i64 2, .string ⟨#[115,114,99,45,111,118,101,114]⟩, .int .i64 1, .int .i64 3, .int .i64 3, .string ⟨#[100,115,116,45,111,118,101,114]⟩, .int .i64 3, .int .i64 1, .int .i64 3, .string ⟨#[115,114,99,45,105,110]⟩, .int .i64 2, .int .i64 0, .int .i64 4, .string ⟨#[100,115,116,45,105,110]⟩, .int .i64 0, .int .i64 2, .int .i64 4, .string ⟨#[115,114,99,45,111,117,116]⟩, .int .i64 3, .int .i64 0, .int .i64 1, .string ⟨#[100,115,116,45,111,117,116]⟩, .int .i64 0, .int .i64 3, .int .i64 2, .string ⟨#[115,114,99,45,97,116,111,112]⟩, .int .i64 2, .int .i64 3, .int .i64 2, .string ⟨#[100,115,116,45,97,116,111,112]⟩, .int .i64 3, .int .i64 2, .int .i64 1, .string ⟨#[120,111,114]⟩, .int .i64 3, .int .i64 3, .int .i64 3]
theorem Qg:g1=QU.map PV.val:=rfl
theorem Qf {laid:List (String × DataW Unit)} {W:World} (h:laidMet Tryz.prog laid W) (hm:∃ n,(n,Rows.laid_compositor_operator_rules) ∈ laid∧Tryz.prog.globalNamed n=some 1):1<W.heap.size∧∀ j,j<52→∃ x,W.cell? ⟨1,j,none⟩=some x∧x.oneCell'=true∧aV (· < W.heap.size) W (g1.getD j .any) x:=by
 rw [Qg]
 obtain ⟨n,hm,hn⟩:=hm
 exact Ap (vs:=QU) (rQ h hm (g:=1) (t:=275) hn (by kernel_rfl) No) (by kernel_rfl) rfl (by kernel_rfl)
theorem glOk {laid:List (String × DataW Unit)} {W:World} (h:laidMet Tryz.prog laid W) (h0:∃ n,(n,Rows.laid_compositor_blend_names) ∈ laid∧Tryz.prog.globalNamed n=some 0:=by first|exact ⟨_, .head _,by kernel_rfl⟩|exact ⟨_, .tail _ (.head _),by kernel_rfl⟩|exact ⟨_, .tail _ (.tail _ (.head _)),by kernel_rfl⟩|exact ⟨_, .tail _ (.tail _ (.tail _ (.head _))),by kernel_rfl⟩) (h1:∃ n,(n,Rows.laid_compositor_operator_rules) ∈ laid∧Tryz.prog.globalNamed n=some 1:=by first|exact ⟨_, .head _,by kernel_rfl⟩|exact ⟨_, .tail _ (.head _),by kernel_rfl⟩|exact ⟨_, .tail _ (.tail _ (.head _)),by kernel_rfl⟩|exact ⟨_, .tail _ (.tail _ (.tail _ (.head _))),by kernel_rfl⟩):mZ Sg (· < W.heap.size) W:=by
 intro g n f hg
 have hg:KQ g=some (n,f):=hg
 unfold KQ at hg
 split at hg
 ·rename_i e;subst e;cases hg;exact QB h h0
 split at hg
 ·rename_i e;subst e;cases hg;exact Qf h h1
 cases hg
noncomputable def nR (os : Os) : World := { World.holding Tryz.prog os ⟨#[], #[], []⟩ with heap := (((((World.holding Tryz.prog os ⟨#[], #[], []⟩).heap).modify 0 fun
   | .cells _ t fr => .cells #[.string ⟨#[]⟩, .string ⟨#[110,111,114,109,97,108]⟩, .string ⟨#[109,117,108,116,105,112,108,121]⟩, .string ⟨#[115,99,114,101,101,110]⟩, .string ⟨#[111,118,101,114,108,97,121]⟩, .string ⟨#[100,97,114,107,101,110]⟩, .string ⟨#[108,105,103,104,116,101,110]⟩, .string ⟨#[99,111,108,111,114,45,100,111,100,103,101]⟩, .string ⟨#[99,111,108,111,114,45,98,117,114,110]⟩, .string ⟨#[104,97,114,100,45,108,105,103,104,116]⟩, .string ⟨#[115,111,102,116,45,108,105,103,104,116]⟩, .string ⟨#[100,105,102,102,101,114,101,110,99,101]⟩, .string ⟨#[101,120,99,108,117,115,105,111,110]⟩] t fr
   | o=>o)).modify 1 fun
   | .cells _ t fr => .cells #[.string ⟨#[]⟩, .int .i64 0, .int .i64 0, .int .i64 0, .string ⟨#[99,108,101,97,114]⟩, .int .i64 0, .int .i64 0, .int .i64 0, .string ⟨#[115,114,99]⟩, .int .i64 1, .int .i64 0, .int .i64 1, .string ⟨#[100,115,116]⟩, .int .i64 0, .int .i64 1, .int .i64 2, .string ⟨#[115,114,99,45,111,118,101,114]⟩, .int .i64 1, .int .i64 3, .int .i64 3, .string ⟨#[100,115,116,45,111,118,101,114]⟩, .int .i64 3, .int .i64 1, .int .i64 3, .string ⟨#[115,114,99,45,105,110]⟩, .int .i64 2, .int .i64 0, .int .i64 4, .string ⟨#[100,115,116,45,105,110]⟩, .int .i64 0, .int .i64 2, .int .i64 4, .string ⟨#[115,114,99,45,111,117,116]⟩, .int .i64 3, .int .i64 0, .int .i64 1, .string ⟨#[100,115,116,45,111,117,116]⟩, .int .i64 0, .int .i64 3, .int .i64 2, .string ⟨#[115,114,99,45,97,116,111,112]⟩, .int .i64 2, .int .i64 3, .int .i64 2, .string ⟨#[100,115,116,45,97,116,111,112]⟩, .int .i64 3, .int .i64 2, .int .i64 1, .string ⟨#[120,111,114]⟩, .int .i64 3, .int .i64 3, .int .i64 3] t fr
   | o=>o) }
end Go.Proofs.YtmfblbbemekkoaaGreatDoor
set_option maxRecDepth 8000
namespace Go.Proofs.YtmfblbbemekkoaaGreatDoor
open Go Go.SL
theorem Lm {n:Int} (h:(Lit.int .i64 n).wf=true):i64 n:=bounds_i64 h
theorem qu {α:Type} [Inhabited α] {p:α→Prop} {l:List α} (h:∀ x ∈ l,p x) (i:Nat) (hi:i<l.length):p (l.getD i default):=by
 rw [List.getD_eq_getElem?_getD,List.getElem?_eq_getElem hi]
 exact h _ (List.getElem_mem _)
theorem uG {n b:Nat} (hb:0<b) (h:n * b≤reachBytes):n≤4611686018427387904:=by
 have:n≤n * b:=Nat.le_mul_of_pos_right _ hb
 have e:reachBytes=140737488351232:=rfl
 omega
theorem cX:oC Sg.P 3 (fun n=>[PI n]) i64:=(Gd (k := .i64) (by kernel_rfl)).to id (fun _=>rfl) (fun _ h=>Lm h)
theorem Mk:oC Sg.P 22 (fun l=>[eT l]) (fun l=>l.length≤4611686018427387904∧∀ x ∈ l,i64 x) :=
 (lA (sz:=1) (by8:=8) (by kernel_rfl) (by kernel_rfl) (by decide) (by kernel_rfl) cX).to id (fun _=>rfl) (fun _ h=>⟨uG (by decide) h.1,h.2⟩)
theorem Nk:oC Sg.P 31 Hj RawOk:=by
 refine oC.to (iA ?_ ?_ (aN cX rfl (aN cX rfl (aN cX rfl (aN cX rfl (aN cX rfl (aN cX rfl (aN cX rfl (aN cX rfl (aN cX rfl (aN cX rfl (aN cX rfl kV))))))))))))
  (fun (a,b,c,d,e,f,g,h,i,j,k,_)=>(⟨a,b,c,d,e,f,g,h,i,j,k⟩:Raw)) (fun _=>rfl) ?_
 ·kernel_rfl
 ·kernel_rfl
 ·rintro _ ⟨h1,h2,h3,h4,h5,h6,h7,h8,h9,h10,h11,_⟩
  exact ⟨h1,h2,h3,h4,h5,h6,h7,h8,h9,h10,h11⟩
theorem QF:oC Sg.P 130 OO N5ok:=by
 refine oC.to (iA ?_ ?_ (aN cX rfl (aN cX rfl (aN cX rfl (aN cX rfl (aN cX rfl kV)))))) (fun (a,b,c,d,e,_)=>(⟨a,b,c,d,e⟩:N5)) (fun _=>rfl) ?_
 ·kernel_rfl
 ·kernel_rfl
 ·rintro _ ⟨h1,h2,h3,h4,h5,_⟩
  exact ⟨h1,h2,h3,h4,h5⟩
theorem NX:oC Sg.P 76 (fun l=>[OP l]) (fun l=>l.length≤4611686018427387904∧∀ x ∈ l,N5ok x) :=
 (lA (sz:=5) (by8:=40) (by kernel_rfl) (by kernel_rfl) (by decide) (by kernel_rfl) QF).to id (fun _=>rfl) (fun _ h=>⟨uG (by decide) h.1,h.2⟩)
theorem OH:oC Sg.P 78 yN RowOk:=by
 refine oC.to (iA ?_ ?_ (aN cX rfl (aN NX rfl kV))) (fun (a,b,_)=>(⟨a,b⟩:Row)) (fun _=>rfl) ?_
 ·kernel_rfl
 ·kernel_rfl
 ·rintro _ ⟨h1,h2,_⟩
  exact ⟨h1,qu h2.2,h2.1⟩
theorem Nn:oC Sg.P 80 EC PicOk:=by
 refine oC.to (iA ?_ ?_ (aN cX rfl (aN cX rfl (aN cX rfl (aN OH rfl kV))))) (fun (a,b,c,d,_)=>(⟨a,b,c,d⟩:Pic)) (fun _=>rfl) ?_
 ·kernel_rfl
 ·kernel_rfl
 ·rintro _ ⟨h1,h2,h3,h4,_⟩
  exact ⟨h1,h2,h3,h4⟩
theorem KG:oC Sg.P 23 (fun l=>[Ld l]) (fun l=>l.length≤4611686018427387904∧∀ x ∈ l,PicOk x) :=
 (lA (sz:=5) (by8:=56) (by kernel_rfl) (by kernel_rfl) (by decide) (by kernel_rfl) Nn).to id (fun _=>rfl) (fun _ h=>⟨uG (by decide) h.1,h.2⟩)
theorem KM:oC Sg.P 24 (fun l=>[Mc l]) (fun l=>l.length≤4611686018427387904∧∀ x ∈ l,RawOk x) :=
 (lA (sz:=11) (by8:=88) (by kernel_rfl) (by kernel_rfl) (by decide) (by kernel_rfl) Nk).to id (fun _=>rfl) (fun _ h=>⟨uG (by decide) h.1,h.2⟩)
theorem zZ:oC Sg.P 26 eJ SceneOk:=by
 refine oC.to (iA ?_ ?_ (aN cX rfl (aN cX rfl (aN cX rfl (aN cX rfl (aN cX rfl (aN cX rfl (aN cX rfl (aN Mk rfl (aN KG rfl (aN KM rfl kV)))))))))))
  (fun (a,b,c,d,e,f,g,h,i,j,_)=>(⟨a,b,c,d,e,f,g,h,i,j⟩:Scene)) (fun _=>rfl) ?_
 ·kernel_rfl
 ·kernel_rfl
 ·rintro _ ⟨h1,h2,h3,h4,h5,h6,h7,h8,h9,h10,_⟩
  exact ⟨h1,h2,h3,h4,h5,h6,h7,h8.1,h9.1,h10.1,qu h9.2,qu h10.2⟩
end Go.Proofs.YtmfblbbemekkoaaGreatDoor
namespace Go.SL
open Go
section
variable {P:Program} {n l:Nat} {Q:Exit→Act→World→Prop}
theorem IV {row:String} {args:Array Value} {w:World} {R:Value→World→Prop} (h:Rows P row args w R):RowsIn (Fence.wide.inRound l) n P row args w R :=
 fun c cs _=>let ⟨v,w',r,s⟩:=h c cs; ⟨v,w',r,stepsIn_wide.2 s⟩
theorem GQ {o:Oper} {a:Act} {w:World} {next:Act→World→Prop} (hd:∀ c,o.op ≠ .defer c) (h:o.wp P a w next Q):o.wpIn (Fence.wide.inRound l) n P a w next Q:=by
 refine ⟨fun _ _=>trivial, ?_⟩
 rw [Fence.inRound_round,Oper.semAt_some l _ _ hd]
 unfold Oper.wp at h
 generalize (execOp a.eval o).run P w=r at *
 cases r with
 | ok x w' =>
  cases x with
  | value v=>exact h
  | skip=>exact h
  | defer d=>exact h
  | enter f args=>exact ⟨fun q=>(by cases q),CallsIn.inRound l (callsIn_wide.2 h)⟩
  | row r args=>exact ⟨fun q=>(by cases q),IV h⟩
  | _=>exact h.elim
 | halt x w' =>
  cases x with
  | panic v=>exact h
  | _=>exact h.elim
def xm (ops:List Oper):Bool:=ops.all fun o=>match o.op with
 | .defer _=>false
 | _=>true
theorem zc {ops:Array Oper} (h:xm ops.toList=true) {i:Nat} {o:Oper} (ho:ops[i]?=some o) (c:Call):o.op ≠ .defer c:=fun e=>by
 have hm:o ∈ ops.toList:=by
  have:=Array.mem_of_getElem? ho
  simpa using this
 have:=List.all_eq_true.1 h o hm
 rw [e] at this
 cases this
theorem zE {ops:Array Oper} (hd:xm ops.toList=true) (hL:¬ LetsOut Q) {i:Nat} {K K':Act→World→Prop} {a:Act} {w:World} (hK:∀ a w,K a w→K' a w) (h:wpOp P ops Q i K a w):wpOpIn (Fence.wide.inRound l) n P ops Q i K' a w:=by
 unfold wpOp at h
 unfold wpOpIn
 cases ho:ops[i]? with
 | none=>rw [ho] at h;exact hK _ _ h
 | some o =>
  rw [ho] at h
  dsimp only at h ⊢
  split
  ·rename_i hw
   rw [if_pos hw] at h
   rcases h with h|⟨_,h⟩
   ·exact GQ (zc hd ho) (Oper.wp_mono hK h)
   ·exact absurd h hL
  ·rename_i hw
   rw [if_neg hw] at h
   exact ⟨fun _ _=>trivial,hK _ _ h⟩
theorem xO {ops:Array Oper} (hd:xm ops.toList=true) (hL:¬ LetsOut Q):∀ (L:List Nat) (a:Act) (w:World),wpOps P ops Q L a w→wpOpsIn (Fence.wide.inRound l) n P ops Q L a w
 | [],_,_,h=>h
 | i :: r,a,w,h=>by
  rw [wpOps_cons] at h
  rw [wpOpsIn_cons]
  exact zE hd hL (xO hd hL r) h
theorem wz {ops:Array Oper} (hd:xm ops.toList=true) (hL:¬ LetsOut Q):∀ (fuel:Nat) (listed:Array Bool) (a:Act) (w:World),wpAny P .any ops Q fuel listed a w→wpAnyIn (Fence.wide.inRound l) n P .any ops Q fuel listed a w
 | 0,_,_,_,h=>h
 | fuel+1,listed,a,w,h=>⟨h.1,fun i hi=>zE hd hL (wz hd hL fuel _) (h.2 i hi)⟩
end
def gS:Code→Bool
 | .region _ ops _=>xm ops.toList
 | .seq x y=>gS x && gS y
 | .cond _ x y=>gS x && gS y
 | .block _ c=>gS c
 | .loop c=>gS c
 | _=>true
section
variable {S:Env} {E:Ent}
theorem zP {Q:AExit→St→Prop}:¬ LetsOut (yz S E Q):=fun ⟨_,_,h⟩=>h
theorem eL (hm:S.P.follows .mixedOrders=true) (l n:Nat):∀ (c:Code) {Q:AExit→St→Prop} {st:St} {ρ:ey} {a:Act} {w:World},cf E.N c=true→gS c=true→cw S c Q st→Gam S E st ρ a w→c.wpIn (Fence.wide.inRound l) n S.P (yz S E Q) a w
 | .skip,Q,st,ρ,a,w,_,_,h,g=>wpIn_skip ⟨st,ρ,g,h⟩
 | .label _,Q,st,ρ,a,w,_,_,h,g=>wpIn_label ⟨st,ρ,g,h⟩
 | .exit id,Q,st,ρ,a,w,_,_,h,g=>wpIn_exit ⟨st,ρ,g,h⟩
 | .ret,Q,st,ρ,a,w,_,_,h,g=>wpIn_ret ⟨st,ρ,g,h⟩
 | .region id ops draw,Q,st,ρ,a,w,hN,hd,h,g=>by
  simp only [cw] at h
  simp only [cf] at hN
  simp only [gS] at hd
  cases draw with
  | true =>
   rw [if_pos rfl] at h
   exact wpIn_region_any hm (wz hd zP _ _ _ _ (jO hN (fun _ _ h=>h) _ _ h g.drew))
  | false =>
   rw [if_neg (by simp)] at h
   refine wpIn_region (xO hd zP _ _ _ ?_)
   have:=mn (Q:=yz S E Q) hN (fun _ _ h=>h) ops.toList 0 (fun j=>by simp) h g
   rw [List.range_eq_range']
   simpa using this
 | .seq x y,Q,st,ρ,a,w,hN,hd,h,g=>by
  simp only [cf,Bool.and_eq_true] at hN
  simp only [gS,Bool.and_eq_true] at hd
  refine wpIn_seq (wpIn_mono (eL hm l n x hN.1 hd.1 h g) fun e a w hq => ?_)
  cases e with
  | normal =>
   obtain ⟨st',ρ',g',hk⟩:=hq
   rcases hk with hk|hk
   ·obtain ⟨st2,ρ2,g2,hk2⟩:=Wk.nxt hk g'
    exact eL hm l n y hN.2 hd.2 hk2 g2
   ·exact eL hm l n y hN.2 hd.2 hk g'
  | _=>exact hq
 | .cond c x y,Q,st,ρ,a,w,hN,hd,h,g=>by
  simp only [cf,Bool.and_eq_true] at hN
  simp only [gS,Bool.and_eq_true] at hd
  simp only [cw] at h
  split at h
  ·rename_i t ht
   have hdd:=(g.ev c).1
   rw [ht] at hdd
   have hc:a.eval c = .bool t:=hdd
   cases t with
   | true=>exact wpIn_cond_true hc (eL hm l n x hN.1 hd.1 (h.1 rfl) g)
   | false=>exact wpIn_cond_false hc (eL hm l n y hN.2 hd.2 (h.2 rfl) g)
  ·exact h.elim
 | .block id c,Q,st,ρ,a,w,hN,hd,h,g=>by
  refine wpIn_block (wpIn_mono (eL hm l n c hN hd h g) fun e a w hq => ?_)
  cases e with
  | exit id' =>
   obtain ⟨st',ρ',g',hk⟩:=hq
   simp only [iW] at hk
   simp only [Exit.inBlock]
   split
   ·rename_i he;rw [if_pos he] at hk;exact ⟨st',ρ',g',hk⟩
   ·rename_i he;rw [if_neg he] at hk;exact ⟨st',ρ',g',hk⟩
  | _=>exact hq
 | .loop c,Q,st,ρ,a,w,hN,hd,h,g=>by
  obtain ⟨I,n0,h0,hr⟩:=h
  have key:∀ k m st ρ a w,m<k→I m st→Gam S E st ρ a w→Code.roundsIn (Fence.wide.inRound l) n S.P c (yz S E Q) k a w:=by
   intro k
   induction k with
   | zero=>intro m st ρ a w hlt;omega
   | succ k ih =>
    intro m st ρ a w hlt hI g
    rw [roundsIn_succ]
    refine wpIn_mono (eL hm l n c hN hd (hr m st hI) g) fun e a w hq => ?_
    cases e with
    | normal =>
     obtain ⟨st',ρ',g',hk⟩:=hq
     obtain ⟨st2,ρ2,g2,n',hlt',hk1⟩:=Wk.nxt hk g'
     exact ih n' st2 ρ2 a w (by omega) hk1 g2
    | _=>exact hq
  obtain ⟨st2,ρ2,g2,h2⟩:=Wk.nxt h0 g
  exact wpIn_loop_rounds (n0+1) (key _ n0 st2 ρ2 a w (Nat.lt_succ_self _) h2 g2)
 | .rangeFunc ..,Q,st,ρ,a,w,_,_,h,g=>h.elim
 | .scope _,Q,st,ρ,a,w,_,_,h,g=>h.elim
 | .goto _,Q,st,ρ,a,w,_,_,h,g=>h.elim
 | .refuse _,Q,st,ρ,a,w,_,_,h,g=>h.elim
end
end Go.SL
namespace Go.SL
open Go Go.RowKit
structure RndOk (S:Env) (N:Nat) (w:World) (f:Nat→SV) (a:Act):Prop where
 dfr:a.defers=[]
 sz:a.tmps.size=N
 lt:∀ s,(f s).lt 0
 den:∀ s,aU bo (fun b=>b<w.heap.size) w (f s) (a.tmps.getD s undef)
section
variable {S:Env}
theorem IG {N : Nat} {w W : World} {f : Nat → SV} {a : Act} (h : RndOk S N w f a) (hgl : mZ S (fun b => b < w.heap.size) w) (hB : Below w.heap.size w W) :
  Gam S { w0:=W,ok0:=fun b=>b<w.heap.size,rx:=none,N:=N } ⟨f,fun _=>none,0,fun _ => .any⟩ bo a W:=by
 have hok:∀ b,b<w.heap.size→bj { w0:=W,ok0:=fun b=>b<w.heap.size,rx:=none,N:=N } (fun _=>none) bo W b:=fun b hb=>⟨Nat.lt_of_lt_of_le hb hB.size,fun _=>hb,fun _ h=>absurd rfl h⟩
 have hk:dQ (fun b=>b<w.heap.size) (bj { w0:=W,ok0:=fun b=>b<w.heap.size,rx:=none,N:=N } (fun _=>none) bo W) w W:=fun b hb=>⟨hok b hb,fun _=>World.cell?_of_block (hB.block b hb)⟩
 refine ⟨h.dfr,h.sz,⟨rfl,rfl,rfl,Nat.le_refl _,fun _ _ _=>rfl,fun _ _ _ q=>(by cases q)⟩,h.lt,fun _ _ q=>(by cases q),fun _ _ q=>(by cases q),fun _ _ _ q=>(by cases q),fun _ _ _ q=>absurd rfl q,
  fun _ _ _ q=>(by cases q),fun s=>aU.mono (nx:=0) hk (fun _ _=>rfl) (h.lt s) (h.den s),fun gg n f hg => ?_,fun s=>⟨trivial,trivial⟩⟩
 obtain ⟨h1,h2⟩:=hgl gg n f hg
 refine ⟨hok gg h1,fun j hj => ?_⟩
 obtain ⟨x,hx,h3,hd⟩:=h2 j hj
 exact ⟨x,by rw [World.cell?_of_block (hB.block gg h1)];exact hx,h3,aV.mono hk hd⟩
def Jq:AExit→St→Prop
 | .normal,_=>True
 | _,_=>False
theorem uL {st:St}:Jq .normal st=True:=rfl
attribute [go_sem] uL
theorem yc {α : Type} (hm : S.P.follows .mixedOrders = true) {g : Operand} {ps : Array Tmp} {assign body : Code} {Q : Exit → Act → World → Prop} {a : Act} {w : World} {N gf NN : Nat} {lb : Array Value} {encs : α → Array Value} (hg : a.eval g = .func (.func gf) #[] lb)
  (eg:∀ args w,(callFunc gf args).run S.P w = .ok (.enter gf args) w) (hseq:SeqStopsK Fence.wide 3 S.P gf lb encs (Below w.heap.size) (fun _=>True) (fun _=>True) NN w) (hps:∀ x,(encs x).size=ps.size)
  (a1:α→Act) (f:α→Nat→SV)
  (hassign:∀ (l:Nat) (x:α) (W:World) (K:Act→World→Prop),K (a1 x) W→assign.wpIn (Fence.wide.inRound l) 2 S.P (Exit.then K (fun _ _ _=>False)) { tmps:=(ps.zip (encs x)).foldl (fun t (p,v)=>t.setIfInBounds p v) a.tmps,defers:=[] } W)
  (hr:∀ x,RndOk S N w (f x) (a1 x)) (hgl:mZ S (fun b=>b<w.heap.size) w) (hN:cf N body=true) (hnd:gS body=true)
  (hcw:∀ x,cw S body Jq ⟨f x,fun _=>none,0,fun _ => .any⟩)
  (hdone:∀ (D:Nat) (W:World),w.heap.size≤D→Below w.heap.size w W→W.heap[D]?=some (.deferred (some []))→Q .normal { a with defers := { target := .collected D,args := #[] } :: a.defers } W) :
  (Code.rangeFunc g ps assign body).wp S.P Q a w:=by
 refine (wpIn_wide (n:=4)).1 ?_
 refine wpIn_rangeFunc_ownG (F:=Fence.wide) (n:=4) (w0:=w) rfl (by omega) hg trivial eg hseq belowK_t (belowK_b (Nat.le_refl _)) (Below.refl _ _) hps
  (fun _ W=>Below w.heap.size w W) (fun _ _ _=>False) (fun s A B row hs hg hr=>hs.grown hg (by have:=hs.size;omega) (fun k e=>(hr k e).1)) (fun _ _ _ _ _ hs _ _=>hs) (Below.refl _ _) a1 hassign ?_ ?_ ?_
 ·intro l pre x W hI _
  refine wpIn_mono (eL (S:=S) hm l 2 body hN hnd (hcw x) (IG (hr x) hgl hI)) fun e a3 W3 hq => ?_
  cases e with
  | normal =>
   obtain ⟨st',ρ',g',_⟩:=hq
   have hb:∀ k,k<W.heap.size→W3.heap[k]?=W.heap[k]?:=fun k hk=>g'.frm.block k hk fun _ _ q=>by cases q
   have hB:Below w.heap.size W W3:=⟨g'.frm.os,g'.frm.tape,g'.frm.output,g'.frm.size,fun k hk=>hb k (Nat.lt_of_lt_of_le hk hI.size)⟩
   exact ⟨⟨g'.frm.size,fun k o _ hk _=>by rw [hb k (bq hk)];exact hk⟩,hB,hI.trans hB⟩
  | exit id=>obtain ⟨_,_,_,h⟩:=hq;exact h.elim
  | ret=>obtain ⟨_,_,_,h⟩:=hq;exact h.elim
  | _=>exact hq.elim
 ·intro D xs W hD _ hI hK
  exact hdone D W hD hI hK
 ·intro D c pre W _ _ h _
  exact h.elim
def Jg (s0:St):AExit→St→Prop
 | .normal,st=>Wk (fun s=>s=s0) st
 | _,_=>False
theorem vu {s0 st:St}:Jg s0 .normal st=Wk (fun s=>s=s0) st:=rfl
attribute [go_sem] vu
theorem pJ {E : Ent} {st : St} {ρ : ey} {a : Act} {w : World} {x y : Code} {Q : Exit → Act → World → Prop} (hm : S.P.follows .mixedOrders = true) (s0 : St) (hx : cw S x (Jg s0) st) (hN : cf E.N x = true) (g : Gam S E st ρ a w)
  (hy:∀ ρ' a' w',Gam S E s0 ρ' a' w'→y.wp S.P Q a' w'):(Code.seq x y).wp S.P Q a w:=by
 refine wp_seq (wp_mono (cQ hm x hN hx g) fun e a' w' hq => ?_)
 cases e with
 | normal =>
  obtain ⟨st',ρ',g',hk⟩:=hq
  obtain ⟨s1,ρ1,g1,rfl⟩:=Wk.nxt hk g'
  exact hy ρ1 a' w' g1
 | exit id=>obtain ⟨_,_,_,h⟩:=hq;exact h.elim
 | ret=>obtain ⟨_,_,_,h⟩:=hq;exact h.elim
 | _=>exact hq.elim
theorem Bp {N : Nat} {args : List BV} {ok : Nat → Prop} {w : World} {vs : Array Value} (hok : ∀ b, ok b → b < w.heap.size) (hgl : mZ S ok w) (hsz : vs.size = args.length) (hden : ∀ j, bu bo ok w (args.getD j .any) (vs.getD j undef)) (hlen : args.length ≤ N) (hl : ∀ x ∈ args, BV.lt 0 x) :
  Gam S { w0:=w,ok0:=ok,rx:=none,N:=N } (pZ args) bo { tmps:=vs ++ Array.replicate (N - vs.size) undef,defers:=[] } w:=by
 let E:Ent := { w0:=w,ok0:=ok,rx:=none,N:=N }
 have hokA:∀ b,ok b→bj E (fun _=>none) bo w b:=fun b hb=>⟨hok b hb,fun _=>hb,fun _ h=>absurd rfl h⟩
 have hk:dQ ok (bj E (fun _=>none) bo w) w w:=fun b hb=>⟨hokA b hb,fun _=>rfl⟩
 refine ⟨rfl,by simp;omega,⟨rfl,rfl,rfl,Nat.le_refl _,fun _ _ _=>rfl,fun _ _ _ h=>(by cases h)⟩,fun s => ?_,fun _ _ h=>(by cases h),fun _ _ h=>(by cases h),fun _ _ _ h=>(by cases h),fun _ _ _ h=>absurd rfl h,
  fun _ _ _ h=>(by cases h),fun s => ?_,fun gg n f hg => ?_,fun s=>⟨trivial,trivial⟩⟩
 ·simp only [pZ,bA]
  split
  ·rename_i hs
   refine hl _ ?_
   rw [List.getD_eq_getElem?_getD,List.getElem?_eq_getElem (by omega)];exact List.getElem_mem _
  ·trivial
 ·simp only [pZ,bA]
  split
  ·rename_i hs
   have e:(vs ++ Array.replicate (N - vs.size) undef).getD s undef=vs.getD s undef:=by
    have:s<vs.size:=by omega
    simp [this]
    rw [Array.getElem?_append_left this]
    simp [this]
   rw [e]
   exact bu.mono (nx:=0) hk (fun _ _=>rfl) (hl _ (by rw [List.getD_eq_getElem?_getD,List.getElem?_eq_getElem (by omega)];exact List.getElem_mem _)) (hden (s - 0))
  ·trivial
 ·obtain ⟨h1,h2⟩:=hgl gg n f hg
  refine ⟨hokA gg h1,fun j hj => ?_⟩
  obtain ⟨x,hx,h3,hd⟩:=h2 j hj
  exact ⟨x,hx,h3,aV.mono hk hd⟩
theorem DL {E:Ent} {st:St} {ρ:ey} {a:Act} {w:World} (g:Gam S E st ρ a w) {s:Nat} {x y:BV} (h:st.fr s = .b x) (hy:dg st.bx x=y) (hl:BV.lt 0 y):aU bo (fun b=>b<w.heap.size) w (.b y) (a.tmps.getD s undef):=by
 have hd:=g.slt s
 rw [h] at hd
 have:=mc g hd
 rw [hy] at this
 exact dP hl this
theorem Od {E:Ent} {st:St} {ρ:ey} {a:Act} {w:World} (g:Gam S E st ρ a w):mZ S (fun b=>b<w.heap.size) w:=fun k n f hg=>by
 obtain ⟨h1,h2⟩:=g.glb k n f hg
 refine ⟨h1.1,fun j hj => ?_⟩
 obtain ⟨x,hx,hx1,hdx⟩:=h2 j hj
 exact ⟨x,hx,hx1,aV.mono (fun b hb=>⟨hb.1,fun _=>rfl⟩) hdx⟩
end
end Go.SL
namespace Go.Proofs.YtmfblbbemekkoaaGreatDoor
open Go Go.RowKit Go.Shelf
attribute [local go_sem] Oper.semAt_some
def oJ (W:Nat):Value→Nat
 | .int _ k=>W - k.toNat
 | _=>0
theorem lE (W k:Nat):oJ W (.int .i64 k)=W - k:=by simp [oJ]
set_option maxRecDepth 100000 in
set_option maxHeartbeats 1000000 in
theorem zf (F : Fence) (n : Nat) (h6 : F.fn 184) (hro : F.round = none) (hn : 1 ≤ n) (l Bh oh Bw ow n₀ W H : Nat) (hW : W ≤ 16777216) (hH : H ≤ 16777216) (J Jx : List {p : Nat × Nat // p.1 < W ∧ p.2 < H} → World → Prop)
  (hY:∀ pre x w,J pre w→pre.length<H * W→YieldAt F (n - 1) Tryz.prog l #[.int .i64 x.1.1, .int .i64 x.1.2] w fun e w' =>
   (e = .returned (.bool true)∧J (pre ++ [x]) w'∧Below n₀ w w')∨(e = .returned (.bool false)∧Jx (pre ++ [x]) w'))
  (w:World) (hBh:Bh<n₀) (hBw:Bw<n₀) (hch:w.cell? ⟨Bh,oh,none⟩=some (.int .i64 H)) (hcw:w.cell? ⟨Bw,ow,none⟩=some (.int .i64 W)) (h0:J [] w) :
  CallsIn F n Tryz.prog 184 #[.func (.yield l) #[] #[], .pointer (some ⟨Bh,oh,none⟩), .pointer (some ⟨Bw,ow,none⟩)] w fun e w'=>(∃ v,e = .returned v)∧((∃ ys,True∧J ys w')∨(∃ pre,True∧Jx pre w')):=by
 refine callsIn_of_wp Tryz.func184 rfl h6 ?_ hro
 simp only [Tryz.ntmps184,List.size_toArray,List.length_cons,List.length_nil,Nat.reduceAdd,Nat.reduceSub,Array.replicate_succ,Array.replicate_zero,List.push_toArray,List.append_toArray,List.nil_append,List.cons_append]
 gi_wp2
 gi_loopw [7] (fun v wr=>∃ (j:Nat) (pre:List {p:Nat × Nat // p.1<W∧p.2<H}),v = .int .i64 j∧j≤H∧pre.length=j * W∧wr.cell? ⟨Bw,ow,none⟩=some (.int .i64 W)∧J pre wr)
  (fun v wr=>oJ H v)
 case atStart =>
  exact ⟨0,[],rfl,Nat.zero_le _,by simp,hcw,h0⟩
 case round =>
  obtain ⟨j,pre,rfl,hj,hp,hc,hJ⟩:=hrel
  gi_wp2
  ·rename_i hjH K hK
   rw [decide_eq_true hjH]
   gi_loopw [11] (fun v wr=>∃ (k:Nat) (pre:List {p:Nat × Nat // p.1<W∧p.2<H}),v = .int .i64 k∧k≤W∧pre.length=j * W+k∧wr.cell? ⟨Bw,ow,none⟩=some (.int .i64 W)∧J pre wr)
    (fun v wr=>oJ W v)
   case atStart =>
    exact ⟨0,pre,rfl,Nat.zero_le _,by omega,hc,hJ⟩
   case round =>
    obtain ⟨k,pre2,rfl,hk,hp2,hc2,hJ2⟩:=hrel
    by_cases hkW:k<W
    ·have hlen:pre2.length<H * W:=by
      have:(j+1) * W≤H * W:=Nat.mul_le_mul hjH (Nat.le_refl _)
      rw [Nat.succ_mul] at this
      omega
     obtain ⟨fn,tmps,assign,body,hy,hR⟩:=hY pre2 ⟨(k,j),hkW,hjH⟩ wr hJ2 hlen
     dsimp only at hy
     gi_wp2
     ·refine hR.mono ?_
      rintro e W3 (⟨rfl,hJ3,hk3⟩|⟨rfl,hJx3⟩)
      ·have hc3:W3.cell? ⟨Bw,ow,none⟩=some (.int .i64 W):=(hk3.cell (p:=⟨Bw,ow,none⟩) hBw).trans hc2
       gi_wp2
       go_roundw
       case rel=>exact ⟨k+1,pre2 ++ [⟨(k,j),hkW,hjH⟩],rfl,by omega,by rw [List.length_append,hp2];rfl,hc3,hJ3⟩
       case measure =>
        show oJ W (.int .i64 ((k+1:Nat):Int))<oJ W (.int .i64 (k:Int))
        rw [lE,lE];omega
      ·gi_wp2
       refine bodyPost_ret (results_none rfl _ _ _) rfl ?_
       exact ⟨⟨_,rfl⟩, .inr ⟨_,trivial,hJx3⟩⟩
    ·gi_wp2
     go_roundw
     case rel =>
      have:k=W:=by omega
      exact ⟨j+1,pre2,by simp,by omega,by rw [Nat.succ_mul,hp2,this],hc2,hJ2⟩
     case measure =>
      show oJ H (.int .i64 ((j+1:Nat):Int))<oJ H (.int .i64 (j:Int))
      rw [lE,lE];omega
  ·go_end0
   exact ⟨⟨_,rfl⟩, .inl ⟨pre,trivial,hJ⟩⟩
theorem vC (n : Nat) (hn : 1 ≤ n) (Bh oh Bw ow n₀ W H : Nat) (hW : W ≤ 16777216) (hH : H ≤ 16777216) (w : World) (hn₀ : n₀ ≤ w.heap.size) (hBh : Bh < n₀) (hBw : Bw < n₀) (hch : w.cell? ⟨Bh, oh, none⟩ = some (.int .i64 H)) (hcw : w.cell? ⟨Bw, ow, none⟩ = some (.int .i64 W)) :
  SeqStopsK Fence.wide n Tryz.prog 184 #[.pointer (some ⟨Bh,oh,none⟩), .pointer (some ⟨Bw,ow,none⟩)] (fun x : {p:Nat × Nat // p.1<W∧p.2<H} => #[.int .i64 x.1.1, .int .i64 x.1.2]) (Below n₀) (fun _=>True) (fun _=>True) (H * W) w:=fun l J Jx w1 hB _ _ hY h0 =>
 zf Fence.wide n trivial rfl hn l Bh oh Bw ow n₀ W H hW hH J Jx hY w1 hBh hBw ((hB.cell (p:=⟨Bh,oh,none⟩) (by show Bh<w.heap.size;omega)).trans hch) ((hB.cell (p:=⟨Bw,ow,none⟩) (by show Bw<w.heap.size;omega)).trans hcw) h0
end Go.Proofs.YtmfblbbemekkoaaGreatDoor
set_option maxHeartbeats 8000000
set_option maxRecDepth 16000
namespace Go.Proofs.YtmfblbbemekkoaaGreatDoor
open Go Go.SL
open Go.RowKit (wrap64)
theorem sJ {l jk : List Op} {x : Op} {g : Nat → Nat → PV} (hg : ∀ j, j < 12 → g 0 j = (dJ x).getD j .any) :
  ∀ i,i<l.length+1→∀ j,j<12→PV.le (ix l.length (bd dJ (l ++ jk)) g i j) (bd dJ (l ++ [x]) i j):=fun i hi j hj=>by
 have:=dC (enc:=dJ) (xs:=l) (x:=x) (s:=12) (g:=g) hg i hi j hj
 unfold ix at this ⊢
 by_cases h:i<l.length
 ·rw [if_pos h] at this ⊢
  have e:(l ++ jk).getD i default=l.getD i default:=by
   rw [List.getD_eq_getElem?_getD,List.getD_eq_getElem?_getD,List.getElem?_append_left h]
  unfold bd at this ⊢
  rw [e];exact this
 ·rw [if_neg h] at this ⊢
  exact this
def Ju (s:Script):List (Option PV):=[some (PI s.bits),some (PI s.canvas.x0),some (PI s.canvas.y0),some (PI s.canvas.x1),some (PI s.canvas.y1),some (PI s.tileW),some (PI s.tileH),some (eT s.order),some (uO s.images),none]
attribute [local go_sem] Ju
theorem wS (s:Scene) (hs:SceneOk s):rn Sg 15 [ag (eJ s)] (Ju (ax s)) 9 29 12 (ax s).ops.length (bd dJ (ax s).ops):=by
 obtain ⟨hb,⟨x1,x2⟩,⟨y1,y2⟩,⟨w1,w2⟩,⟨v1,v2⟩,⟨t1,t2⟩,⟨u1,u2⟩,ho,hp,hop,hpic,hraw⟩:=hs
 have hm:=jY s.bits
 have hsm:=cm s
 have htw:=jL (ar s) (cc s) (cd s)
 have hw0:1≤1+s.w % 5∧1+s.w % 5≤5:=by omega
 have hh0:1≤1+s.h % 4∧1+s.h % 4≤4:=by omega
 have ew:s.tileW % (1+s.w % 5)=cc s - 1:=by unfold cc;omega
 have eh:s.tileH % (1+s.h % 4)=cd s - 1:=by unfold cd;omega
 have bw:=Int.emod_nonneg s.tileW (show 1+s.w % 5≠0 by omega)
 have bw2:=Int.emod_lt_of_pos s.tileW (show 0<1+s.w % 5 by omega)
 have bh:=Int.emod_nonneg s.tileH (show 1+s.h % 4≠0 by omega)
 have bh2:=Int.emod_lt_of_pos s.tileH (show 0<1+s.h % 4 by omega)
 have hmx:aD Sg 52 [I s.bits] (fun r=>r = .b (U (ck s.bits))):=Dr _
 refine IA Tryz.func15 rfl (rs:=[.cell 2 37]) rfl rfl dZ (by decide +kernel) (Nat.le_of_ble_eq_true rfl) (bL (by simp (maxSteps:=999999)(disch:=omega) only [go_sem])) ?_
 repeat' (first|refine ak ?_|((with_reducible refine aT (id:=10) (fun K hW => ?_));(try simp (maxSteps:=999999)(disch:=omega) only [go_sem]);and_intros;all_goals first|(refine hK _ ?_;clear hK K)|try exact aa)|((first|refine ai (fun K hK => ?_)|refine ae (hmx) ?_|refine ae (cl _ _ (by omega) (by omega)) ?_|refine ae (yA ⟨_,_,_,_⟩ _ _) ?_);and_intros;all_goals first|(refine hK _ ?_;clear hK K)|try exact aa)|(apply eE;(case hf=>rfl);(case hc=>exact eC);(all_goals first|(intro hb;(try simp only [qK] at hb))|skip))|exact bO)
 refine pG ?_ ?_ (by simp (maxSteps:=999999)(disch:=omega) only [go_sem]) (ou s.order (dv (ar s) (cc s) (cd s) * dz (ar s) (cc s) (cd s)) ho htw.2)
 try simp (maxSteps:=999999)(disch:=omega) only [go_sem]
 try (refine hK _ ?_;clear hK K)
 rotate_left
 ·rw [← htw.1]
  have e1:1+s.tileW % (1+s.w % 5)=cc s:=rfl
  have e2:1+s.tileH % (1+s.h % 4)=cd s:=rfl
  simp only [e1,e2]
  rfl
 refine hW _ (aZ [(1, .b (.c (.ptr 0 0))),(2, .b (.c (.ptr 1 0))),(3, .b (U (ck s.bits))),(4, .b (.c (.ptr 2 0))),(7, .b (I (1+s.w % 5))),(8, .b (I (1+s.h % 4)))]
  [(0, .fix ((eJ s).map CV.p)),(1, .fix ((List.range 10).map fun _=>CV.p .any)),(2, .fix [.p (PI (ax s).bits), .p (PI (ar s).x0), .p (PI (ar s).y0), .p (PI (ar s).x1), .p (PI (ar s).y1), .p (PI (cc s)), .p (PI (cd s)), .p (eT (ax s).order), .p Ec, .p Ec])] 3) ?_ ?_
 ·clear hW
  refine ay [(1,some 1),(2,some 2)] ?_ ?_
  and_intros
  all_goals first|exact ao|skip
 clear hW
 refine kO ?_
 refine kg fun K hK => ?_
 simp (maxSteps:=999999)(disch:=omega) only [go_sem]
 and_intros
 all_goals first|(refine hK _ ?_;clear hK K)|exact aa|skip
 refine jZ fun KB hV => ?_
 refine aS (X:=Nat) (fun i=>aZ [(1, .b (.c (.ptr 0 0))),(2, .b (.c (.ptr 1 0))),(3, .b (U (ck s.bits))),(4, .b (.c (.ptr 2 0))),(7, .b (I (1+s.w % 5))),(8, .b (I (1+s.h % 4))),(12, .b (I i))]
  [(0, .fix ((eJ s).map CV.p)),(1, .fix ((List.range 10).map fun _=>CV.p .any)),(2, .fix [.p (PI (ax s).bits), .p (PI (ar s).x0), .p (PI (ar s).y0), .p (PI (ar s).x1), .p (PI (ar s).y1), .p (PI (cc s)), .p (PI (cd s)), .p (eT (ax s).order), .own 3 i, .p Ec]),
   (3, .arr 47 28 i (bd aY ((bp s).take i)))] 4) (fun i=>i≤s.pics.length∧i≤4) (fun i=>4 - i) 0 ?_ ?_ ?_
 ·omega
 ·refine ay [(1,some 1),(2,some 2),(3,none)] ?_ ?_
  and_intros
  all_goals first|exact ao|skip
 ·rintro i ⟨hi,hi4⟩
  have him:i<s.pics.length→PicOk (s.pics.getD i default):=hpic i
  repeat' (first|(((with_reducible refine gK (id:=14) [] (by decide +kernel) (by decide +kernel) ?_ (fun K hK => ?_));(first|(refine And.intro (fun iw hiw => ?_) ?_;(focus ((try simp (maxSteps:=999999)(disch:=omega) only [go_sem] at hiw ⊢);(repeat (refine Eq.trans (if_neg ?_) ?_;(focus omega)));exact hw iw (by omega)));(focus (first|exact Nat.zero_le _|(simp (maxSteps:=999999)(disch:=omega) only [go_sem];done)|(simp (maxSteps:=999999)(disch:=omega) only [go_sem];omega))))|exact eS));(try simp (maxSteps:=999999)(disch:=omega) only [go_sem]);and_intros;(all_goals first|(refine hK _ (by simp (maxSteps:=999999)(disch:=omega) only [go_sem]) ?_;clear hK K)|exact aa|skip))|refine ak ?_|(refine ai (fun K hK => ?_);and_intros;all_goals first|(refine hK _ ?_;clear hK K)|try exact aa)|(refine bc (fun hb => ?_) (fun hb => ?_);all_goals try exact aJ))
  ·refine vq (ze (s.pics.getD (i:Int).toNat default) (ar s) (ck s.bits) (by rw [Int.toNat_natCast];exact hpic i (by omega)) hsm (by unfold u16;omega)) (by simp (maxSteps:=999999)(disch:=omega) only [go_sem]) ?_
   try simp (maxSteps:=999999)(disch:=omega) only [go_sem]
   and_intros
   all_goals first|(refine hK _ ?_;clear hK K)|exact aa|skip
   refine hK _ trivial ?_
   clear hK
   repeat' (first|refine ak ?_|(refine ai (fun K hK => ?_);and_intros;all_goals first|(refine hK _ ?_;clear hK K)|try exact aa))
   rw [ah]
   refine au (i+1) ?_ (by omega) (by omega)
   have hl1:((bp s).take i).length=i:=by simp [bp];omega
   have he:(bp s).take (i+1)=(bp s).take i ++ [il (s.pics.getD i default) (ar s) (ck s.bits)]:=by
    have h1:i<(s.pics.take 4).length:=by rw [List.length_take];omega
    have h2:i<s.pics.length:=by omega
    simp only [bp,← List.map_take]
    rw [List.take_add_one,List.map_append,List.getElem?_eq_getElem h1,List.getD_eq_getElem?_getD,List.getElem?_eq_getElem h2,List.getElem_take]
    rfl
   refine ay [(1,some 1),(2,some 2),(3,some 5)] ?_ ?_
   and_intros
   all_goals first|exact ao|skip
   have key:=fun g hg=>dC (enc:=aY) (xs:=(bp s).take i) (x:=il (s.pics.getD i default) (ar s) (ck s.bits)) (s:=28) (g:=g) hg
   simp only [hl1,← he] at key
   refine .inr (key _ fun j hj => ?_)
   simp only [Int.toNat_natCast]
   have hivl:j=0∨j=1∨j=2∨j=3∨j=4∨j=5∨j=6∨j=7∨j=8∨j=9∨j=10∨j=11∨j=12∨j=13∨j=14∨j=15∨j=16∨j=17∨j=18∨j=19∨j=20∨j=21∨j=22∨j=23∨j=24∨j=25∨j=26∨j=27:=by omega
   rcases hivl with rfl|rfl|rfl|rfl|rfl|rfl|rfl|rfl|rfl|rfl|rfl|rfl|rfl|rfl|rfl|rfl|rfl|rfl|rfl|rfl|rfl|rfl|rfl|rfl|rfl|rfl|rfl|rfl <;> rfl
  ·have hn0:i=(bp s).length:=by simp [bp];omega
   refine hV _ (aZ [(1, .b (.c (.ptr 0 0))),(2, .b (.c (.ptr 1 0))),(3, .b (U (ck s.bits))),(4, .b (.c (.ptr 2 0))),(7, .b (I (1+s.w % 5))),(8, .b (I (1+s.h % 4)))]
    [(0, .fix ((eJ s).map CV.p)),(1, .fix ((List.range 10).map fun _=>CV.p .any)),(2, .fix [.p (PI (ax s).bits), .p (PI (ar s).x0), .p (PI (ar s).y0), .p (PI (ar s).x1), .p (PI (ar s).y1), .p (PI (cc s)), .p (PI (cd s)), .p (eT (ax s).order), .own 3 (bp s).length, .p Ec]),(3, .arr 47 28 (bp s).length (bd aY (bp s)))] 4) ?_ ?_
   ·rw [hn0,List.take_of_length_le (Nat.le_refl _)]
    refine ay [(1,some 1),(2,some 2),(3,some 3)] ?_ ?_
    and_intros
    all_goals first|exact ao|skip
   clear hV hn0 him
   refine kO ?_
   refine kg fun K hK => ?_
   simp (maxSteps:=999999)(disch:=omega) only [go_sem]
   and_intros
   all_goals first|(refine hK _ ?_;clear hK K)|exact aa|skip
   refine ER (t:=(((bp s).length:Int) == 0)) (aZ [(1, .b (.c (.ptr 0 0))),(2, .b (.c (.ptr 1 0))),(3, .b (U (ck s.bits))),(4, .b (.c (.ptr 2 0)))]
    [(0, .fix ((eJ s).map CV.p)),(1, .fix ((List.range 10).map fun _=>CV.p .any)),(2, .fix [.p (PI (ax s).bits), .p (PI (ar s).x0), .p (PI (ar s).y0), .p (PI (ar s).x1), .p (PI (ar s).y1), .p (PI (cc s)), .p (PI (cd s)), .p (eT (ax s).order), .p (uO (aQ s)), .p Ec])] 3) ?_ ?_ ?_ ?_
   ·simp (maxSteps:=999999)(disch:=omega) only [go_sem]
   ·intro hb
    have h0:(bp s).length=0:=by simpa using hb
    have hi1:aQ s=[iN (1+s.w % 5) (1+s.h % 4) ⟨ck s.bits,0,0,ck s.bits,ck s.bits⟩]:=by rw [aQ,if_pos h0]
    repeat' (first|(((with_reducible refine gK (id:=16) [] (by decide +kernel) (by decide +kernel) ?_ (fun K hK => ?_));(first|(refine And.intro (fun iw hiw => ?_) ?_;(focus ((try simp (maxSteps:=999999)(disch:=omega) only [go_sem] at hiw ⊢);(repeat (refine Eq.trans (if_neg ?_) ?_;(focus omega)));exact hw iw (by omega)));(focus (first|exact Nat.zero_le _|(simp (maxSteps:=999999)(disch:=omega) only [go_sem];done)|(simp (maxSteps:=999999)(disch:=omega) only [go_sem];omega))))|exact eS));(try simp (maxSteps:=999999)(disch:=omega) only [go_sem]);and_intros;(all_goals first|(refine hK _ (by simp (maxSteps:=999999)(disch:=omega) only [go_sem]) ?_;clear hK K)|exact aa|skip))|(refine ae (rC (1+s.w % 5) (1+s.h % 4) ⟨ck s.bits,0,0,ck s.bits,ck s.bits⟩) ?_;and_intros;all_goals first|(refine hK _ ?_;clear hK K)|try exact aa))
    refine hK _ trivial ?_
    clear hK
    rw [ah,hi1]
    refine ⟨_, ?_,rfl⟩
    refine ay [(1,some 1),(2,some 2)] ?_ ?_
    and_intros
    all_goals first|exact ao|skip
    have h00:bp s=[]:=List.eq_nil_of_length_eq_zero h0
    rw [h00]
    intro a ha j hj
    have:a=0:=by simpa using ha
    subst this
    have hivl:j=0∨j=1∨j=2∨j=3∨j=4∨j=5∨j=6∨j=7∨j=8∨j=9∨j=10∨j=11∨j=12∨j=13∨j=14∨j=15∨j=16∨j=17∨j=18∨j=19∨j=20∨j=21∨j=22∨j=23∨j=24∨j=25∨j=26∨j=27:=by omega
    rcases hivl with rfl|rfl|rfl|rfl|rfl|rfl|rfl|rfl|rfl|rfl|rfl|rfl|rfl|rfl|rfl|rfl|rfl|rfl|rfl|rfl|rfl|rfl|rfl|rfl|rfl|rfl|rfl|rfl <;> exact PV.le_refl _
   ·intro hb
    have h0:¬ (bp s).length=0:=by simpa using hb
    have hi1:aQ s=bp s:=by rw [aQ,if_neg h0]
    refine uS ?_
    rw [ah,hi1]
    refine ⟨_, ?_,rfl⟩
    refine ay [(1,some 1),(2,some 2)] ?_ ?_
    and_intros
    all_goals first|exact ao|skip
    exact fun _ _ _ _=>PV.le_refl _
   have h3m:u16 (ck s.bits):=by unfold u16;omega
   have him1:1≤(aQ s).length∧(aQ s).length≤4:=by
    unfold aQ
    split
    ·simp
    ·have:(bp s).length≤4:=by simp [bp];omega
     omega
   refine kg fun K hK => ?_
   simp (maxSteps:=999999)(disch:=omega) only [go_sem]
   and_intros
   all_goals first|(refine hK _ ?_;clear hK K)|exact aa|skip
   refine kO ?_
   refine kg fun K hK => ?_
   simp (maxSteps:=999999)(disch:=omega) only [go_sem]
   and_intros
   all_goals first|(refine hK _ ?_;clear hK K)|exact aa|skip
   refine jZ fun KB2 hV2 => ?_
   refine aS (X:=Nat × List Op × List Op × List Op) (fun x=>aZ [(1, .b (.c (.ptr 0 0))),(2, .b (.c (.ptr 1 0))),(3, .b (U (ck s.bits))),(4, .b (.c (.ptr 2 0))),(13, .b (.c (.own 4 x.2.2.1.length))),(14, .b (I x.1))]
    [(0, .fix ((eJ s).map CV.p)),(1, .fix ((List.range 10).map fun _=>CV.p .any)),(2, .fix [.p (PI (ax s).bits), .p (PI (ar s).x0), .p (PI (ar s).y0), .p (PI (ar s).x1), .p (PI (ar s).y1), .p (PI (cc s)), .p (PI (cd s)), .p (eT (ax s).order), .p (uO (aQ s)), .own 3 x.2.1.length]),
     (3, .arr 29 12 x.2.1.length (bd dJ x.2.1)),(4, .arr 29 12 (x.2.2.1.length+x.2.2.2.length) (bd dJ (x.2.2.1 ++ x.2.2.2)))] 5)
    (fun x=>x.1≤s.ops.length∧x.1≤9∧(s.ops.take x.1).foldl (lY (aQ s).length (ar s) (ck s.bits)) ([],[])=(x.2.1,x.2.2.1)∧x.2.1.length≤x.1∧x.2.2.1.length≤x.1) (fun x=>9 - x.1) (0,[],[],[]) ?_ ?_ ?_
   ·exact ⟨by omega,by omega,rfl,Nat.le_refl _,Nat.le_refl _⟩
   ·refine ay [(1,some 1),(2,some 2),(3,none),(4,none)] ?_ ?_
    and_intros
    all_goals first|exact ao|skip
   ·rintro ⟨i,ops,l,jk⟩ ⟨hi,hi9,hf,ho1,hl1⟩
    dsimp only at hi hi9 hf ho1 hl1 ⊢
    have hstep:∀ (hlt:i<s.ops.length) (q:List Op × List Op),lY (aQ s).length (ar s) (ck s.bits) (ops,l) (s.ops.getD i default)=q→(s.ops.take (i+1)).foldl (lY (aQ s).length (ar s) (ck s.bits)) ([],[])=q:=by
     rintro hlt q rfl
     rw [List.take_add_one,List.getElem?_eq_getElem hlt,List.foldl_append,hf,List.getD_eq_getElem?_getD,List.getElem?_eq_getElem hlt]
     rfl
    by_cases hc:i<s.ops.length∧i<9
    ·by_cases hk0:(s.ops.getD i default).kind % 8=0∧0<l.length
     ·have hkT:((s.ops.getD i default).kind % 8 == 0 && decide ((l.length:Int)>0))=true:=by
       simp only [Bool.and_eq_true,beq_iff_eq,decide_eq_true_eq];omega
      repeat' (first|refine aj hkT ?_|refine ak ?_|((first|refine ai (fun K hK => ?_)|refine ae (cl _ _ (by omega) (by omega)) ?_);and_intros;all_goals first|(refine hK _ ?_;clear hK K)|try exact aa)|(refine bc (fun hb => ?_) (fun hb => ?_);all_goals try exact aJ))
      rw [ah]
      have hp:=hk0.2
      have hne:l≠[]:=fun h=>by rw [h] at hp;simp at hp
      have hj:l.dropLast ++ (l.getLast hne :: jk)=l ++ jk:=by
       conv=>rhs;rw [← List.dropLast_concat_getLast hne]
       simp
      refine au (i+1,ops ++ [fO],l.dropLast,l.getLast hne :: jk) ?_ ⟨by dsimp only;omega,by dsimp only;omega,hstep hc.1 _ (by rw [lY,if_pos hk0]),by simp;omega,by rw [List.length_dropLast];dsimp only;omega⟩ (by dsimp only;omega)
      dsimp only
      rw [hj]
      refine ay [(1,some 1),(2,some 2),(3,some 6),(4,some 4)] ?_ ?_
      and_intros
      all_goals first|exact ao|skip
      ·rw [List.length_dropLast];omega
      ·simp
      ·simp
      ·refine .inr fun a ha j hj=>dC (fun j hj => ?_) a ha j hj
       have hivl:j=0∨j=1∨j=2∨j=3∨j=4∨j=5∨j=6∨j=7∨j=8∨j=9∨j=10∨j=11:=by omega
       rcases hivl with rfl|rfl|rfl|rfl|rfl|rfl|rfl|rfl|rfl|rfl|rfl|rfl <;> rfl
      ·rw [List.length_dropLast];omega
     ·have hkF:((s.ops.getD i default).kind % 8 == 0 && decide ((l.length:Int)>0))=false:=by
       rw [Bool.eq_false_iff]
       intro h
       simp only [Bool.and_eq_true,beq_iff_eq,decide_eq_true_eq] at h
       exact hk0 ⟨h.1,by omega⟩
      have hraw1:RawOk (s.ops.getD (i:Int).toNat default):=hraw i hc.1
      have hcb : -2000000000≤(ar s).x0∧(ar s).x0≤2000000000 ∧ -2000000000≤(ar s).y0∧(ar s).y0≤2000000000:=by
       unfold ar
       dsimp only
       omega
      repeat' (first|refine aj hkF ?_|refine ak ?_|((first|refine ai (fun K hK => ?_)|refine ae (cl _ _ (by omega) (by omega)) ?_);and_intros;all_goals first|(refine hK _ ?_;clear hK K)|try exact aa)|(refine bc (fun hb => ?_) (fun hb => ?_);all_goals try exact aJ))
      any_goals (focus (simp only [beq_eq_false_iff_ne,ne_eq];omega))
      any_goals (focus (rintro ⟨q1,q2⟩;refine ⟨⟨q1,q2⟩, ?_⟩;simp only [beq_eq_false_iff_ne,ne_eq] at q1;omega))
      repeat' (first|(((with_reducible refine cr (id:=27) [] (by decide +kernel) (by decide +kernel) ?_ (fun K hK => ?_));(first|(refine And.intro (fun iw hiw => ?_) ?_;(focus ((try simp (maxSteps:=999999)(disch:=omega) only [go_sem] at hiw ⊢);(repeat (refine Eq.trans (if_neg ?_) ?_;(focus omega)));exact hw iw (by omega)));(focus (first|exact Nat.zero_le _|(simp (maxSteps:=999999)(disch:=omega) only [go_sem];done)|(simp (maxSteps:=999999)(disch:=omega) only [go_sem];omega))))|exact eS));(try simp (maxSteps:=999999)(disch:=omega) only [go_sem]);and_intros;(all_goals first|(refine hK _ (by simp (maxSteps:=999999)(disch:=omega) only [go_sem]) ?_;clear hK K)|exact aa|skip))|(refine ae (GO _ _ _ (ar s) _ (ck s.bits) hraw1 (by omega) (by omega) hcb.1 hcb.2.1 hcb.2.2.1 hcb.2.2.2 h3m) ?_;and_intros;all_goals first|(refine hK _ ?_;clear hK K)|try exact aa))
      refine hK _ trivial ?_
      clear hK
      have hfr:((l.length:Int) == 0 || ((l ++ jk).getD ((l.length:Int) - 1).toNat default).isolated && !((l ++ jk).getD ((l.length:Int) - 1).toNat default).knockout)=gT l:=by
       cases hl0:l with
       | nil=>rfl
       | cons a r =>
        rw [← hl0]
        have hpos:0<l.length:=by rw [hl0];simp
        have e1:((l.length:Int) - 1).toNat=l.length - 1:=by omega
        have e2:(l ++ jk).getD (l.length - 1) default=l.getD (l.length - 1) default:=by
         rw [List.getD_eq_getElem?_getD,List.getD_eq_getElem?_getD,List.getElem?_append_left (by omega)]
        have e3:((l.length:Int) == 0)=false:=beq_eq_false_iff_ne.2 (by omega)
        have e4:l.isEmpty=false:=by rw [hl0];rfl
        rw [e1,e2,e3,gT,e4]
      generalize hO:lM (s.ops.getD i default) (decide ((s.ops.getD i default).kind % 8<3)) (aQ s).length (ar s).x0 (ar s).y0 (gT l) (ck s.bits)=O at *
      by_cases hp:(s.ops.getD i default).kind % 8<3
      ·have gk:∀ f x y,((lM (s.ops.getD i default) (decide ((s.ops.getD i default).kind % 8<3)) (aQ s).length x y f (ck s.bits)).kind == 2)=true:=fun f x y=>by rw [decide_eq_true hp];rfl
       repeat' (first|refine aj gk ?_|refine ak ?_|(refine ai (fun K hK => ?_);and_intros;all_goals first|(refine hK _ ?_;clear hK K)|try exact aa))
       rw [ah]
       simp only [hfr,Int.toNat_natCast,hO]
       refine au (i+1,ops ++ [O],l ++ [O],[]) ?_ ⟨by dsimp only;omega,by dsimp only;omega,hstep hc.1 _ (by rw [lY,if_neg hk0,if_pos hp];dsimp only;rw [hO]),by simp;omega,by simp;omega⟩ (by dsimp only;omega)
       simp only [List.append_nil,List.length_nil,Nat.add_zero]
       refine ay [(1,some 1),(2,some 2),(3,some 7),(4,some 9)] ?_ ?_
       and_intros
       all_goals first|exact ao|skip
       ·simp
       ·simp
       ·simp
       ·refine .inr fun a ha j hj=>dC (fun j hj => ?_) a ha j hj
        have hivl:j=0∨j=1∨j=2∨j=3∨j=4∨j=5∨j=6∨j=7∨j=8∨j=9∨j=10∨j=11:=by omega
        rcases hivl with rfl|rfl|rfl|rfl|rfl|rfl|rfl|rfl|rfl|rfl|rfl|rfl <;> rfl
       ·simp
       ·refine .inr fun a ha j hj=>sJ (fun j hj => ?_) a ha j hj
        have hivl:j=0∨j=1∨j=2∨j=3∨j=4∨j=5∨j=6∨j=7∨j=8∨j=9∨j=10∨j=11:=by omega
        rcases hivl with rfl|rfl|rfl|rfl|rfl|rfl|rfl|rfl|rfl|rfl|rfl|rfl <;> rfl
      ·have gk:∀ f x y,((lM (s.ops.getD i default) (decide ((s.ops.getD i default).kind % 8<3)) (aQ s).length x y f (ck s.bits)).kind == 2)=false:=fun f x y=>by rw [decide_eq_false hp];rfl
       repeat' (first|refine aj gk ?_|refine ak ?_|(refine ai (fun K hK => ?_);and_intros;all_goals first|(refine hK _ ?_;clear hK K)|try exact aa))
       rw [ah]
       simp only [hfr,Int.toNat_natCast,hO]
       refine au (i+1,ops ++ [O],l,jk) ?_ ⟨by dsimp only;omega,by dsimp only;omega,hstep hc.1 _ (by rw [lY,if_neg hk0,if_neg hp];dsimp only;rw [hO]),by simp;omega,by dsimp only;omega⟩ (by dsimp only;omega)
       dsimp only
       refine ay [(1,some 1),(2,some 2),(3,some 7),(4,some 4)] ?_ ?_
       and_intros
       all_goals first|exact ao|skip
       ·simp
       ·simp
       ·refine .inr fun a ha j hj=>dC (fun j hj => ?_) a ha j hj
        have hivl:j=0∨j=1∨j=2∨j=3∨j=4∨j=5∨j=6∨j=7∨j=8∨j=9∨j=10∨j=11:=by omega
        rcases hivl with rfl|rfl|rfl|rfl|rfl|rfl|rfl|rfl|rfl|rfl|rfl|rfl <;> rfl
    ·repeat' (first|refine ak ?_|(refine ai (fun K hK => ?_);and_intros;all_goals first|(refine hK _ ?_;clear hK K)|try exact aa)|(refine bc (fun hb => ?_) (fun hb => ?_);all_goals try exact aJ))
     have hc2:i=s.ops.length∨i=9:=by omega
     have hfin:rr s=(ops,l):=by
      rw [rr,← hf]
      rcases hc2 with h|h
      ·rw [h,List.take_of_length_le (Nat.le_refl _),List.take_of_length_le (by omega)]
      ·rw [h]
     refine hV2 _ (aZ [(1, .b (.c (.ptr 0 0))),(2, .b (.c (.ptr 1 0))),(4, .b (.c (.ptr 2 0))),(13, .b (.c (.own 4 l.length)))]
      [(0, .fix ((eJ s).map CV.p)),(1, .fix ((List.range 10).map fun _=>CV.p .any)),(2, .fix [.p (PI (ax s).bits), .p (PI (ar s).x0), .p (PI (ar s).y0), .p (PI (ar s).x1), .p (PI (ar s).y1), .p (PI (cc s)), .p (PI (cd s)), .p (eT (ax s).order), .p (uO (aQ s)), .own 3 ops.length]),
       (3, .arr 29 12 ops.length (bd dJ ops)),(4, .arr 29 12 (l.length+jk.length) (bd dJ (l ++ jk)))] 5) ?_ ?_
     ·refine ay [(1,some 1),(2,some 2),(3,some 3),(4,some 4)] ?_ ?_
      and_intros
      all_goals first|exact ao|skip
     clear hV2 hraw hstep hf
     refine kO ?_
     refine kg fun K hK => ?_
     simp (maxSteps:=999999)(disch:=omega) only [go_sem]
     and_intros
     all_goals first|(refine hK _ ?_;clear hK K)|exact aa|skip
     refine nQ fun KB3 hB3 => ?_
     refine aS (X:=Nat) (fun k=>aZ [(1, .b (.c (.ptr 0 0))),(2, .b (.c (.ptr 1 0))),(4, .b (.c (.ptr 2 0))),(13, .b (.c (.own 4 l.length))),(19, .b (I k))]
      [(0, .fix ((eJ s).map CV.p)),(1, .fix ((List.range 10).map fun _=>CV.p .any)),(2, .fix [.p (PI (ax s).bits), .p (PI (ar s).x0), .p (PI (ar s).y0), .p (PI (ar s).x1), .p (PI (ar s).y1), .p (PI (cc s)), .p (PI (cd s)), .p (eT (ax s).order), .p (uO (aQ s)), .own 3 (ops.length+k)]),
       (3, .arr 29 12 (ops.length+k) (bd dJ (ops ++ List.replicate k fO))),(4, .arr 29 12 (l.length+jk.length) (bd dJ (l ++ jk)))] 5) (fun k=>k≤l.length) (fun k=>l.length - k) 0 ?_ ?_ ?_
     ·omega
     ·refine ay [(1,some 1),(2,some 2),(3,some 3),(4,some 4)] ?_ ?_
      and_intros
      all_goals first|exact ao|skip
      exact .inl (by rw [List.replicate_zero,List.append_nil])
     ·intro k hk
      repeat' (first|refine ak ?_|(refine ai (fun K hK => ?_);and_intros;all_goals first|(refine hK _ ?_;clear hK K)|try exact aa)|(refine bc (fun hb => ?_) (fun hb => ?_);all_goals try exact aJ)|refine vl (S:=Sg) (by assumption) ?_|(refine an ?_;(try clear hB KB);(try clear hK K)))
      ·rw [ah]
       refine au (k+1) ?_ (by omega) (by omega)
       have hl1:(ops ++ List.replicate k fO).length=ops.length+k:=by simp
       have he:(ops ++ List.replicate k fO) ++ [fO]=ops ++ List.replicate (k+1) fO:=by rw [List.append_assoc,List.replicate_succ']
       refine ay [(1,some 1),(2,some 2),(3,some 6),(4,some 4)] ?_ ?_
       and_intros
       all_goals first|exact ao|skip
       have key:=fun g hg=>dC (enc:=dJ) (xs:=ops ++ List.replicate k fO) (x:=fO) (s:=12) (g:=g) hg
       simp only [hl1,he] at key
       refine .inr (key _ fun j hj => ?_)
       have hivl:j=0∨j=1∨j=2∨j=3∨j=4∨j=5∨j=6∨j=7∨j=8∨j=9∨j=10∨j=11:=by omega
       rcases hivl with rfl|rfl|rfl|rfl|rfl|rfl|rfl|rfl|rfl|rfl|rfl|rfl <;> rfl
      ·have hk2:k=l.length:=by omega
       have e2:ops ++ List.replicate k fO=(ax s).ops:=by
        rw [hk2]
        show _=(rr s).1 ++ List.replicate (rr s).2.length fO
        rw [hfin]
       have e1:ops.length+k=(ax s).ops.length:=by rw [← e2];simp
       rw [e1,e2]
       refine ⟨⟨_,rfl,rfl,fun _ _ _ _=>PV.le_refl _⟩, ?_⟩
       and_intros
       all_goals first|exact .inl rfl|trivial|skip
theorem vr (s:Scene) (hs:SceneOk s):aD Sg 15 [ag (eJ s)] (fun r=>r = .b (ag (aM (ax s)))) :=
 AK (wS s hs) rfl
end Go.Proofs.YtmfblbbemekkoaaGreatDoor
namespace Go.SL
open Go
def rG (n0:Nat) (r:List (Nat × Option Nat)) (i:Nat):Option Nat:=if i<n0 then some i else nM r i
theorem rR {n0 i:Nat} {r:List (Nat × Option Nat)} (h:i<n0):rG n0 r i=some i:=if_pos h
theorem xj {n0 i:Nat} {r:List (Nat × Option Nat)} (h:n0≤i):rG n0 r i=nM r i:=if_neg (by omega)
def ML (l:List (Nat × SV)) (B:Nat→Option Bx) (nx:Nat) (kf:Nat→SV):St:=⟨jB l,B,nx,kf⟩
section
variable {l:List (Nat × SV)} {B:Nat→Option Bx} {nx:Nat} {kf:Nat→SV}
theorem Mf {s:Nat}:(ML l B nx kf).fr s=jB l s:=rfl
theorem JG:(ML l B nx kf).bx=B:=rfl
theorem KY:(ML l B nx kf).nx=nx:=rfl
theorem JL:(ML l B nx kf).kf=kf:=rfl
end
attribute [go_sem] Mf JG KY JL rR xj
theorem Kh {r:Nat→Option Nat} {bx B:Nat→Option Bx} {n:Nat} (hr:∀ id,id<n→r id=some id):∀ {x:Bx},x.lt n→MN r bx B x x
 | .fix l,h=>za hr h
 | .arr ..,_=>⟨rfl,rfl,rfl, .inl rfl⟩
theorem Qm {st : St} {l : List (Nat × SV)} {B : Nat → Option Bx} {nx : Nat} {kf : Nat → SV} (n0 : Nat) (r : List (Nat × Option Nat)) (ns : List Nat) (hkf : st.kf = kf) (hkl : ∀ s, (kf s).lt n0) (hn0 : n0 ≤ nx) (h0 : 0 < n0)
  (hfr:sL (rG n0 r) st B nx l) (hns:∀ i,B i≠none→n0≤i→i ∈ ns) (hge:∀ i ∈ ns,∀ k,nM r i=some k→n0≤k) (hinj:vZ (nM r) ns=true)
  (hb:∀ i x,B i=some x→(i<n0∧st.bx i=some x∧x.lt n0)∨(ku (rG n0 r) st.bx B i x∧i<nx∧x.lt nx)):Le st (ML l B nx kf):=by
 have hid:∀ i,i<n0→rG n0 r i=some i:=fun i h=>rR h
 refine ⟨⟨rG n0 r,hid 0 h0,fun _=>by show 0<nx;omega,fun i j k hi hj h1 h2 => ?_,fun s => ?_,fun i x hx => ?_,fun s => ?_⟩,fun s => ?_,fun i x hx => ?_,fun s=>SV.lt_mono hn0 (hkl s)⟩
 ·rcases Nat.lt_or_ge i n0 with q1|q1 <;> rcases Nat.lt_or_ge j n0 with q2|q2
  ·rw [rR q1] at h1;rw [rR q2] at h2
   exact (Option.some.inj h1).trans (Option.some.inj h2).symm
  ·rw [rR q1] at h1;rw [xj q2] at h2
   have:=hge j (hns j hj q2) k h2
   have:=Option.some.inj h1
   omega
  ·rw [xj q1] at h1;rw [rR q2] at h2
   have:=hge i (hns i hi q1) k h1
   have:=Option.some.inj h2
   omega
  ·rw [xj q1] at h1;rw [xj q2] at h2
   exact lr hinj i j k (hns i hi q1) (hns j hj q2) h1 h2
 ·show xD _ _ _ _ (jB l s)
  rcases jz (s:=s) (l:=l) with h|h
  ·rw [h,pF];trivial
  ·exact (js hfr h).1
 ·rcases hb i x hx with ⟨h1,h2,h3⟩|h
  ·unfold ku
   rw [hid i h1]
   exact ⟨x,h2,Kh hid h3⟩
  ·exact h.1
 ·show xD _ _ _ (st.kf s) (kf s)
  rw [hkf]
  exact Du hid (hkl s)
 ·show SV.lt nx (jB l s)
  rcases jz (s:=s) (l:=l) with h|h
  ·rw [h];trivial
  ·exact (js hfr h).2
 ·rcases hb i x hx with ⟨h1,h2,h3⟩|h
  ·exact ⟨by show i<nx;omega,Bx.lt_mono hn0 h3⟩
  ·exact h.2
section
variable {S:Env}
theorem IK {f : FuncId} {fn : Func} {c : Code} {rs : List ResultVar} {args : List BV} {X : SV} {bx bx' : Nat → Option Bx} {nx nx' : Nat} (hf : S.P.funcs[f]? = some fn) (hb : fn.body = some c) (hrs : fn.results.toList = rs)
  (hname : (fn.name == "runtime.NumGoroutine") = false) (hm : S.P.follows .mixedOrders = true) (hN : cf fn.ntmps c = true) (hlen : args.length ≤ fn.ntmps) (hl : ∀ x ∈ args, BV.lt nx x)
  (h:∀ kf:Nat→SV,(∀ s,(kf s).lt nx)→(∀ i y,bx i=some y→i<nx∧y.lt nx)→cw S c (Af S rs X bx' nx' kf) (Ce args bx nx kf)):kR S bx nx f args X bx' nx':=by
 refine ⟨⟨fn,hf,hname,by rw [hb];rfl⟩,fun E st ρ a w vs hbx hnx g hsz hden => ?_⟩
 have hwf:∀ i y,bx i=some y→i<nx∧y.lt nx:=fun i y hi=>by
  subst hbx;subst hnx
  exact g.wfb i y hi
 exact (zw hf hb hrs hname hm hN hlen hl fun kf hk=>h kf hk hwf).2 E st ρ a w vs hbx hnx g hsz hden
end
end Go.SL
