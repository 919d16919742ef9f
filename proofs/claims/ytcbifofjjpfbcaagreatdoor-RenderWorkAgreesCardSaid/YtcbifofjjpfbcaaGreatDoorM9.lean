/- Part of the proof: Br, BrG, F8, F5, F14, SlZa, SlZb, SlZc, W1, FB, W3, SlRd, SlRe, Y1. -/
import Derived.ChangeArms
import Derived.DataReads
import Derived.DataOpen
import Derived.OpenShut
import Derived.Lib.LaidTab
import Derived.Carry
import Derived.ProofKit
import Derived.WideKeyArgs
import Derived.WalkKit
import GoSem.ClaimJoined
import Derived.Test.YtcbifofjjpfbcaaGreatDoorRows
import Derived.KernelRfl
import Derived.RangeFuncKeeps
import Derived.RangeFuncLeaves
import Derived.RangeFuncCalls
import Derived.LoopNIn
import Derived.OrdersIn
import Derived.TacticsIn
import Derived.RangeFuncWrites
import Derived.Shelf.Abstract
import Derived.OwnWalkIn
import Derived.TacticsInMore
import Derived.LoopIn
import Derived.Test.YtcbifofjjpfbcaaGreatDoorM6
set_option linter.unusedSimpArgs false
set_option linter.unusedVariables false
namespace Go.SL
open Go Go.ChangeShapes
structure Cells (w:World) (cs:List Value) (l:List PV):Prop where
 len:cs.length=l.length
 one:∀ j,j<cs.length→(cs.getD j undef).oneCell'=true
 den:∀ j,j<cs.length→bt (· < w.heap.size) w (l.getD j .any) (cs.getD j undef)
theorem Cells.nil {w:World}:Cells w [] []:=⟨rfl,fun j h=>absurd h (Nat.not_lt_zero j),fun j h=>absurd h (Nat.not_lt_zero j)⟩
theorem ni {α:Type} (a b:List α) (d:α) (j:Nat) (h:j<a.length):(a ++ b).getD j d=a.getD j d:=by
 rw [List.getD_eq_getElem?_getD,List.getD_eq_getElem?_getD,List.getElem?_append_left h]
theorem lH {α:Type} (a b:List α) (d:α) (j:Nat) (h:a.length≤j):(a ++ b).getD j d=b.getD (j - a.length) d:=by
 rw [List.getD_eq_getElem?_getD,List.getD_eq_getElem?_getD,List.getElem?_append_right h]
theorem Cells.append {w:World} {a b:List Value} {l r:List PV} (h:Cells w a l) (k:Cells w b r):Cells w (a ++ b) (l ++ r):=by
 refine ⟨by rw [List.length_append,List.length_append,h.len,k.len],fun j hj => ?_,fun j hj => ?_⟩
 ·rw [List.length_append] at hj
  by_cases hc:j<a.length
  ·rw [ni _ _ _ _ hc];exact h.one j hc
  ·rw [lH _ _ _ _ (by omega)];exact k.one _ (by omega)
 ·rw [List.length_append] at hj
  by_cases hc:j<a.length
  ·rw [ni _ _ _ _ hc,ni _ _ _ _ (by rw [← h.len];exact hc)];exact h.den j hc
  ·rw [lH l r _ _ (by have:=h.len;omega),lH a b _ _ (by omega),← h.len];exact k.den _ (by omega)
theorem Cells.one1 {w:World} {u:Value} {p:PV} (h1:u.oneCell'=true) (h:bt (· < w.heap.size) w p u):Cells w [u] [p]:=by
 refine ⟨rfl,fun j hj => ?_,fun j hj => ?_⟩ <;> (obtain rfl:j=0:=by simp at hj;exact hj)
 ·exact h1
 ·exact h
def qK {α:Type} (P:Program) (t:TypeId) (E:α→List PV) (Ok:α→Prop):Prop :=
 ∀ (H:Type) (enc:TypeId × Value→H) (w:World) (sp:Nat→Bool) (held:Bool) (fuel:Nat) (cs:List Value) (x:DataW H × List MemPlace),
  DataW.trod enc P w 0 sp held fuel t cs=some x→(DataW.weights P t x.1).all (· ≤ reachBytes)=true→∃ a:α,Ok a∧Cells w cs (E a)
theorem qK.to {α β:Type} {P:Program} {t:TypeId} {E:α→List PV} {Ok:α→Prop} {E':β→List PV} {Ok':β→Prop} (h:qK P t E Ok) (g:α→β) (hE:∀ a,E' (g a)=E a) (hO:∀ a,Ok a→Ok' (g a)):qK P t E' Ok':=by
 intro H enc w sp held fuel cs x hx hw
 obtain ⟨a,ho,hc⟩:=h H enc w sp held fuel cs x hx hw
 exact ⟨g a,hO a ho,by rw [hE];exact hc⟩
theorem MQ {P:Program} {t:TypeId} {k:IntKind} (ht:P.underlying t=some (.int k)):qK P t (fun n=>[PV.val (.int k n)]) (fun n=>(Lit.int k n).wf=true):=by
 intro H enc w sp held fuel cs x hx _
 obtain ⟨n,rfl,_,hw⟩:=DataW.trod_int ht hx
 exact ⟨n,hw,Cells.one1 rfl rfl⟩
def fieldsOf (P:Program) (t:TypeId):Option (List (TypeId × Nat)) :=
 match P.underlying t with
 | some (.struct fs)=>some (fs.toList.map fun f=>(f.type,f.offset))
 | some (.array m e)=>some ((List.range m).map fun i=>(e,i * P.cellsOf e))
 | _=>none
theorem me {H:Type} {P:Program} {e:TypeId}:∀ {ts:List TypeId} {l:List (DataW H)},ts.length=l.length→(∀ t ∈ ts,t=e)→DataW.weightsEach P ts l=DataW.weightsAll P e l
 | [],[],_,_=>rfl
 | t :: ts,d :: l,hl,h=>by
  simp only [DataW.weightsEach,DataW.weightsAll,h t (List.mem_cons_self ..)]
  rw [me (by simpa using hl) (fun x hx=>h x (List.mem_cons_of_mem _ hx))]
 | [],_ :: _,hl,_=>by simp at hl
 | _ :: _,[],hl,_=>by simp at hl
theorem uL {H : Type} {enc : TypeId × Value → H} {P : Program} {w : World} {sp : Nat → Bool} {held : Bool} {fuel : Nat} {cs : List Value} {x : DataW H × List MemPlace} {t : TypeId} {l : List (TypeId × Nat)} (h : fieldsOf P t = some l)
  (hx:DataW.trod enc P w 0 sp held fuel t cs=some x):∃ (xs:List (DataW H × List MemPlace)) (m:Nat),x=(.agg (xs.map (·.1)),xs.flatMap (·.2))∧cs.length=P.cellsOf t∧xs.length=l.length ∧
   (∀ (i:Nat) (f:TypeId × Nat),l[i]?=some f→DataW.trod enc P w 0 sp held m f.1 ((cs.drop f.2).take (P.cellsOf f.1))=xs[i]?) ∧
   (∀ k:List (DataW H),k.length=l.length→DataW.weights P t (.agg k)=DataW.weightsEach P (l.map (·.1)) k):=by
 unfold fieldsOf at h
 split at h
 ·rename_i fs hu
  cases h
  obtain ⟨xs,m,rfl,rfl,hlen,hxl,hf⟩:=DataW.trod_struct hu hx
  refine ⟨xs,m,rfl,hlen,by simpa using hxl,fun i f hi => ?_,fun k _ => ?_⟩
  ·rw [List.getElem?_map,Option.map_eq_some_iff] at hi
   obtain ⟨g,hg,rfl⟩:=hi
   exact hf i g (by simpa using hg)
  ·simp only [DataW.weights,hu,List.map_map]
   rfl
 ·rename_i m e hu
  cases h
  cases fuel with
  | zero=>simp [DataW.trod] at hx
  | succ fuel =>
   simp only [DataW.trod,hu] at hx
   split at hx
   ·rename_i hlen
    obtain ⟨xs,hmm,rfl⟩:=Option.map_eq_some_iff.1 hx
    refine ⟨xs,fuel,rfl,hlen,by simpa using Lib.mapM_length hmm,fun i f hi => ?_,fun k hk => ?_⟩
    ·rw [List.getElem?_map,Option.map_eq_some_iff] at hi
     obtain ⟨g,hg,rfl⟩:=hi
     obtain ⟨b,hb,hf⟩:=Lib.mapM_at hmm i g hg
     have:g=i:=by
      rw [List.getElem?_eq_some_iff] at hg
      obtain ⟨_,hg⟩:=hg
      simpa using hg.symm
     subst this
     rw [hb]
     exact hf
    ·simp only [DataW.weights,hu]
     exact (me (by simpa using hk.symm) (fun t ht=>by simp at ht;exact ht.2.symm)).symm
   ·cases hx
 ·cases h
def Ot {β:Type} (P:Program) (fs:List (TypeId × Nat)) (off n:Nat) (E:β→List PV) (Ok:β→Prop):Prop :=
 ∀ (H:Type) (enc:TypeId × Value→H) (w:World) (sp:Nat→Bool) (held:Bool) (fuel:Nat) (cs:List Value) (xs:List (DataW H × List MemPlace)),
  xs.length=fs.length→(∀ (i:Nat) (f:TypeId × Nat),fs[i]?=some f→DataW.trod enc P w 0 sp held fuel f.1 ((cs.drop f.2).take (P.cellsOf f.1))=xs[i]?) →
  (DataW.weightsEach P (fs.map (·.1)) (xs.map (·.1))).all (· ≤ reachBytes)=true→∃ b:β,Ok b∧Cells w ((cs.drop off).take n) (E b)
theorem mI {P:Program} {off:Nat}:Ot P [] off 0 (fun _:Unit=>[]) (fun _=>True):=by
 intro H enc w sp held fuel cs xs _ _ _
 exact ⟨(),trivial,by rw [List.take_zero];exact Cells.nil⟩
theorem bd {α β : Type} {P : Program} {f : TypeId} {fs : List (TypeId × Nat)} {off k n : Nat} {E : α → List PV} {Ok : α → Prop} {E' : β → List PV} {Ok' : β → Prop}
  (h:qK P f E Ok) (hk:P.cellsOf f=k) (hl:Ot P fs (off+k) n E' Ok') :
  Ot P ((f,off) :: fs) off (k+n) (fun x:α × β=>E x.1 ++ E' x.2) (fun x=>Ok x.1∧Ok' x.2):=by
 intro H enc w sp held fuel cs xs hlen hx hw
 obtain ⟨y,ys,rfl⟩:∃ y ys,xs=y :: ys:=by
  cases xs with
  | nil=>simp at hlen
  | cons y ys=>exact ⟨y,ys,rfl⟩
 have h0:=hx 0 (f,off) rfl
 simp only [hk] at h0
 simp only [List.getElem?_cons_zero] at h0
 simp only [List.map_cons,DataW.weightsEach,List.all_append,Bool.and_eq_true] at hw
 obtain ⟨a,ha,hca⟩:=h H enc w sp held fuel _ y h0 hw.1
 obtain ⟨b,hb,hcb⟩:=hl H enc w sp held fuel cs ys (by simpa using hlen) (fun i g hg=>by have:=hx (i+1) g (by simpa using hg);simpa using this) hw.2
 refine ⟨(a,b),⟨ha,hb⟩, ?_⟩
 rw [List.take_add,List.drop_drop]
 exact hca.append hcb
theorem jQ {β:Type} {P:Program} {t:TypeId} {fs:List (TypeId × Nat)} {n:Nat} {E:β→List PV} {Ok:β→Prop} (ht:fieldsOf P t=some fs) (hn:P.cellsOf t=n) (h:Ot P fs 0 n E Ok):qK P t E Ok:=by
 intro H enc w sp held fuel cs x hx hw
 obtain ⟨xs,m,rfl,hlen,hxl,hf,hwt⟩:=uL ht hx
 rw [hwt _ (by simpa using hxl)] at hw
 obtain ⟨b,hb,hc⟩:=h H enc w sp held m cs xs hxl hf hw
 refine ⟨b,hb, ?_⟩
 rw [List.drop_zero,List.take_of_length_le (by omega)] at hc
 exact hc
theorem mQ {H:Type} {P:Program} {e:TypeId}:∀ {l:List (DataW H)},(DataW.weightsAll P e l).all (· ≤ reachBytes)=true→∀ d ∈ l,(DataW.weights P e d).all (· ≤ reachBytes)=true
 | [],_,d,hd=>by cases hd
 | y :: l,h,d,hd=>by
  simp only [DataW.weightsAll,List.all_append,Bool.and_eq_true] at h
  cases hd with
  | head=>exact h.1
  | tail _ hm=>exact mQ h.2 d hm
theorem fw {H:Type} {P:Program}:∀ {ts:List TypeId} {ds:List (DataW H)},(DataW.weightsEach P ts ds).all (· ≤ reachBytes)=true→∀ (j:Nat) {t:TypeId} {d:DataW H},ts[j]?=some t→ds[j]?=some d→(DataW.weights P t d).all (· ≤ reachBytes)=true
 | [],_,_,j,t,d,h,_=>by simp at h
 | _ :: _,[],_,j,t,d,_,h=>by simp at h
 | t0 :: ts,d0 :: ds,h,0,t,d,ht,hd=>by
  simp only [DataW.weightsEach,List.all_append,Bool.and_eq_true] at h
  simp only [List.getElem?_cons_zero,Option.some.injEq] at ht hd
  subst ht;subst hd
  exact h.1
 | t0 :: ts,d0 :: ds,h,j+1,t,d,ht,hd=>by
  simp only [DataW.weightsEach,List.all_append,Bool.and_eq_true] at h
  exact fw h.2 j (by simpa using ht) (by simpa using hd)
theorem sA {α:Type} [Inhabited α] {R:Nat→α→Prop}:∀ (n:Nat),(∀ i,i<n→∃ y,R i y)→∃ l:List α,l.length=n∧∀ i,i<n→R i (l.getD i default)
 | 0,_=>⟨[],rfl,fun i h=>absurd h (Nat.not_lt_zero i)⟩
 | n+1,h=>by
  obtain ⟨l,hl,hr⟩:=sA n (fun i hi=>h i (by omega))
  obtain ⟨y,hy⟩:=h n (by omega)
  refine ⟨l ++ [y],by simp [hl],fun i hi => ?_⟩
  by_cases hc:i<n
  ·rw [ni _ _ _ _ (by omega)];exact hr i hc
  ·obtain rfl:i=n:=by omega
   rw [lH _ _ _ _ (by omega),hl,Nat.sub_self]
   exact hy
theorem nS {α : Type} [Inhabited α] {P : Program} {t e : TypeId} {sz by8 : Nat} {E : α → List PV} {Ok : α → Prop} (ht : P.underlying t = some (.slice e)) (hs : P.cellsOf e = sz) (hpos : 0 < sz) (hb : P.bytesOf e = by8) (h : qK P e E Ok) :
  qK P t (fun l:List α=>[PV.lst sz l.length (dG E l)]) (fun l=>l.length * by8≤reachBytes∧∀ x ∈ l,Ok x):=by
 intro H enc w sp held fuel cs x hx hw
 rcases DataW.trod_slice ht hx with ⟨rfl,rfl⟩|⟨a,len,cap,elems,rest,m,rfl,rfl,rfl,hbase,hle,hcap,hel,hev,_,_⟩
 ·exact ⟨[],⟨by simp,fun x hx=>by cases hx⟩,Cells.one1 rfl ⟨none,0,rfl,Nat.le_refl 0,fun h=>absurd h (Nat.lt_irrefl 0)⟩⟩
 ·simp only [DataW.weights,ht,List.all_cons,List.all_append,Bool.and_eq_true,decide_eq_true_eq,List.length_map,hb] at hw
  obtain ⟨hw1,hw2,_⟩:=hw
  have hall:=mQ hw2
  have each:∀ i,i<len→∃ y:α,Ok y∧∃ c,c.length=sz∧(∀ j,j<sz→w.cell? ((a.add (i * sz)).add j)=c[j]?)∧Cells w c (E y):=by
   intro i hi
   have:=hev i hi
   rw [hs,List.getElem?_eq_getElem (by omega),Option.bind_eq_some_iff] at this
   obtain ⟨c,hc,htr⟩:=this
   obtain ⟨_,hlen,hcell⟩:=World.cells?_some hc
   obtain ⟨y,hy,hcy⟩:=h H enc w sp held m c _ htr (hall _ (List.mem_map_of_mem (List.getElem_mem _)))
   exact ⟨y,hy,c,hlen,hcell,hcy⟩
  obtain ⟨l,hl,hR⟩:=sA len each
  refine ⟨l,⟨Nat.le_trans (by rw [hl,← hel];exact Nat.mul_le_mul_right _ (Nat.le_add_right _ _)) hw1,fun y hy => ?_⟩,Cells.one1 rfl ⟨some a,cap,by rw [hl],by rw [hl];exact hle,fun hp => ?_⟩⟩
  ·obtain ⟨i,hi,rfl⟩:=List.getElem_of_mem hy
   have:=(hR i (by omega)).1
   rwa [List.getD_eq_getElem?_getD,List.getElem?_eq_getElem hi] at this
  ·rw [hl] at hp
   obtain ⟨b,o,sp0⟩:=a
   obtain ⟨_,c,hlc,hc,hcc⟩:=hR 0 hp
   have h0:=hc 0 hpos
   rw [List.getElem?_eq_getElem (by omega)] at h0
   have hspot:sp0=none:=by simpa [Addr.add] using World.cell?_spot h0
   subst hspot
   refine ⟨b,o,rfl, ?_,fun i hi j hj => ?_⟩
   ·simp only [Nat.zero_mul,Addr.add,if_true] at h0
    unfold World.cell? at h0
    split at h0
    ·rename_i hh
     exact (Array.getElem?_eq_some_iff.1 hh).1
    ·cases h0
   ·rw [hl] at hi
    obtain ⟨_,c,hlc,hc,hcc⟩:=hR i hi
    have hj':=hc j hj
    rw [List.getElem?_eq_getElem (by omega)] at hj'
    have e1:(Addr.add (Addr.add ⟨b,o,none⟩ (i * sz)) j)=⟨b,o+(i * sz+j),none⟩:=by
     unfold Addr.add
     by_cases h1:i * sz=0 <;> by_cases h2:j=0 <;> simp [h1,h2,Nat.add_assoc]
    rw [e1] at hj'
    have o1:=hcc.one j (by omega)
    have d1:=hcc.den j (by omega)
    rw [List.getD_eq_getElem?_getD,List.getElem?_eq_getElem (by omega),Option.getD_some] at o1
    rw [List.getD_eq_getElem?_getD (l:=c),List.getElem?_eq_getElem (by omega),Option.getD_some] at d1
    exact ⟨_,hj',o1,d1⟩
theorem qK.argN {α : Type} {P : Program} {t : TypeId} {E : α → List PV} {Ok : α → Prop} (h : qK P t E Ok) {H : Type} {enc : TypeId × Value → H} {w : World} {sp : Nat → Bool} {held : Bool} {us : Array Value} {d : DataW H} {ps : List MemPlace}
  (hd:DataW.Trod enc P w 0 sp held t (.agg us) d ps) (hw:(DataW.weights P t d).all (· ≤ reachBytes)=true):∃ a,Ok a∧bR bM (· < w.heap.size) w (.agg ((E a).map CV.p)) (.agg us):=by
 obtain ⟨fuel,hf⟩:=hd
 obtain ⟨a,ha,hc⟩:=h H enc w sp held fuel _ _ hf hw
 have hlen:us.size=(E a).length:=by have:=hc.len;simpa [Value.cells] using this
 refine ⟨a,ha,us,rfl,by simpa using hlen,fun j hj => ?_,fun j => ?_⟩
 ·have:=hc.one j (by simpa [Value.cells] using hj)
  simpa [Value.cells] using this
 ·by_cases hj:j<us.size
  ·have h1:=hc.den j (by simpa [Value.cells] using hj)
   have e1:((E a).map CV.p).getD j .any=CV.p ((E a).getD j .any):=by
    rw [List.getD_eq_getElem?_getD,List.getD_eq_getElem?_getD,List.getElem?_map]
    cases (E a)[j]? <;> rfl
   rw [e1]
   simpa [Value.cells,ca] using h1
  ·have e1:((E a).map CV.p).getD j .any=CV.any:=by
    rw [List.getD_eq_getElem?_getD,List.getElem?_eq_none (by simp;omega)];rfl
   rw [e1]
   simp [ca,bt]
def Us:Lit→Value
 | .int k n => .int k n
 | .bool b => .bool b
 | .string s => .string ⟨s.toArray⟩
 | .float k b => .float k b
 | .nil => .nilIface
mutual
def la {H:Type}:DataW H→List Value
 | .lit l=>[Us l]
 | .agg parts=>jr parts
 | .nil=>[]
 | .ptr _=>[]
 | .slice _ _=>[]
 | .iface _ _=>[]
 | .map _=>[]
 | .held _=>[]
def jr {H:Type}:List (DataW H)→List Value
 | []=>[]
 | d :: r=>la d ++ jr r
end
def XP (H:Type) (P:Program) (t:TypeId) (n:Nat) (d:DataW H):Prop :=
 ∀ (enc:TypeId × Value→H) (w:World) (sp:Nat→Bool) (held:Bool) (fuel:Nat) (cs:List Value) (ps:List MemPlace),DataW.trod enc P w 0 sp held fuel t cs=some (d,ps)→cs=la d∧cs.length=n
def va (P:Program) (t:TypeId) (n:Nat):Prop:=P.cellsOf t=n∧∀ (H:Type) (d:DataW H),XP H P t n d
theorem vr {P:Program} {t:TypeId} {k:IntKind} (ht:P.underlying t=some (.int k)) (hn:P.cellsOf t=1):va P t 1:=by
 refine ⟨hn,fun H d enc w sp held fuel cs ps h => ?_⟩
 obtain ⟨n,rfl,hx,_⟩:=DataW.trod_int ht h
 cases hx
 exact ⟨rfl,rfl⟩
theorem BR {P:Program} {t:TypeId} (ht:P.underlying t=some .string) (hn:P.cellsOf t=1):va P t 1:=by
 refine ⟨hn,fun H d enc w sp held fuel cs ps h => ?_⟩
 obtain ⟨s,rfl,hx,_⟩:=DataW.trod_string ht h
 cases hx
 exact ⟨by simp [la,Us],rfl⟩
def Lg (P:Program) (fs:List (TypeId × Nat)) (off n:Nat):Prop :=
 ∀ (H:Type) (enc:TypeId × Value→H) (w:World) (sp:Nat→Bool) (held:Bool) (fuel:Nat) (cs:List Value) (xs:List (DataW H × List MemPlace)),
  xs.length=fs.length→(∀ (i:Nat) (f:TypeId × Nat),fs[i]?=some f→DataW.trod enc P w 0 sp held fuel f.1 ((cs.drop f.2).take (P.cellsOf f.1))=xs[i]?) →
  (cs.drop off).take n=jr (xs.map (·.1))
theorem Ij {P:Program} {off:Nat}:Lg P [] off 0:=by
 intro H enc w sp held fuel cs xs hl _
 obtain rfl:xs=[]:=List.length_eq_zero_iff.1 hl
 simp [jr]
theorem ng {P:Program} {f:TypeId} {fs:List (TypeId × Nat)} {off k n:Nat} (h:va P f k) (hl:Lg P fs (off+k) n):Lg P ((f,off) :: fs) off (k+n):=by
 intro H enc w sp held fuel cs xs hlen hx
 obtain ⟨y,ys,rfl⟩:∃ y ys,xs=y :: ys:=by
  cases xs with
  | nil=>simp at hlen
  | cons y ys=>exact ⟨y,ys,rfl⟩
 have h0:=hx 0 (f,off) rfl
 simp only [h.1] at h0
 simp only [List.getElem?_cons_zero] at h0
 have e0:=(h.2 H y.1 enc w sp held fuel _ y.2 h0).1
 have e1:=hl H enc w sp held fuel cs ys (by simpa using hlen) (fun i g hg=>by have:=hx (i+1) g (by simpa using hg);simpa using this)
 rw [List.take_add,List.drop_drop,e0,e1]
 rfl
theorem AM {P:Program} {t:TypeId} {fs:List (TypeId × Nat)} {n:Nat} (ht:fieldsOf P t=some fs) (hn:P.cellsOf t=n) (h:Lg P fs 0 n):va P t n:=by
 refine ⟨hn,fun H d enc w sp held fuel cs ps hx => ?_⟩
 obtain ⟨xs,m,hd,hlen,hxl,hf,_⟩:=uL ht hx
 cases hd
 have:=h H enc w sp held m cs xs hxl hf
 rw [List.drop_zero,List.take_of_length_le (by omega)] at this
 exact ⟨by rw [this];rfl,by omega⟩
theorem AP {H : Type} {P : Program} {e : TypeId} {k : Nat} (h : va P e k) {enc : TypeId × Value → H} {w : World} {sp : Nat → Bool} {held : Bool} {fuel : Nat} {cs : List Value} :
  ∀ (m off:Nat) (xs:List (DataW H × List MemPlace)),xs.length=m→(∀ i,i<m→DataW.trod enc P w 0 sp held fuel e ((cs.drop (off+i * k)).take k)=xs[i]?)→(cs.drop off).take (m * k)=jr (xs.map (·.1))
 | 0,off,xs,hl,_=>by
  obtain rfl:xs=[]:=List.length_eq_zero_iff.1 hl
  simp [jr]
 | m+1,off,[],hl,_=>by simp at hl
 | m+1,off,y :: ys,hl,hx=>by
  have h0:=hx 0 (by omega)
  simp only [Nat.zero_mul,Nat.add_zero,List.getElem?_cons_zero] at h0
  have e0:=(h.2 H y.1 enc w sp held fuel _ y.2 h0).1
  have e1:=AP h m (off+k) ys (by simpa using hl) (fun i hi=>by
   have:=hx (i+1) (by omega)
   rw [show off+(i+1) * k=off+k+i * k by rw [Nat.succ_mul];omega] at this
   simpa using this)
  rw [show (m+1) * k=k+m * k by rw [Nat.succ_mul];omega,List.take_add,List.drop_drop,e0,e1]
  rfl
theorem BL {P:Program} {t e:TypeId} {m k n:Nat} (ht:P.underlying t=some (.array m e)) (hn:P.cellsOf t=n) (hm:n=m * k) (h:va P e k):va P t n:=by
 refine ⟨hn,fun H d enc w sp held fuel cs ps hx => ?_⟩
 cases fuel with
 | zero=>simp [DataW.trod] at hx
 | succ fuel =>
  simp only [DataW.trod,ht,h.1] at hx
  split at hx
  ·rename_i hl
   obtain ⟨xs,hmm,hxx⟩:=Option.map_eq_some_iff.1 hx
   cases hxx
   have hxl:xs.length=m:=by simpa using Lib.mapM_length hmm
   have:=AP (k:=k) h (enc:=enc) (w:=w) (sp:=sp) (held:=held) (fuel:=fuel) (cs:=cs) m 0 xs hxl (fun i hi=>by
    obtain ⟨b,hb,hf⟩:=Lib.mapM_at hmm i i (by simp [hi])
    rw [Nat.zero_add,hf,hb])
   rw [List.drop_zero,List.take_of_length_le (by omega)] at this
   exact ⟨by rw [this];rfl,by omega⟩
  ·cases hx
theorem pv {P : Program} {w : World} : ∀ {l : List (String × DataW Unit)} {ps : List MemPlace}, DataW.LaidVars P w l ps → ∀ n d, (n, d) ∈ l →
  ∃ g t cs fuel p,P.globalNamed n=some g∧(P.globals[g]?).map (·.type)=some t∧w.var? P n=some cs∧DataW.trod (fun _=>()) P w 0 (fun _=>true) false fuel t cs.toList=some (d,p)
 | [],_,_,n,d,hm=>by cases hm
 | (n0,d0) :: r,ps,h,n,d,hm=>by
  obtain ⟨g,t,cs,fuel,p,q,h1,h2,h3,h4,h5,_⟩:=h
  cases hm with
  | head=>exact ⟨g,t,cs,fuel,p,h1,h2,h3,h4⟩
  | tail _ hm=>exact pv h5 n d hm
theorem tK {P : Program} {w : World} {laid : List (String × DataW Unit)} (h : laidMet P laid w) {n : String} {d : DataW Unit} (hm : (n, d) ∈ laid) {g : Nat} {t : TypeId} {k : Nat} (hg : P.globalNamed n = some g)
  (hty:(P.globals[g]?).map (·.type)=some t) (hl:va P t k):g<w.heap.size∧∀ j,j<k→w.cell? ⟨g,j,none⟩=(la d)[j]?:=by
 obtain ⟨ps,hv,_⟩:=h
 obtain ⟨g',t',cs,fuel,p,h1,h2,h3,h4⟩:=pv hv n d hm
 obtain rfl:g=g':=Option.some.inj (hg.symm.trans h1)
 obtain rfl:t=t':=Option.some.inj (hty.symm.trans h2)
 obtain ⟨e1,e2⟩:=hl.2 Unit d _ _ _ _ _ _ _ h4
 unfold World.var? at h3
 rw [hg,Option.bind_some] at h3
 split at h3
 ·rename_i c tt fr hh
  cases h3
  refine ⟨(Array.getElem?_eq_some_iff.1 hh).1,fun j hj => ?_⟩
  unfold World.cell?
  simp only [hh,Option.isSome_none]
  rw [← e1,Array.getElem?_toList]
  rfl
 ·cases h3
theorem Ek {w : World} {g k : Nat} {d : DataW Unit} {vs : List Value} (h : g < w.heap.size ∧ ∀ j, j < k → w.cell? ⟨g, j, none⟩ = (la d)[j]?) (hd : la d = vs) (hk : vs.length = k) (h1 : vs.all Value.oneCell' = true) :
  g<w.heap.size∧∀ j,j<k→∃ x,w.cell? ⟨g,j,none⟩=some x∧x.oneCell'=true∧bt (· < w.heap.size) w ((vs.map PV.val).getD j .any) x:=by
 refine ⟨h.1,fun j hj=>⟨vs[j]'(by omega), ?_, ?_, ?_⟩⟩
 ·rw [h.2 j hj,hd,List.getElem?_eq_getElem]
 ·exact List.all_eq_true.1 h1 _ (List.getElem_mem _)
 ·rw [List.getD_eq_getElem?_getD,List.getElem?_map,List.getElem?_eq_getElem (by omega)]
  rfl
section
variable {H:Type} {enc:TypeId × Value→H} {P:Program}
theorem kA (hl : laidOutB P = true) {W W' : World} (hb : RowKit.Below W.heap.size W W') {sp : Nat → Bool} : ∀ {ts : List TypeId} {vs : List Value} {ds : List (DataW H)} {ps : List MemPlace},
  (ts.all fun t=>P.readableRec t && decide (t<P.types.size))=true→DataW.TrodAll enc P W 0 (fun _=>true) true ts vs ds ps→(∀ x ∈ ps,x.block<W.heap.size)→(∀ x ∈ ps,sp x.block=true)→DataW.TrodAll enc P W' 0 sp true ts vs ds ps
 | [],[],[],ps,_,h,_,_=>h
 | t :: ts,v :: vs,d :: ds,ps,hr,h,hlt,hsp=>by
  obtain ⟨p,q,h1,h2,rfl⟩:=h
  simp only [List.all_cons,Bool.and_eq_true,decide_eq_true_eq] at hr
  exact ⟨p,q,WideElems.Trod_stays hl hr.1.1 hr.1.2 h1 (fun x hx=>hb.same (hlt x (List.mem_append_left _ hx))) (fun x hx=>hsp x (List.mem_append_left _ hx)),
   kA hl hb hr.2 h2 (fun x hx=>hlt x (List.mem_append_right _ hx)) (fun x hx=>hsp x (List.mem_append_right _ hx)),rfl⟩
 | [],_ :: _,_,_,_,h,_,_=>absurd h (by simp [DataW.TrodAll])
 | [],[],_ :: _,_,_,h,_,_=>absurd h (by simp [DataW.TrodAll])
 | _ :: _,[],_,_,_,h,_,_=>absurd h (by simp [DataW.TrodAll])
 | _ :: _,_ :: _,[],_,_,h,_,_=>absurd h (by simp [DataW.TrodAll])
theorem Gu {fn : Func} {s : ChangeSpec} {fresh handsOn again : Bool} {W W' : World} {args : Array Value} {ds gs : List (DataW H)} {before : List MemPlace} {tb : TypeId} (hl : laidOutB P = true)
  (hread:(fn.params.toList.all fun t=>P.readableRec t && decide (t<P.types.size))=true) (hrt:fn.resultTypes = #[tb]) (htb:P.underlying tb=some .bool) (hv:s.vars=[])
  (hW:DataW.Whole enc P fn.params.toList s.vars false W args.toList ds gs before) (hs:s.fn H ds = { results:=[.lit (.bool true)],args:=ds }) (hb:RowKit.Below W.heap.size W W') :
  s.post enc P fn false fresh handsOn again W args (.bool true) W':=by
 have hlt:=fun p hp=>hW.lt p hp
 have hW0:=hW
 obtain ⟨p,q,hA,hV,rfl,hz,hn⟩:=hW0
 rw [hv] at hV
 obtain ⟨rfl,rfl⟩:=trodVars_none hV
 simp only [List.append_nil] at hW hlt hz hn
 have hone:(Value.bool true).resultList fn.resultTypes.size=[.bool true]:=by rw [hrt];rfl
 refine ⟨ds,[],p,[],p,[],hW, ?_, ?_, ?_,hb.frame _,fun _=>⟨?_,[.lit (.bool true)] ++ ds,[],p,⟨p,[], ?_, ?_,(List.append_nil p).symm, ?_,fun h=>by cases h⟩,fun x hx _=>hx⟩⟩
 ·rw [List.append_nil,hs,hrt]
  exact trodAll_mk1 (RowKit.shut_bool htb _)
 ·rw [List.append_nil,hs]
  exact kA hl hb hread hA hlt (fun x hx=>by simpa using hlt x hx)
 ·rw [List.append_nil,hs,hv]
  rfl
 ·exact RowKit.ok_one hrt rfl (RowKit.okWide_bool_mk htb _)
 ·have:=trodAll_append (enc:=enc) (P:=P) (w:=W') (base:=0) (spare:=fun _=>true) (held:=true) (kA hl hb hread hA hlt (fun _ _=>rfl)) (ts:=fn.resultTypes.toList) (vs:=(Value.bool true).resultList fn.resultTypes.size) (ds:=[.lit (.bool true)]) (p:=[]) (by rw [hrt];exact trodAll_mk1 (RowKit.shut_bool htb _))
  exact this
 ·rw [hv]
  rfl
 ·intro b off hm
  have:=hz b off hm
  rw [hb.frozen (p:=⟨b,off,none⟩) (hlt _ hm)]
  exact this
theorem zl {ok:Nat→Prop} {w:World}:∀ j,bR bM ok w (([]:List BV).getD j .any) (([]:List Value).getD j undef):=fun j=>by simp [bR,ca,bt]
theorem iK {ok : Nat → Prop} {w : World} {b : BV} {v : Value} {bs : List BV} {vs : List Value} (h : bR bM ok w b v) (k : ∀ j, bR bM ok w (bs.getD j .any) (vs.getD j undef)) :
  ∀ j,bR bM ok w ((b :: bs).getD j .any) ((v :: vs).getD j undef)
 | 0=>h
 | j+1=>k j
theorem qG {S : Env} {f : FuncId} {fn : Func} {s : ChangeSpec} {bvs : List BV} {fresh handsOn again : Bool} {W : World} {args : Array Value} {ds gs : List (DataW H)} {before : List MemPlace} {tb : TypeId}
  (hp:aF S f bvs (fun r=>r = .b (.c (.p (.val (.bool true)))))) (hl:laidOutB S.P=true) (hread:(fn.params.toList.all fun t=>S.P.readableRec t && decide (t<S.P.types.size))=true)
  (hrt:fn.resultTypes = #[tb]) (htb:S.P.underlying tb=some .bool) (hv:s.vars=[]) (hW:DataW.Whole enc S.P fn.params.toList s.vars false W args.toList ds gs before)
  (hs:s.fn H ds = { results:=[.lit (.bool true)],args:=ds }) (hG:mz S (· < W.heap.size) W) (hn:args.toList.length=bvs.length) (hd:∀ j,bR bM (· < W.heap.size) W (bvs.getD j .any) (args.toList.getD j undef)) :
  Calls S.P f args W fun e W'=>∃ v,e = .returned v∧s.post enc S.P fn false fresh handsOn again W args v W':=by
 have:=hp.2 (· < W.heap.size) W args (fun _ h=>h) hG (by simpa using hn) (fun j=>by have:=hd j;rwa [show args.toList.getD j undef=args.getD j undef by simp [List.getD_eq_getElem?_getD,Array.getD_eq_getD_getElem?]] at this)
 refine this.mono fun e W' h => ?_
 obtain ⟨v,r,he,hr,_,hb,hdn⟩:=h
 subst hr
 obtain rfl:v = .bool true:=hdn
 exact ⟨_,he,Gu hl hread hrt htb hv hW hs hb⟩
theorem oQ {α : Type} {t : TypeId} {E : α → List PV} {Ok : α → Prop} (C : qK P t E Ok) (ht : (fieldsOf P t).isSome = true) {W : World} {r : Reach} {b0 : Nat} {v : Value} {d : DataW H} {ps : List MemPlace} {sp : Nat → Bool} {held : Bool}
  (hval:Value.okWide P W r b0 t v) (hd:DataW.Trod enc P W 0 sp held t v d ps) (hw:(DataW.weights P t d).all (· ≤ reachBytes)=true):∃ a,Ok a∧bR bM (· < W.heap.size) W (.agg ((E a).map CV.p)) v:=by
 unfold fieldsOf at ht
 unfold Value.okWide at hval
 split at ht
 ·rename_i fs hu
  rw [hu] at hval
  obtain ⟨cs,rfl,_⟩:=hval
  exact C.argN hd hw
 ·rename_i m e hu
  rw [hu] at hval
  obtain ⟨cs,rfl,_⟩:=hval
  exact C.argN hd hw
 ·cases ht
theorem sQ {t : TypeId} {k : IntKind} (ht : P.underlying t = some (.int k)) {W : World} {r : Reach} {b0 : Nat} {v : Value} {d : DataW H} {ps : List MemPlace} {sp : Nat → Bool} {held : Bool}
  (hval:Value.okWide P W r b0 t v) (hd:DataW.Trod enc P W 0 sp held t v d ps):∃ n,(Lit.int k n).wf=true∧bR bM (· < W.heap.size) W (.c (.p (.val (.int k n)))) v:=by
 obtain ⟨n,rfl,_,_,hw⟩:=open_int ht hval hd
 exact ⟨n,hw,rfl⟩
end
end Go.SL
set_option maxRecDepth 100000
namespace Go.Proofs.YtcbifofjjpfbcaaGreatDoor
open Go Go.SL
theorem TO:va Tryz.prog 239 13:=BL (e:=9) (m:=13) (k:=1) (by kernel_rfl) (by kernel_rfl) (by rfl) (BR (t:=9) (by kernel_rfl) (by kernel_rfl))
def XI:List Value:=[.string ⟨#[]⟩, .string ⟨#[110,111,114,109,97,108]⟩, .string ⟨#[109,117,108,116,105,112,108,121]⟩, .string ⟨#[115,99,114,101,101,110]⟩, .string ⟨#[111,118,101,114,108,97,121]⟩, .string ⟨#[100,97,114,107,101,110]⟩, .string ⟨#[108,105,103,104,116,101,110]⟩, .string ⟨#[99,111,108,111,114,45,100,111,100,103,101]⟩, .string ⟨#[99,111,108,111,114,45,98,117,114,110]⟩, .string ⟨#[104,97,114,100,45,108,105,103,104,116]⟩, .string ⟨#[115,111,102,116,45,108,105,103,104,116]⟩, .string ⟨#[100,105,102,102,101,114,101,110,99,101]⟩, .string ⟨#[101,120,99,108,117,115,105,111,110]⟩]
theorem Wp:g0=XI.map PV.val:=rfl
theorem WH {laid:List (String × DataW Unit)} {W:World} (h:laidMet Tryz.prog laid W) (hm:∃ n,(n,Rows.laid_compositor_blend_names) ∈ laid∧Tryz.prog.globalNamed n=some 0):0<W.heap.size∧∀ j,j<13→∃ x,W.cell? ⟨0,j,none⟩=some x∧x.oneCell'=true∧bt (· < W.heap.size) W (g0.getD j .any) x:=by
 rw [Wp]
 obtain ⟨n,hm,hn⟩:=hm
 exact Ek (vs:=XI) (tK h hm (g:=0) (t:=239) hn (by kernel_rfl) TO) (by kernel_rfl) rfl (by kernel_rfl)
theorem Vq:va Tryz.prog 236 4:=AM (fs:=[(9,0),(3,1),(3,2),(3,3)]) (by kernel_rfl) (by kernel_rfl) (ng (BR (t:=9) (by kernel_rfl) (by kernel_rfl)) (ng (vr (t:=3) (k := .i64) (by kernel_rfl) (by kernel_rfl)) (ng (vr (t:=3) (k := .i64) (by kernel_rfl) (by kernel_rfl)) (ng (vr (t:=3) (k := .i64) (by kernel_rfl) (by kernel_rfl)) (Ij)))))
theorem VC:va Tryz.prog 246 52:=BL (e:=236) (m:=13) (k:=4) (by kernel_rfl) (by kernel_rfl) (by rfl) (Vq)
def XH:List Value:=[.string ⟨#[]⟩, .int .i64 0, .int .i64 0, .int .i64 0, .string ⟨#[99,108,101,97,114]⟩, .int .i64 0, .int .i64 0, .int .i64 0, .string ⟨#[115,114,99]⟩, .int .i64 1, .int .i64 0, .int .i64 1, .string ⟨#[100,115,116]⟩, .int .i64 0, .int .i64 1, .int .i64 2, .string ⟨#[115,114,99,45,111,118,101,114]⟩, .int .i64 1, .int .i64 3, .int .i64 3, .string ⟨#[100,115,116,45,111,118,101,114]⟩, .int .i64 3, .int .i64 1, .int .i64 3, .string ⟨#[115,114,99,45,105,110]⟩, .int .i64 2, .int .i64 0, .int .i64 4, .string ⟨#[100,115,116,45,105,110]⟩, .int .i64 0, .int .i64 2, .int .i64 4, .string ⟨#[115,114,99,45,111,117,116]⟩, .int .i64 3, .int .i64 0, .int .i64 1, .string ⟨#[100,115,116,45,111,117,116]⟩, .int .i64 0, .int .i64 3, .int .i64 2, .string ⟨#[115,114,99,45,97,116,111,112]⟩, .int .i64 2, .int .i64 3, .int .i64 2, .string ⟨#[100,115,116,45,97,116,111,112]⟩, .int .i64 3, .int .i64 2, .int .i64 1, .string ⟨#[120,111,114]⟩, .int .i64 3, .int .i64 3, .int .i64 3]
theorem WK:g1=XH.map PV.val:=rfl
theorem Xy {laid:List (String × DataW Unit)} {W:World} (h:laidMet Tryz.prog laid W) (hm:∃ n,(n,Rows.laid_compositor_operator_rules) ∈ laid∧Tryz.prog.globalNamed n=some 1):1<W.heap.size∧∀ j,j<52→∃ x,W.cell? ⟨1,j,none⟩=some x∧x.oneCell'=true∧bt (· < W.heap.size) W (g1.getD j .any) x:=by
 rw [WK]
 obtain ⟨n,hm,hn⟩:=hm
 exact Ek (vs:=XH) (tK h hm (g:=1) (t:=246) hn (by kernel_rfl) VC) (by kernel_rfl) rfl (by kernel_rfl)
theorem glOk {laid:List (String × DataW Unit)} {W:World} (h:laidMet Tryz.prog laid W) (h0:∃ n,(n,Rows.laid_compositor_blend_names) ∈ laid∧Tryz.prog.globalNamed n=some 0:=by first|exact ⟨_, .head _,by kernel_rfl⟩|exact ⟨_, .tail _ (.head _),by kernel_rfl⟩|exact ⟨_, .tail _ (.tail _ (.head _)),by kernel_rfl⟩|exact ⟨_, .tail _ (.tail _ (.tail _ (.head _))),by kernel_rfl⟩) (h1:∃ n,(n,Rows.laid_compositor_operator_rules) ∈ laid∧Tryz.prog.globalNamed n=some 1:=by first|exact ⟨_, .head _,by kernel_rfl⟩|exact ⟨_, .tail _ (.head _),by kernel_rfl⟩|exact ⟨_, .tail _ (.tail _ (.head _)),by kernel_rfl⟩|exact ⟨_, .tail _ (.tail _ (.tail _ (.head _))),by kernel_rfl⟩):mz Sg (· < W.heap.size) W:=by
 intro g n f hg
 have hg:Sx g=some (n,f):=hg
 unfold Sx at hg
 split at hg
 ·rename_i e;subst e;cases hg;exact WH h h0
 split at hg
 ·rename_i e;subst e;cases hg;exact Xy h h1
 cases hg
noncomputable def fE (os : Os) : World := { World.holding Tryz.prog os ⟨#[], #[], []⟩ with heap := (((((World.holding Tryz.prog os ⟨#[], #[], []⟩).heap).modify 0 fun
   | .cells _ t fr => .cells #[.string ⟨#[]⟩, .string ⟨#[110,111,114,109,97,108]⟩, .string ⟨#[109,117,108,116,105,112,108,121]⟩, .string ⟨#[115,99,114,101,101,110]⟩, .string ⟨#[111,118,101,114,108,97,121]⟩, .string ⟨#[100,97,114,107,101,110]⟩, .string ⟨#[108,105,103,104,116,101,110]⟩, .string ⟨#[99,111,108,111,114,45,100,111,100,103,101]⟩, .string ⟨#[99,111,108,111,114,45,98,117,114,110]⟩, .string ⟨#[104,97,114,100,45,108,105,103,104,116]⟩, .string ⟨#[115,111,102,116,45,108,105,103,104,116]⟩, .string ⟨#[100,105,102,102,101,114,101,110,99,101]⟩, .string ⟨#[101,120,99,108,117,115,105,111,110]⟩] t fr
   | o=>o)).modify 1 fun
   | .cells _ t fr => .cells #[.string ⟨#[]⟩, .int .i64 0, .int .i64 0, .int .i64 0, .string ⟨#[99,108,101,97,114]⟩, .int .i64 0, .int .i64 0, .int .i64 0, .string ⟨#[115,114,99]⟩, .int .i64 1, .int .i64 0, .int .i64 1, .string ⟨#[100,115,116]⟩, .int .i64 0, .int .i64 1, .int .i64 2, .string ⟨#[115,114,99,45,111,118,101,114]⟩, .int .i64 1, .int .i64 3, .int .i64 3, .string ⟨#[100,115,116,45,111,118,101,114]⟩, .int .i64 3, .int .i64 1, .int .i64 3, .string ⟨#[115,114,99,45,105,110]⟩, .int .i64 2, .int .i64 0, .int .i64 4, .string ⟨#[100,115,116,45,105,110]⟩, .int .i64 0, .int .i64 2, .int .i64 4, .string ⟨#[115,114,99,45,111,117,116]⟩, .int .i64 3, .int .i64 0, .int .i64 1, .string ⟨#[100,115,116,45,111,117,116]⟩, .int .i64 0, .int .i64 3, .int .i64 2, .string ⟨#[115,114,99,45,97,116,111,112]⟩, .int .i64 2, .int .i64 3, .int .i64 2, .string ⟨#[100,115,116,45,97,116,111,112]⟩, .int .i64 3, .int .i64 2, .int .i64 1, .string ⟨#[120,111,114]⟩, .int .i64 3, .int .i64 3, .int .i64 3] t fr
   | o=>o) }
end Go.Proofs.YtcbifofjjpfbcaaGreatDoor
set_option maxHeartbeats 2000000
set_option maxRecDepth 16000
namespace Go.Proofs.YtcbifofjjpfbcaaGreatDoor
open Go Go.SL
open Go.RowKit (wrap64)
def bP (r:Rect) (w h:Int):Bool := !aU r && decide (1≤w∧1≤h∧w≤r.x1 - r.x0∧h≤r.y1 - r.y0)
def aX (r:Rect) (w h:Int):Int:=if bP r w h=true then (r.x1 - r.x0 - 1) / w+1 else 0
def bz (r:Rect) (w h:Int):Int:=if bP r w h=true then (r.y1 - r.y0 - 1) / h+1 else 0
theorem BD {W w : Int} (h1 : 1 ≤ W) (h2 : W ≤ 2147483648) (h3 : 1 ≤ w) (h4 : w ≤ W) :
  IntKind.i64.wrap (IntKind.i64.wrap ((IntKind.i64.wrap (IntKind.i64.wrap W - 1)).tdiv w)+1)=(W - 1) / w+1:=by
 have b1:0≤(W - 1) / w:=Int.ediv_nonneg (by omega) (by omega)
 have b2:(W - 1) / w≤W - 1:=Int.ediv_le_self _ (by omega)
 rw [fA (n:=W) (by omega) (by omega),fA (n:=W - 1) (by omega) (by omega),Js (by omega),fA (n:=(W - 1) / w) (by omega) (by omega),fA (by omega) (by omega)]
theorem xM {W w : Int} (h1 : 1 ≤ W) (h2 : W ≤ 2147483648) (h3 : 1 ≤ w) (h4 : w ≤ W) :
  IntKind.i64.wrap ((IntKind.i64.wrap (IntKind.i64.wrap (IntKind.i64.wrap W+w) - 1)).tdiv w)=(W - 1) / w+1:=by
 have b1:0≤(W - 1) / w:=Int.ediv_nonneg (by omega) (by omega)
 have b2:(W - 1) / w≤W - 1:=Int.ediv_le_self _ (by omega)
 have e:(W+w - 1) / w=(W - 1) / w+1:=by
  rw [show W+w - 1=(W - 1)+1 * w by omega,Int.add_mul_ediv_right _ _ (by omega)]
 rw [fA (n:=W) (by omega) (by omega),fA (n:=W+w) (by omega) (by omega),fA (n:=W+w - 1) (by omega) (by omega),Js (by omega),e,fA (by omega) (by omega)]
theorem ic (r:Rect) (w h:Int):aF Sg 19 [ag (bc r),I w,I h] (fun x=>x = .tup [I (aX r w h),I (bz r w h),B (bP r w h)]):=by
 refine aI Tryz.func19 [.tmp 6, .tmp 7, .tmp 8] ?_
 repeat' (first|refine an ?_|((first|refine aj (fun K hK => ?_)|refine ae (bo _) ?_);and_intros;all_goals first|(refine hK _ ?_;clear hK K)|try exact aa)|(refine aH (fun hb => ?_) (fun hb => ?_);all_goals try exact ax)|(refine ai ?_;(try clear hB KB);(try clear hK K)))
 ·have:bP r w h=false:=by
   cases he:aU r with
   | true=>simp [bP,he]
   | false =>
    have hb2:=fF (r:=r) (by simp [he])
    rw [he,fA (n:=r.x1 - r.x0) (by omega) (by omega),fA (n:=r.y1 - r.y0) (by omega) (by omega)] at hb
    simp only [bP,he,Bool.not_false,Bool.true_and,decide_eq_false_iff_not]
    simp only [Bool.false_eq_true,false_or] at hb
    omega
  simp only [aX,bz,this,Bool.false_eq_true,if_false]
 ·have hb2:=fF (r:=r) (by simp [hb.1.1.1.1])
  rw [fA (n:=r.x1 - r.x0) (by omega) (by omega),fA (n:=r.y1 - r.y0) (by omega) (by omega)] at hb
  have ht:bP r w h=true:=by
   simp only [bP,hb.1.1.1.1,Bool.not_false,Bool.true_and,decide_eq_true_eq]
   omega
  rw [BD (by omega) (by omega) (by omega) (by omega),BD (by omega) (by omega) (by omega) (by omega),aX,bz,if_pos ht,if_pos ht,ht]
theorem lV (r:Rect) (w h:Int):aF Sg 72 [ag (bc r),I w,I h] (fun x=>x = .tup [I (aX r w h),I (bz r w h),B (bP r w h)]):=by
 refine aI Tryz.func72 [.tmp 6, .tmp 7, .tmp 8] ?_
 repeat' (first|refine an ?_|((first|refine aj (fun K hK => ?_)|refine ae (cN _) ?_);and_intros;all_goals first|(refine hK _ ?_;clear hK K)|try exact aa)|(refine aH (fun hb => ?_) (fun hb => ?_);all_goals try exact ax)|(refine ai ?_;(try clear hB KB);(try clear hK K)))
 ·have:bP r w h=false:=by simp [bP,hb]
  simp only [aX,bz,this,Bool.false_eq_true,if_false]
 ·rename_i he
  have hb2:=fF (r:=r) (by simp [he])
  rw [fA (n:=r.x1 - r.x0) (by omega) (by omega),fA (n:=r.y1 - r.y0) (by omega) (by omega)] at hb
  have:bP r w h=false:=by
   simp only [bP,he,Bool.not_false,Bool.true_and,decide_eq_false_iff_not]
   omega
  simp only [aX,bz,this,Bool.false_eq_true,if_false]
 ·rename_i he
  have hb2:=fF (r:=r) (by simp [he])
  rw [fA (n:=r.x1 - r.x0) (by omega) (by omega),fA (n:=r.y1 - r.y0) (by omega) (by omega)] at hb
  have ht:bP r w h=true:=by
   simp only [bP,he,Bool.not_false,Bool.true_and,decide_eq_true_eq]
   omega
  rw [xM (by omega) (by omega) (by omega) (by omega),xM (by omega) (by omega) (by omega) (by omega),aX,bz,if_pos ht,if_pos ht,ht]
end Go.Proofs.YtcbifofjjpfbcaaGreatDoor
set_option maxRecDepth 16000
namespace Go.Proofs.YtcbifofjjpfbcaaGreatDoor
open Go Go.SL
open Go.RowKit (wrap64)
def ik (l:List Int):Nat→Nat→List Int→List Int
 | 0,_,_=>[]
 | k+1,i,rest=>rest.getD (An l i % rest.length).toNat 0 :: ik l k (i+1) (rest.eraseIdx (An l i % rest.length).toNat)
def kB (n:Nat):List Int:=(List.range n).map fun (i:Nat)=>(i:Int)
def kW (l:List Int) (n:Int):List Int:=if l.length=0∨n>64 then [] else ik l n.toNat 0 (kB n.toNat)
theorem gL (n:Nat):(kB n).length=n:=by simp [kB]
set_option maxHeartbeats 4000000 in
theorem ly (l : List Int) (n : Int) (hl : l.length ≤ 4611686018427387904) (hn : 0 ≤ n) :
  aF Sg 20 [.c (.p (eZ l)),I n] (fun x=>x = .b (.c (.p (eZ (kW l n))))):=by
 refine fV ?_
 refine aI Tryz.func20 [.tmp 4] ?_
 repeat' (first|refine an ?_|(refine aj (fun K hK => ?_);and_intros;all_goals first|(refine hK _ ?_;clear hK K)|try exact aa)|(refine aH (fun hb => ?_) (fun hb => ?_);all_goals try exact ax)|(refine ai ?_;(try clear hB KB);(try clear hK K)))
 ·rw [kW,if_pos (by omega)]
  exact Ey (oi fq)
 refine aM (X:=Nat) (fun i=>bg [(0, .b (.c (.p (eZ l)))),(1, .b (I n)),(5, .b (.c (.own 1 n.toNat))),(6, .b (I i))]
  [(1, .arr 3 1 n.toNat (fun a _=>PI (if a<i then a else 0)))] 2) (fun i=>(i:Int)≤n) (fun i=>n.toNat - i) 0 ?_ ?_ ?_
 ·omega
 ·refine aE [(1,some 0)] ?_ ?_
  and_intros
  all_goals first|exact aw|skip
  refine .inr fun a ha j hj => ?_
  have:j=0:=by omega
  subst this
  rw [if_neg (by omega)]
  exact PV.le_refl _
 ·intro i hi
  repeat' (first|refine an ?_|(refine aj (fun K hK => ?_);and_intros;all_goals first|(refine hK _ ?_;clear hK K)|try exact aa)|(refine aH (fun hb => ?_) (fun hb => ?_);all_goals try exact ax))
  ·rw [ah]
   refine au (i+1) ?_ (by omega) (by omega)
   refine aE [(1,some 1)] ?_ ?_
   and_intros
   all_goals first|exact aw|skip
   refine .inr fun a ha j hj => ?_
   have:j=0:=by omega
   subst this
   simp only [Int.toNat_natCast]
   by_cases h:a=i
   ·subst h
    rw [if_pos rfl,if_pos (by omega),if_pos (by omega)]
    exact PV.le_refl _
   ·rw [if_neg h]
    by_cases h2:a<i
    ·rw [if_pos h2,if_pos (by omega)];exact PV.le_refl _
    ·rw [if_neg h2,if_neg (by omega)];exact PV.le_refl _
  have hin:i=n.toNat:=by omega
  refine aM (X:=Nat × List Int × List Int) (fun x=>bg [(0, .b (.c (.p (eZ l)))),(5, .b (.c (.p (eZ x.2.1)))),(7, .b (.c (.own 1 x.2.2.length))),(8, .b (I x.1))]
   [(1, .arr 3 1 x.2.2.length (dG Ha x.2.2))] 2)
   (fun x=>x.2.2 ++ ik l x.2.1.length x.1 x.2.1=kW l n∧x.1+x.2.1.length≤64∧x.2.2.length=x.1) (fun x=>x.2.1.length) (0,kB n.toNat,[]) ?_ ?_ ?_
  ·refine ⟨?_, ?_,rfl⟩
   ·simp only [gL,List.nil_append]
    rw [kW,if_neg (by omega)]
   ·simp only [gL];omega
  ·refine aE [(1,none)] ?_ ?_
   and_intros
   all_goals first|exact aw|skip
   ·exact (gL _).symm
   ·intro a ha j hj
    have:j=0:=by omega
    subst this
    rw [if_pos (by omega),show (kB n.toNat).getD a default=a by simp [kB,ha]]
    exact PV.le_refl _
  ·rintro ⟨i2,rest,out⟩ ⟨h1,h2,h3⟩
   dsimp only at h1 h2 h3 ⊢
   have q1:0<rest.length→0≤An l i2 % rest.length∧An l i2 % rest.length<rest.length:=fun h=>⟨Int.emod_nonneg _ (by omega),Int.emod_lt_of_pos _ (by omega)⟩
   repeat' (first|refine an ?_|((first|refine aj (fun K hK => ?_)|refine ae (cL _ _ (by omega) (by omega)) ?_|refine ae (NQ _ _) ?_);and_intros;all_goals first|(refine hK _ ?_;clear hK K)|try exact aa)|(refine aH (fun hb => ?_) (fun hb => ?_);all_goals try exact ax)|(refine ai ?_;(try clear hB KB);(try clear hK K)))
   ·rw [ah]
    have hk:(An l i2 % rest.length).toNat<rest.length:=by omega
    have hk2:(An l i2 % rest.length+1).toNat=(An l i2 % rest.length).toNat+1:=by omega
    generalize hkd:(An l i2 % rest.length).toNat=k at *
    refine au (i2+1,rest.eraseIdx k,out ++ [rest.getD k 0]) ?_ ?_ ?_
    ·refine aE [(1,some 3)] ?_ ?_
     and_intros
     all_goals first|exact aw|skip
     ·rw [List.length_eraseIdx,if_pos hk];omega
     ·intro a ha j hj
      have:j=0:=by omega
      subst this
      have e:(rest.eraseIdx k).getD a default=if a<k then rest.getD a default else rest.getD (a+1) default:=by
       simp only [List.getD_eq_getElem?_getD,List.getElem?_eraseIdx]
       split <;> rfl
      rw [e,hk2]
      by_cases h:a<k
      ·simp only [gh,Nat.sub_zero,Nat.zero_add,if_pos h]
       exact PV.le_refl _
      ·simp only [gh,Nat.sub_zero,if_neg h]
       rw [show k+1+(a - k)=a+1 by omega]
       exact PV.le_refl _
     ·simp
     ·simp
     ·refine .inr (fy (enc:=Ha) fun j hj => ?_)
      have:j=0:=by omega
      subst this
      rfl
    ·obtain ⟨m,hm⟩:∃ m,rest.length=m+1:=⟨rest.length - 1,by omega⟩
     have hl2:(rest.eraseIdx k).length=m:=by rw [List.length_eraseIdx,if_pos hk];omega
     refine ⟨?_, ?_, ?_⟩
     ·rw [← h1,hm]
      dsimp only
      rw [hl2,List.append_assoc]
      simp only [ik,List.cons_append,List.nil_append,hm] at hkd ⊢
      rw [hkd]
     ·dsimp only;omega
     ·simp [h3]
    ·dsimp only
     rw [List.length_eraseIdx,if_pos hk];omega
   ·have hr0:rest=[]:=List.eq_nil_of_length_eq_zero (by omega)
    subst hr0
    have:out=kW l n:=by simpa [ik] using h1
    rw [this]
    exact Ey (oi (PV.le_refl _))
end Go.Proofs.YtcbifofjjpfbcaaGreatDoor
set_option maxHeartbeats 2000000
set_option maxRecDepth 16000
namespace Go.Proofs.YtcbifofjjpfbcaaGreatDoor
open Go Go.SL
open Go.RowKit (wrap64)
def ke (x:List Int) (n:Int) (i:Nat):Bool:=decide (0≤x.getD i 0∧x.getD i 0<n) && !(x.take i).contains (x.getD i 0)
def cZ (l:List Int) (n:Int):List Int:=if l.length=0 then kB n.toNat else l
def dt (l:List Int) (n:Int):Bool:=decide (0≤n∧n≤16777216∧(l.length=0∨l.length=n)) && (List.range n.toNat).all (ke (cZ l n) n)
def kS (l:List Int) (n:Int):List Int:=if dt l n=true then cZ l n else []
theorem wJ {n i:Nat} (h:i<n):(kB n).getD i 0=i:=by simp [kB,h]
theorem iH {l:List Int} {n:Int} (h0:0≤n) (h:l.length=0∨l.length=n):(cZ l n).length=n.toNat:=by
 unfold cZ;split
 ·exact gL _
 ·omega
theorem Ag {l:List Int} {n:Int} {i:Nat} (h0:0≤n) (hi:(i:Int)<n) (h:ke (cZ l n) n i=false):dt l n=false:=by
 rw [dt,Bool.and_eq_false_imp]
 intro _
 rw [List.all_eq_false]
 exact ⟨i,List.mem_range.2 (by omega),by simp [h]⟩
def BF (x:List Int) (i:Nat):Nat→Nat→PV:=fun a _=>PB ((x.take i).contains (a:Int))
theorem xA {x:List Int} {i:Nat} (hi:i<x.length) (h0:0≤x.getD i 0) (a j:Nat):(if a=(x.getD i 0).toNat then PB true else BF x i a j)=BF x (i+1) a j:=by
 have e:x.take (i+1)=x.take i ++ [x.getD i 0]:=by
  rw [List.take_add_one,List.getElem?_eq_getElem hi,List.getD_eq_getElem?_getD,List.getElem?_eq_getElem hi];rfl
 have h:(x.take (i+1)).contains (a:Int)=((x.take i).contains (a:Int) || decide ((a:Int)=x.getD i 0)):=by
  rw [e,Bool.eq_iff_iff]
  simp
 unfold BF
 rw [h]
 by_cases ha:a=(x.getD i 0).toNat
 ·rw [if_pos ha,decide_eq_true (by omega),Bool.or_true]
 ·rw [if_neg ha,decide_eq_false (by omega),Bool.or_false]
theorem jK (l : List Int) (n : Int) (hl : l.length ≤ 4611686018427387904) :
  aF Sg 73 [.c (.p (eZ l)),I n] (fun r=>r = .tup [.c (.p (eZ (kS l n))),B (dt l n)]):=by
 refine fV ?_
 refine aI Tryz.func73 [.tmp 4, .tmp 5] ?_
 repeat' (first|refine an ?_|(refine aj (fun K hK => ?_);and_intros;all_goals first|(refine hK _ ?_;clear hK K)|try exact aa)|(refine aH (fun hb => ?_) (fun hb => ?_);all_goals try exact ax)|(refine ai ?_;(try clear hB KB);(try clear hK K)))
 ·have:dt l n=false:=by
   rw [dt,decide_eq_false (by omega)];rfl
  rw [kS,this]
  exact fe ⟨oi fq,ej trivial,trivial⟩
 refine aM (X:=Nat) (fun i=>bg [(0, .b (.c (.p (eZ l)))),(1, .b (I n)),(6, .b (.c (.own 1 n.toNat))),(7, .b (.c (.own 2 n.toNat))),(31, .b (I n)),(32, .b (I i))]
  [(1, .arr 3 1 n.toNat (fun a _=>PI (if a<i then (cZ l n).getD a 0 else 0))),(2, .arr 4 1 n.toNat (BF (cZ l n) i))] 3) (fun i=>(i:Int)≤n∧∀ k,k<i→ke (cZ l n) n k=true) (fun i=>n.toNat - i) 0 ?_ ?_ ?_
 ·exact ⟨by omega,fun k hk=>by omega⟩
 ·refine aE [(1,some 0),(2,some 1)] ?_ ?_
  and_intros
  all_goals first|exact aw|skip
  ·rw [Int.toNat_of_nonneg (by omega)];exact .inl rfl
  ·refine .inr fun a ha j hj => ?_
   have:j=0:=by omega
   subst this
   exact PV.le_refl _
  ·refine .inr fun a ha j hj => ?_
   have:j=0:=by omega
   subst this
   exact PV.le_refl _
 ·rintro i ⟨hi,hok⟩
  have hx:i<n.toNat→(0≤n∧(l.length=0∨l.length=n))→(if 0<(l.length:Int) then l.getD (i:Int).toNat default else (i:Int))=(cZ l n).getD i 0:=fun h1 h2=>by
   rw [cZ,Int.toNat_natCast]
   by_cases h0:l.length=0
   ·rw [if_neg (by omega),if_pos h0,wJ h1]
   ·rw [if_pos (by omega),if_neg h0];rfl
  repeat' (first|refine an ?_|(refine aj (fun K hK => ?_);and_intros;all_goals first|(refine hK _ ?_;clear hK K)|try exact aa)|(apply aC;(case hf=>rfl);(case hc=>exact aS);(all_goals first|(intro hb;(try simp only [bZ] at hb))|skip))|exact ao|(refine aH (fun hb => ?_) (fun hb => ?_);all_goals try exact ax)|(refine ai ?_;(try clear hB KB);(try clear hK K)))
  ·rw [hx (by omega) (by omega)] at hb
   have:dt l n=false:=by
    refine Ag (i:=i) (by omega) (by omega) ?_
    rw [ke]
    by_cases h1:0≤(cZ l n).getD i 0∧(cZ l n).getD i 0<n
    ·rcases hb with h|h
     ·omega
     ·rw [Int.toNat_of_nonneg h1.1] at h
      rw [h];simp
    ·rw [decide_eq_false h1];rfl
   rw [kS,this]
   exact fe ⟨oi fq,ej trivial,trivial⟩
  ·rw [hx (by omega) (by omega)] at hb
   rw [ah]
   refine au (i+1) ?_ ⟨by omega,fun k hk => ?_⟩ (by omega)
   ·have hlen:=iH (l:=l) (n:=n) (by omega) (by omega)
    refine aE [(1,some 1),(2,some 2)] ?_ ?_
    and_intros
    all_goals first|exact aw|skip
    ·refine .inr fun a ha j hj => ?_
     have:j=0:=by omega
     subst this
     have e:∀ p:Prop,[Decidable p]→(if p then PI (l.getD (i:Int).toNat default) else PI (i:Int))=PI (if p then l.getD (i:Int).toNat default else (i:Int)):=fun p _=>by split <;> rfl
     by_cases h:a=i
     ·subst h
      simp only [Int.toNat_natCast,gt_iff_lt] at hx ⊢
      have e2:(if a<a+1 then (cZ l n).getD a 0 else 0)=(if 0<(l.length:Int) then l.getD a default else (a:Int)):=by rw [hx (by omega) (by omega),if_pos (by omega)]
      rw [e2]
      by_cases q:0<(l.length:Int)
      ·simp only [if_pos q];exact PV.le_refl _
      ·simp only [if_neg q];exact PV.le_refl _
     ·simp only [Int.toNat_natCast,gt_iff_lt,if_neg h]
      rw [show (if a<i+1 then (cZ l n).getD a 0 else 0)=(if a<i then (cZ l n).getD a 0 else 0) by
       by_cases h2:a<i
       ·rw [if_pos h2,if_pos (by omega)]
       ·rw [if_neg h2,if_neg (by omega)]]
      split <;> exact PV.le_refl _
    ·refine .inr fun a ha j hj => ?_
     have:j=0:=by omega
     subst this
     simp only [gt_iff_lt,hx (by omega) (by omega)]
     rw [← xA (by omega) hb.1.1]
     by_cases h:a=((cZ l n).getD i 0).toNat
     ·rw [if_pos h,if_pos h];exact PV.le_refl _
     ·rw [if_neg h,if_neg h];exact PV.le_refl _
   ·by_cases h:k=i
    ·subst h
     rw [Int.toNat_of_nonneg hb.1.1] at hb
     rw [ke,decide_eq_true hb.1,hb.2];rfl
    ·exact hok k (by omega)
  ·have e:dt l n=true:=by
    rw [dt,decide_eq_true (by omega),Bool.true_and,List.all_eq_true]
    exact fun k hk=>hok k (by have:=List.mem_range.1 hk;omega)
   have hlen:=iH (l:=l) (n:=n) (by omega) (by omega)
   rw [kS,if_pos e,e,hlen]
   refine fe ⟨oi (gj fun a ha j hj => ?_),ej trivial,trivial⟩
   have:j=0:=by omega
   subst this
   rw [if_pos (by omega)];rfl
end Go.Proofs.YtcbifofjjpfbcaaGreatDoor
namespace Go.SL
open Go
def rG (n0:Nat) (r:List (Nat × Option Nat)) (i:Nat):Option Nat:=if i<n0 then some i else vS r i
theorem gT {n0 i:Nat} {r:List (Nat × Option Nat)} (h:i<n0):rG n0 r i=some i:=if_pos h
theorem lk {n0 i:Nat} {r:List (Nat × Option Nat)} (h:n0≤i):rG n0 r i=vS r i:=if_neg (by omega)
def uV (l:List (Nat × SV)) (B:Nat→Option Bx) (nx:Nat) (kf:Nat→SV):St:=⟨kF l,B,nx,kf⟩
section
variable {l:List (Nat × SV)} {B:Nat→Option Bx} {nx:Nat} {kf:Nat→SV}
theorem Qb {s:Nat}:(uV l B nx kf).fr s=kF l s:=rfl
theorem Qw:(uV l B nx kf).bx=B:=rfl
theorem PZ:(uV l B nx kf).nx=nx:=rfl
theorem QN:(uV l B nx kf).kf=kf:=rfl
end
attribute [go_sem] Qb Qw PZ QN gT lk
theorem DC {r : Nat → Option Nat} {bx B : Nat → Option Bx} {id n sz e m : Nat} {f f' : Nat → Nat → PV} (hb : bx id = some (.arr e sz m f)) (hn : n ≤ m) (h : ∀ i, i < n → ∀ j, j < sz → PV.le (f i j) (f' i j)) (hr : ∀ id', B id' ≠ none → r id' ≠ some id) :
  zq r bx B (.own id n) (.p (.lst sz n f')):=⟨e,m,f,hb,rfl,hn,h,hr⟩
theorem Dc {r:Nat→Option Nat} {bx B:Nat→Option Bx} {n:Nat} (hr:∀ id,id<n→r id=some id):∀ {x:Bx},x.lt n→Py r bx B x x
 | .fix l,h=>yM hr h
 | .arr ..,_=>⟨rfl,rfl,rfl, .inl rfl⟩
theorem VZ {st : St} {l : List (Nat × SV)} {B : Nat → Option Bx} {nx : Nat} {kf : Nat → SV} (n0 : Nat) (r : List (Nat × Option Nat)) (ns : List Nat) (hkf : st.kf = kf) (hkl : ∀ s, (kf s).lt n0) (hn0 : n0 ≤ nx) (h0 : 0 < n0)
  (hfr:nX (rG n0 r) st B nx l) (hns:∀ i,B i≠none→n0≤i→i ∈ ns) (hge:∀ i ∈ ns,∀ k,vS r i=some k→n0≤k) (hinj:GS (vS r) ns=true)
  (hb:∀ i x,B i=some x→(i<n0∧st.bx i=some x∧x.lt n0)∨(fI (rG n0 r) st.bx B i x∧i<nx∧x.lt nx)):Le st (uV l B nx kf):=by
 have hid:∀ i,i<n0→rG n0 r i=some i:=fun i h=>gT h
 refine ⟨⟨rG n0 r,hid 0 h0,fun _=>by show 0<nx;omega,fun i j k hi hj h1 h2 => ?_,fun s => ?_,fun i x hx => ?_,fun s => ?_⟩,fun s => ?_,fun i x hx => ?_,fun s=>SV.lt_mono hn0 (hkl s)⟩
 ·rcases Nat.lt_or_ge i n0 with q1|q1 <;> rcases Nat.lt_or_ge j n0 with q2|q2
  ·rw [gT q1] at h1;rw [gT q2] at h2
   exact (Option.some.inj h1).trans (Option.some.inj h2).symm
  ·rw [gT q1] at h1;rw [lk q2] at h2
   have:=hge j (hns j hj q2) k h2
   have:=Option.some.inj h1
   omega
  ·rw [lk q1] at h1;rw [gT q2] at h2
   have:=hge i (hns i hi q1) k h1
   have:=Option.some.inj h2
   omega
  ·rw [lk q1] at h1;rw [lk q2] at h2
   exact qT hinj i j k (hns i hi q1) (hns j hj q2) h1 h2
 ·show zs _ _ _ _ (kF l s)
  rcases jE (s:=s) (l:=l) with h|h
  ·rw [h,sX];trivial
  ·exact (jC hfr h).1
 ·rcases hb i x hx with ⟨h1,h2,h3⟩|h
  ·unfold fI
   rw [hid i h1]
   exact ⟨x,h2,Dc hid h3⟩
  ·exact h.1
 ·show zs _ _ _ (st.kf s) (kf s)
  rw [hkf]
  exact Jh hid (hkl s)
 ·show SV.lt nx (kF l s)
  rcases jE (s:=s) (l:=l) with h|h
  ·rw [h];trivial
  ·exact (jC hfr h).2
 ·rcases hb i x hx with ⟨h1,h2,h3⟩|h
  ·exact ⟨by show i<nx;omega,Bx.lt_mono hn0 h3⟩
  ·exact h.2
section
variable {S:Env}
theorem tk {f : FuncId} {fn : Func} {c : Code} {rs : List ResultVar} {args : List BV} {X : SV} {bx bx' : Nat → Option Bx} {nx nx' : Nat} (hf : S.P.funcs[f]? = some fn) (hb : fn.body = some c) (hrs : fn.results.toList = rs)
  (hname : (fn.name == "runtime.NumGoroutine") = false) (hm : S.P.follows .mixedOrders = true) (hN : cO fn.ntmps c = true) (hlen : args.length ≤ fn.ntmps) (hl : ∀ x ∈ args, BV.lt nx x)
  (h:∀ kf:Nat→SV,(∀ s,(kf s).lt nx)→(∀ i y,bx i=some y→i<nx∧y.lt nx)→cw S c (DK S rs X bx' nx' kf) (Gf args bx nx kf)):nY S bx nx f args X bx' nx':=by
 refine ⟨⟨fn,hf,hname,by rw [hb];rfl⟩,fun E st ρ a w vs hbx hnx g hsz hden => ?_⟩
 have hwf:∀ i y,bx i=some y→i<nx∧y.lt nx:=fun i y hi=>by
  subst hbx;subst hnx
  exact g.wfb i y hi
 exact (LM hf hb hrs hname hm hN hlen hl fun kf hk=>h kf hk hwf).2 E st ρ a w vs hbx hnx g hsz hden
end
end Go.SL
namespace Go.SL
open Go
def Aa (n0:Nat) (base:Nat→Option Bx) (L:List (Nat × Bx)) (i:Nat):Option Bx:=if i<n0 then base i else iS L i
theorem Ra {n0 i:Nat} {base:Nat→Option Bx} {L:List (Nat × Bx)} (h:i<n0):Aa n0 base L i=base i:=if_pos h
theorem Rh {n0 k:Nat} {base:Nat→Option Bx} {L:List (Nat × Bx)}:Aa n0 base L (n0+k)=iS L (n0+k):=if_neg (by omega)
theorem Vk {n0:Nat} {base:Nat→Option Bx} {L:List (Nat × Bx)}:Aa n0 base L n0=iS L n0:=if_neg (by omega)
attribute [go_sem] Ra Rh Vk
def Tb (n0:Nat) (r:List (Nat × Option Nat)) (st:St) (base:Nat→Option Bx) (L:List (Nat × Bx)):Prop :=
 ∀ i x,i<n0→base i=some x→x.lt n0∧(st.bx i=some x∨fI (rG n0 r) st.bx (Aa n0 base L) i x)
theorem EO {st : St} {l : List (Nat × SV)} {B : Nat → Option Bx} {nx : Nat} {kf : Nat → SV} (n0 : Nat) (r : List (Nat × Option Nat)) (ns : List Nat) (hkf : st.kf = kf) (hkl : ∀ s, (kf s).lt n0) (hn0 : n0 ≤ nx) (h0 : 0 < n0)
  (hfr:nX (rG n0 r) st B nx l) (hns:∀ i,B i≠none→n0≤i→i ∈ ns) (hge:∀ i ∈ ns,∀ k,vS r i=some k→n0≤k) (hinj:∀ i j k,i ∈ ns→j ∈ ns→vS r i=some k→vS r j=some k→i=j)
  (hb:∀ i x,B i=some x→(i<n0∧st.bx i=some x∧x.lt n0)∨(fI (rG n0 r) st.bx B i x∧i<nx∧x.lt nx)):Le st (uV l B nx kf):=by
 have hid:∀ i,i<n0→rG n0 r i=some i:=fun i h=>gT h
 refine ⟨⟨rG n0 r,hid 0 h0,fun _=>by show 0<nx;omega,fun i j k hi hj h1 h2 => ?_,fun s => ?_,fun i x hx => ?_,fun s => ?_⟩,fun s => ?_,fun i x hx => ?_,fun s=>SV.lt_mono hn0 (hkl s)⟩
 ·rcases Nat.lt_or_ge i n0 with q1|q1 <;> rcases Nat.lt_or_ge j n0 with q2|q2
  ·rw [gT q1] at h1;rw [gT q2] at h2
   exact (Option.some.inj h1).trans (Option.some.inj h2).symm
  ·rw [gT q1] at h1;rw [lk q2] at h2
   have:=hge j (hns j hj q2) k h2
   have:=Option.some.inj h1
   omega
  ·rw [lk q1] at h1;rw [gT q2] at h2
   have:=hge i (hns i hi q1) k h1
   have:=Option.some.inj h2
   omega
  ·rw [lk q1] at h1;rw [lk q2] at h2
   exact hinj i j k (hns i hi q1) (hns j hj q2) h1 h2
 ·show zs _ _ _ _ (kF l s)
  rcases jE (s:=s) (l:=l) with h|h
  ·rw [h,sX];trivial
  ·exact (jC hfr h).1
 ·rcases hb i x hx with ⟨h1,h2,h3⟩|h
  ·unfold fI
   rw [hid i h1]
   exact ⟨x,h2,Dc hid h3⟩
  ·exact h.1
 ·show zs _ _ _ (st.kf s) (kf s)
  rw [hkf]
  exact Jh hid (hkl s)
 ·show SV.lt nx (kF l s)
  rcases jE (s:=s) (l:=l) with h|h
  ·rw [h];trivial
  ·exact (jC hfr h).2
 ·rcases hb i x hx with ⟨h1,h2,h3⟩|h
  ·exact ⟨by show i<nx;omega,Bx.lt_mono hn0 h3⟩
  ·exact h.2
def rD (n0:Nat) (ids:List (Nat × Nat)):List (Nat × Option Nat):=ids.map fun p=>(n0+p.1,some (n0+p.2))
theorem Ru {n0:Nat}:rD n0 []=[]:=rfl
theorem Et {n0 a b:Nat} {l:List (Nat × Nat)}:rD n0 ((a,b) :: l)=(n0+a,some (n0+b)) :: rD n0 l:=rfl
attribute [go_sem] Ru Et
theorem Bc {n0 i k:Nat}:∀ {ids:List (Nat × Nat)},i ∈ ids.map (fun p=>n0+p.1)→vS (rD n0 ids) i=some k→∃ p ∈ ids,i=n0+p.1∧k=n0+p.2
 | [],hm,h=>by cases hm
 | (a,b) :: l,hm,h=>by
  rw [Et,jO] at h
  split at h
  ·rename_i e
   cases h
   exact ⟨_,List.mem_cons_self ..,e,rfl⟩
  ·rename_i e
   rcases List.mem_cons.1 hm with q|q
   ·exact absurd q e
   ·obtain ⟨p,hp,h1,h2⟩:=Bc q h
    exact ⟨p,List.mem_cons_of_mem _ hp,h1,h2⟩
theorem vZ {st : St} {l : List (Nat × SV)} {L : List (Nat × Bx)} {base : Nat → Option Bx} {n0 nx : Nat} {kf : Nat → SV} (ids : List (Nat × Nat)) (hkf : st.kf = kf) (hkl : ∀ s, (kf s).lt n0) (hn0 : n0 ≤ nx) (h0 : 0 < n0)
  (hbase:Tb n0 (rD n0 ids) st base L) (hfr:nX (rG n0 (rD n0 ids)) st (Aa n0 base L) nx l) (hL:AB (rG n0 (rD n0 ids)) st (Aa n0 base L) nx L)
  (hcov:L.map (·.1)=ids.map (fun p=>n0+p.1):=by rfl) (hinj:(ids.all fun p=>ids.all fun q=>p.2 != q.2 || p.1 == q.1)=true:=by rfl):Le st (uV l (Aa n0 base L) nx kf):=by
 refine EO n0 (rD n0 ids) (L.map (·.1)) hkf hkl hn0 h0 hfr (fun i hi hn => ?_) (fun i hm k h => ?_) (fun i j k hm hm2 h1 h2 => ?_) (fun i x hx => ?_)
 ·unfold Aa at hi
  rw [if_neg (by omega)] at hi
  cases h:iS L i with
  | none=>exact absurd h hi
  | some x=>exact List.mem_map.2 ⟨(i,x),iy h,rfl⟩
 ·obtain ⟨p,_,_,e⟩:=Bc (hcov ▸ hm) h
  omega
 ·obtain ⟨p,hp,e1,e2⟩:=Bc (hcov ▸ hm) h1
  obtain ⟨q,hq,e3,e4⟩:=Bc (hcov ▸ hm2) h2
  have h:=List.all_eq_true.1 (List.all_eq_true.1 hinj p hp) q hq
  simp only [Bool.or_eq_true,bne_iff_ne,beq_iff_eq] at h
  rcases h with h|h
  ·exact absurd (by omega) h
  ·omega
 ·unfold Aa at hx
  split at hx
  ·rename_i hi
   obtain ⟨h1,h2⟩:=hbase i x hi hx
   rcases h2 with h2|h2
   ·exact .inl ⟨hi,h2,h1⟩
   ·exact .inr ⟨h2,by omega,Bx.lt_mono hn0 h1⟩
  ·exact .inr (pj hL (iy hx))
end Go.SL
namespace Go.SL
open Go
theorem Eb {n0 c:Nat} {ids:List (Nat × Nat)} {base:Nat→Option Bx} {L:List (Nat × Bx)} (hcov:L.map (·.1)=ids.map (fun p=>n0+p.1)) (hc:(ids.all fun p=>p.2 != c)=true):∀ id',Aa n0 base L id'≠none→rG n0 (rD n0 ids) id'≠some (n0+c):=fun id' h e=>by
 rcases Nat.lt_or_ge id' n0 with q|q
 ·rw [gT q] at e
  have:=Option.some.inj e
  omega
 ·unfold Aa at h
  rw [if_neg (by omega)] at h
  rw [lk q] at e
  cases hx:iS L id' with
  | none=>exact h hx
  | some x =>
   have hm:id' ∈ ids.map (fun p=>n0+p.1):=by rw [← hcov];exact List.mem_map.2 ⟨_,iy hx,rfl⟩
   obtain ⟨p,hp,_,e2⟩:=Bc hm e
   have:=List.all_eq_true.1 hc p hp
   simp only [bne_iff_ne] at this
   omega
theorem Up {st : St} {l : List (Nat × SV)} {B : Nat → Option Bx} {nx : Nat} {kf : Nat → SV} (hkf : st.kf = kf) (hkl : ∀ s, (kf s).lt nx) (h0 : 0 < nx) (hfr : nX (rG nx []) st B nx l)
  (hb:∀ i x,B i=some x→i<nx∧x.lt nx∧fI (rG nx []) st.bx B i x):Le st (uV l B nx kf) :=
 EO nx [] [] hkf hkl (Nat.le_refl _) h0 hfr (fun i hi hn=>by
  cases hx:B i with
  | none=>exact absurd hx hi
  | some x=>have:=(hb i x hx).1;omega) (fun i h=>by cases h) (fun i j k h=>by cases h) (fun i x hx => .inr ⟨(hb i x hx).2.2,(hb i x hx).1,(hb i x hx).2.1⟩)
theorem fY {nx i:Nat} {bx B:Nat→Option Bx} {x y:Bx} (hi:i<nx) (h:bx i=some y) (hx:Py (rG nx []) bx B y x):fI (rG nx []) bx B i x:=by
 unfold fI
 rw [gT hi]
 exact ⟨y,h,hx⟩
theorem pO {nx:Nat} {bx B:Nat→Option Bx} {x:Bx} (h:x.lt nx):Py (rG nx []) bx B x x:=Dc (fun id hid=>gT hid) h
def Jv (b k:Nat) (cs:List CV) (n T sz N:Nat) (f:Nat→Nat→PV) (base:Nat→Option Bx):Nat→Option Bx:=aN b (.fix (cs ++ [.own k n])) (aN k (.arr T sz N f) base)
section
variable {b k n T sz N:Nat} {cs:List CV} {f:Nat→Nat→PV} {base:Nat→Option Bx}
theorem PL:Jv b k cs n T sz N f base b=some (.fix (cs ++ [.own k n])):=by simp [Jv,aN]
theorem PC (h:k≠b):Jv b k cs n T sz N f base k=some (.arr T sz N f):=by simp [Jv,aN,h]
theorem KK {i:Nat} (h:i≠b) (h2:i≠k):Jv b k cs n T sz N f base i=base i:=by simp [Jv,aN,h,h2]
end
theorem Xe {st : St} {l : List (Nat × SV)} {b k n T sz N n0 nx : Nat} {cs : List CV} {f f' : Nat → Nat → PV} {base : Nat → Option Bx} {kf : Nat → SV} (hkf : st.kf = kf) (hkl : ∀ s, (kf s).lt n0) (hn0 : n0 ≤ nx) (h0 : 0 < nx) (hbn : b < nx) (hkn : k < nx) (hkb : k ≠ b)
  (hcs:∀ c ∈ cs,CV.lt 0 c) (h1:st.bx b=some (.fix (cs ++ [.own k n]))) (h2:st.bx k=some (.arr T sz N f)) (hf:f=f'∨∀ i,i<N→∀ j,j<sz→PV.le (f i j) (f' i j))
  (hoth:∀ i x,i≠b→i≠k→base i=some x→i<nx∧x.lt nx∧fI (rG nx []) st.bx (Jv b k cs n T sz N f' base) i x) (hfr:nX (rG nx []) st (Jv b k cs n T sz N f' base) nx l):Le st (uV l (Jv b k cs n T sz N f' base) nx kf):=by
 refine Up hkf (fun s=>SV.lt_mono hn0 (hkl s)) h0 hfr (fun i x hx => ?_)
 by_cases e1:i=b
 ·subst e1
  rw [PL] at hx
  cases hx
  have hl:(Bx.fix (cs ++ [.own k n])).lt nx:=fun c hc=>by
   rcases List.mem_append.1 hc with q|q
   ·exact CV.lt_mono (Nat.zero_le _) (hcs c q)
   ·rw [List.mem_singleton.1 q];exact hkn
  exact ⟨hbn,hl,fY hbn h1 (pO hl)⟩
 by_cases e2:i=k
 ·subst e2
  rw [PC hkb] at hx
  cases hx
  exact ⟨hkn,trivial,fY hkn h2 ⟨rfl,rfl,rfl,hf⟩⟩
 ·rw [KK e1 e2] at hx
  exact hoth i x e1 e2 hx
theorem Ez {r:Nat→Option Nat} {bx B:Nat→Option Bx}:∀ {l l' m m':List CV},EX r bx B l l'→EX r bx B m m'→EX r bx B (l ++ m) (l' ++ m')
 | [],[],_,_,_,h=>h
 | x :: l,y :: l',_,_,⟨h1,h2⟩,h=>⟨h1,Ez h2 h⟩
theorem Iu {st : St} {l : List (Nat × SV)} {b q n T sz N n0 : Nat} {cs : List CV} {f f' : Nat → Nat → PV} {base : Nat → Option Bx} {kf : Nat → SV} (hkf : st.kf = kf) (hkl : ∀ s, (kf s).lt n0) (hbn : b < n0) (hqn : n0 ≤ q)
  (hcs:∀ c ∈ cs,CV.lt 0 c) (h1:st.bx b=some (.fix (cs ++ [.own q n]))) (h2:st.bx q=some (.arr T sz N f)) (hf:f=f'∨∀ i,i<N→∀ j,j<sz→PV.le (f i j) (f' i j))
  (hoth:∀ i x,i≠b→base i=some x→i<n0∧x.lt n0∧st.bx i=some x) (hfr:nX (rG n0 [(n0,some q)]) st (Jv b n0 cs n T sz N f' base) (n0+1) l):Le st (uV l (Jv b n0 cs n T sz N f' base) (n0+1) kf):=by
 have hr0:rG n0 [(n0,some q)] n0=some q:=by rw [lk (Nat.le_refl _),jO,if_pos rfl]
 refine EO n0 [(n0,some q)] [n0] hkf hkl (by omega) (by omega) hfr (fun i hi hn => ?_) (fun i hi k hk => ?_) (fun i j k hi hj _ _ => ?_) (fun i x hx => ?_)
 ·by_cases e:i=n0
  ·rw [e];exact List.mem_singleton.2 rfl
  ·rw [KK (by omega) e] at hi
   cases hx:base i with
   | none=>exact absurd hx hi
   | some x=>have:=(hoth i x (by omega) hx).1;omega
 ·rw [List.mem_singleton.1 hi,jO,if_pos rfl] at hk
  cases hk;exact hqn
 ·rw [List.mem_singleton.1 hi,List.mem_singleton.1 hj]
 ·by_cases e1:i=b
  ·subst e1
   rw [PL] at hx
   cases hx
   refine .inr ⟨?_,by omega,fun c hc => ?_⟩
   ·unfold fI
    rw [gT hbn]
    refine ⟨_,h1,Ez (yM (n:=n0) (fun id hid=>gT hid) fun c hc=>CV.lt_mono (Nat.zero_le _) (hcs c hc)) ⟨⟨hr0,rfl⟩,trivial⟩⟩
   ·rcases List.mem_append.1 hc with q|q
    ·exact CV.lt_mono (Nat.zero_le _) (hcs c q)
    ·rw [List.mem_singleton.1 q];exact Nat.lt_succ_self _
  by_cases e2:i=n0
  ·subst e2
   rw [PC (by omega)] at hx
   cases hx
   refine .inr ⟨?_,by omega,trivial⟩
   unfold fI
   rw [hr0]
   exact ⟨_,h2,rfl,rfl,rfl,hf⟩
  ·rw [KK e1 e2] at hx
   obtain ⟨p1,p2,p3⟩:=hoth i x e1 hx
   exact .inl ⟨p1,p3,p2⟩
end Go.SL
namespace Go.Proofs.YtcbifofjjpfbcaaGreatDoor
theorem Eu {d q n n0:Int} (hd:0<d) (e:d * q+n=n0) (h0:0≤n) (h1:n≤d) (ho:d % 2=1):cf n0 d=if n≥(d+1) / 2 then q+1 else q:=by
 split
 ·refine rq hd ?_ ?_
  ·rw [Int.mul_add,Int.mul_one];omega
  ·rw [Int.mul_add,Int.mul_one];omega
 ·refine rq hd ?_ ?_
  ·omega
  ·omega
structure IsSqrt (s A:Int):Prop where
 s0:0≤s
 le:s * s≤A
 lt:A<(s+1) * (s+1)
theorem IsSqrt.iff {s A n:Int} (h:IsSqrt s A) (hn:0≤n):n * n≤A↔n≤s:=by
 refine ⟨fun q => ?_,fun q => ?_⟩
 ·refine Int.not_lt.1 fun c => ?_
  have:=ks (a:=s+1) (b:=n) (by have:=h.s0;omega) (by omega)
  have:=h.lt
  omega
 ·exact Int.le_trans (ks hn q) h.le
theorem By {x:Ex} {s:Int} (h:ExOk x) (hs:IsSqrt s (x.q * x.q * x.r)):dz x=(x.p+s) / x.d:=by
 obtain ⟨h1,h2,h3,h4⟩:=iJ h
 have hd:=h.d0
 have key:∀ n,0≤n→(oA x 1 n=true↔n * x.d≤x.p+s):=fun n hn=>by
  simp only [oA,decide_eq_true_eq,Int.one_mul]
  have hs0:=hs.s0
  rcases Int.le_total (n * x.d) x.p with q|q
  ·exact ⟨fun _=>by omega,fun _ => .inl q⟩
  ·rw [hs.iff (show 0≤n * x.d - x.p by omega)]
   omega
 have e1:=(key _ h3).1 h1
 have e2:¬ (dz x+1) * x.d≤x.p+s:=fun q=>by
  have:=(key _ (show 0≤dz x+1 by omega)).2 q
  rw [h2] at this;cases this
 generalize dz x=f at *
 have a1:f≤(x.p+s) / x.d:=(Int.le_ediv_iff_mul_le (by omega)).2 e1
 have a2:(x.p+s) / x.d<f+1:=(Int.ediv_lt_iff_lt_mul (by omega)).2 (by omega)
 omega
theorem RE {x : Ex} {f k : Int} (hk : (2 * f + 1) * x.d - 2 * x.p = k) :
  (oA x 2 (2 * f+1)=true↔k≤0∨0<k∧(if k % 2=0 then k / 2 * (k / 2)≤x.q * x.q * x.r else k / 2 * (k / 2)+k / 2<x.q * x.q * x.r)):=by
 have e4:2 * x.q * (2 * x.q) * x.r=4 * (x.q * x.q * x.r):=by grind
 simp only [oA,decide_eq_true_eq]
 rw [e4,hk]
 generalize x.q * x.q * x.r=A
 rcases Decidable.em (0<k) with c|c
 ·have hm:=Int.mul_ediv_add_emod k 2
  generalize k / 2=m at *
  have hkk:k * k=4 * (m * m)+4 * (m * (k % 2))+k % 2 * (k % 2):=by
   have:k=2 * m+k % 2:=by omega
   generalize k % 2=o at *
   rw [this];grind
  have ho:k % 2=0∨k % 2=1:=by omega
  rcases ho with o|o
  ·rw [if_pos o]
   rw [o] at hkk
   constructor
   ·rintro (q|q)
    ·omega
    ·exact .inr ⟨c,by omega⟩
   ·rintro (q|q)
    ·omega
    ·exact .inr (by have:=q.2;omega)
  ·rw [if_neg (by omega)]
   rw [o] at hkk
   constructor
   ·rintro (q|q)
    ·omega
    ·exact .inr ⟨c,by omega⟩
   ·rintro (q|q)
    ·omega
    ·exact .inr (by have:=q.2;omega)
 ·exact ⟨fun _ => .inl (by omega),fun _ => .inl (by omega)⟩
theorem IP {A:Int} (h0:0≤A) (h1:A<2 ^ 64 * 2 ^ 64):IsSqrt (wA (fun n=>decide (n * n≤A)) 64 0) A:=by
 have hm:∀ a b:Int,0≤a→a≤b→b * b≤A→a * a≤A:=fun a b ha hab h=>Int.le_trans (ks ha hab) h
 have key:∀ (i:Nat) (n:Int),0≤n→n * n≤A→A<(n+2 ^ i) * (n+2 ^ i)→IsSqrt (wA (fun n=>decide (n * n≤A)) i n) A:=by
  intro i
  induction i with
  | zero=>exact fun n hn a b=>⟨hn,a,by simpa [wA] using b⟩
  | succ i ih =>
   intro n hn a b
   have e:(2:Int) ^ (i+1)=2 ^ i+2 ^ i:=by rw [Int.pow_succ];omega
   have hp:(0:Int)<2 ^ i:=Int.pow_pos (by decide)
   rw [e] at b
   rw [show wA (fun n=>decide (n * n≤A)) (i+1) n=wA (fun n=>decide (n * n≤A)) i (if decide ((n+2 ^ i) * (n+2 ^ i)≤A)=true then n+2 ^ i else n) from rfl]
   split
   ·rename_i h
    rw [decide_eq_true_eq] at h
    exact ih _ (by omega) h (by rw [show n+2 ^ i+2 ^ i=n+(2 ^ i+2 ^ i) by omega];exact b)
   ·rename_i h
    rw [decide_eq_true_eq] at h
    exact ih _ hn a (by omega)
 exact key 64 0 (by omega) (by omega) (by simpa using h1)
end Go.Proofs.YtcbifofjjpfbcaaGreatDoor
set_option maxHeartbeats 4000000
set_option maxRecDepth 16000
namespace Go.Proofs.YtcbifofjjpfbcaaGreatDoor
open Go Go.SL
open Go.RowKit (wrap64)
abbrev cq (x:Int):BV := .c (.p (.val (.int .u64 x)))
theorem rl {a:Int} (h0:0≤a) (h1:a<18446744073709551616):CE .u64 a 4294967295=a % 4294967296:=by
 obtain ⟨n,rfl⟩:=Int.eq_ofNat_of_zero_le h0
 have e:(BitVec.ofInt 64 (n:Int)).toNat=n:=by
  rw [BitVec.toNat_ofInt];omega
 show IntKind.u64.wrap (BitVec.ofInt 64 (n:Int) &&& BitVec.ofInt 64 4294967295).toNat=_
 rw [BitVec.toNat_and,e,show (BitVec.ofInt 64 4294967295).toNat=2 ^ 32 - 1 by decide,Nat.and_two_pow_sub_one_eq_mod,oP (by omega) (by omega)]
 omega
theorem vd {a:Int} (h0:0≤a):a.fdiv (2 ^ min 32 64)=a / 4294967296:=by
 rw [Int.fdiv_eq_ediv_of_nonneg _ (by decide)];rfl
theorem KP {p q r s : Int} (hp : 0 ≤ p) (hp2 : p ≤ 18446744065119617025) (hq : 0 ≤ q) (hq2 : q ≤ 18446744065119617025) (hr : 0 ≤ r) (hr2 : r ≤ 18446744065119617025) (hs : 0 ≤ s) (hs2 : s ≤ 18446744065119617025) (hz : (s * 18446744073709551616 + (q + r) * 4294967296 + p) < 18446744073709551616 * 18446744073709551616) :
  IntKind.u64.wrap (IntKind.u64.wrap (IntKind.u64.wrap s+(IntKind.u64.wrap (IntKind.u64.wrap q+(IntKind.u64.wrap p) / 4294967296)) / 4294967296)+(IntKind.u64.wrap ((IntKind.u64.wrap (IntKind.u64.wrap q+(IntKind.u64.wrap p) / 4294967296)) % 4294967296+IntKind.u64.wrap r)) / 4294967296) =
   (s * 18446744073709551616+(q+r) * 4294967296+p) / 18446744073709551616:=by
 rw [oP hp (by omega),oP hq (by omega),oP hr (by omega),oP hs (by omega),oP (n:=q+p / 4294967296) (by omega) (by omega),oP (n:=(q+p / 4294967296) % 4294967296+r) (by omega) (by omega),
  oP (n:=s+(q+p / 4294967296) / 4294967296) (by omega) (by omega),oP (by omega) (by omega)]
 omega
theorem uX (a b : Int) (ha : 0 ≤ a) (ha2 : a < 18446744073709551616) (hb : 0 ≤ b) (hb2 : b < 18446744073709551616) :
  aF Sg 225 [cq a,cq b] (fun r=>r = .tup [cq (a * b / 18446744073709551616),cq (a * b % 18446744073709551616)]):=by
 refine aI Tryz.func225 [.tmp 4, .tmp 5] ?_
 repeat' (first|(refine aj (fun K hK => ?_);and_intros;all_goals first|(refine hK _ ?_;clear hK K)|try exact aa)|(refine ai ?_;(try clear hB KB);(try clear hK K)))
 have hw:∀ n:Int,0≤IntKind.u64.wrap n∧IntKind.u64.wrap n<18446744073709551616:=fun n=>by
  simp only [IntKind.wrap,IntKind.bits,IntKind.signed]
  simp
  omega
 have hlo:IntKind.u64.wrap (a * b)=a * b % 18446744073709551616:=by
  simp only [IntKind.wrap,IntKind.bits,IntKind.signed]
  simp
 have ea:a=a / 4294967296 * 4294967296+a % 4294967296:=by omega
 have eb:b=b / 4294967296 * 4294967296+b % 4294967296:=by omega
 have a1:a / 4294967296≤4294967295:=by omega
 have a0:a % 4294967296≤4294967295:=by omega
 have b1:b / 4294967296≤4294967295:=by omega
 have b0:b % 4294967296≤4294967295:=by omega
 have a1':0≤a / 4294967296:=by omega
 have a0':0≤a % 4294967296:=by omega
 have b1':0≤b / 4294967296:=by omega
 have b0':0≤b % 4294967296:=by omega
 rw [hlo,vd ha,vd hb,rl ha ha2,rl hb hb2,vd (hw _).1,rl (hw _).1 (hw _).2,vd (hw _).1,vd (hw _).1]
 have key:a * b=a / 4294967296 * (b / 4294967296) * 18446744073709551616+(a / 4294967296 * (b % 4294967296)+a % 4294967296 * (b / 4294967296)) * 4294967296+a % 4294967296 * (b % 4294967296):=by
  generalize a / 4294967296=x1 at *
  generalize a % 4294967296=x0 at *
  generalize b / 4294967296=y1 at *
  generalize b % 4294967296=y0 at *
  subst ea;subst eb
  simp only [Int.add_mul,Int.mul_add,Int.mul_assoc]
  have e1:x1 * (4294967296 * (y1 * 4294967296))=x1 * (y1 * 18446744073709551616):=by
   congr 1;omega
  have e2:x1 * (4294967296 * y0)=x1 * (y0 * 4294967296):=by congr 1;omega
  omega
 have hz1:a * b≤18446744073709551615 * 18446744073709551615:=Int.mul_le_mul (by omega) (by omega) hb (by omega)
 have hz:a * b<18446744073709551616 * 18446744073709551616:=by omega
 rw [KP (Int.mul_nonneg a0' b0') (Int.mul_le_mul a0 b0 b0' (by omega)) (Int.mul_nonneg a1' b0') (Int.mul_le_mul a1 b0 b0' (by omega)) (Int.mul_nonneg a0' b1') (Int.mul_le_mul a0 b1 b1' (by omega)) (Int.mul_nonneg a1' b1') (Int.mul_le_mul a1 b1 b1' (by omega)) (by rw [← key];exact hz),← key]
end Go.Proofs.YtcbifofjjpfbcaaGreatDoor
namespace Go.Proofs.YtcbifofjjpfbcaaGreatDoor
structure DigI (u d y1 y0 q r:Int):Prop where
 q0:0≤q
 r0:0≤r
 e:q * y1+r=u
 lt:u * 4294967296+d<(q+1) * (y1 * 4294967296+y0)
structure DigP (u d y1 y0:Int):Prop where
 u0:0≤u
 uy:u<y1 * 4294967296+y0
 d0:0≤d
 d1:d<4294967296
 a0:2147483648≤y1
 a1:y1<4294967296
 b0:0≤y0
 b1:y0<4294967296
section
variable {u d y1 y0 q r:Int}
theorem tc {q:Int}:q * (y1 * 4294967296+y0)=q * y1 * 4294967296+q * y0:=by rw [Int.mul_add,Int.mul_assoc]
theorem wK (P:DigP u d y1 y0):DigI u d y1 y0 (u / y1) (u - u / y1 * y1):=by
 obtain ⟨u0,uy,d0,d1,a0,a1,b0,b1⟩:=P
 have hq:0≤u / y1:=Int.ediv_nonneg u0 (by omega)
 have h1:=Int.mul_ediv_add_emod u y1
 have h2:=Int.emod_nonneg u (show y1≠0 by omega)
 have h3:=Int.emod_lt_of_pos u (show 0<y1 by omega)
 rw [Int.mul_comm] at h1
 generalize u / y1=q at *
 refine ⟨hq,by omega,by omega, ?_⟩
 rw [tc]
 have h4:0≤(q+1) * y0:=Int.mul_nonneg (by omega) b0
 have h5:(q+1) * y1=q * y1+y1:=by rw [Int.add_mul,Int.one_mul]
 omega
theorem qu (P:DigP u d y1 y0) (I:DigI u d y1 y0 q r) (h:4294967296≤q∨4294967296 * r+d<q * y0):DigI u d y1 y0 (q - 1) (r+y1):=by
 obtain ⟨u0,uy,d0,d1,a0,a1,b0,b1⟩:=P
 obtain ⟨q0,r0,e,lt⟩:=I
 have hq:1≤q:=by
  rcases h with h|h
  ·omega
  ·refine Int.not_lt.1 fun c => ?_
   have:q=0:=by omega
   subst this
   rw [Int.zero_mul] at h
   omega
 have e2:(q - 1) * y1=q * y1 - y1:=by rw [Int.sub_mul,Int.one_mul]
 refine ⟨by omega,by omega,by omega, ?_⟩
 rw [show q - 1+1=q by omega,tc]
 rcases h with h|h
 ·have h1:4294967296 * (y1 * 4294967296+y0)≤q * (y1 * 4294967296+y0):=Int.mul_le_mul_of_nonneg_right h (by omega)
  rw [tc (q:=q)] at h1
  omega
 ·omega
theorem nH (P:DigP u d y1 y0) (I:DigI u d y1 y0 q r) (h:q * y0≤4294967296 * r+d):q=(u * 4294967296+d) / (y1 * 4294967296+y0)∧q<4294967296∧u * 4294967296+d - q * (y1 * 4294967296+y0)=(u * 4294967296+d) % (y1 * 4294967296+y0):=by
 obtain ⟨u0,uy,d0,d1,a0,a1,b0,b1⟩:=P
 obtain ⟨q0,r0,e,lt⟩:=I
 have h1:q * (y1 * 4294967296+y0)≤u * 4294967296+d:=by rw [tc];omega
 have hy:0<y1 * 4294967296+y0:=by omega
 have e1:q=(u * 4294967296+d) / (y1 * 4294967296+y0):=by
  have a:q≤(u * 4294967296+d) / (y1 * 4294967296+y0):=(Int.le_ediv_iff_mul_le hy).2 h1
  have b:(u * 4294967296+d) / (y1 * 4294967296+y0)<q+1:=(Int.ediv_lt_iff_lt_mul hy).2 lt
  omega
 refine ⟨e1, ?_, ?_⟩
 ·refine Int.not_le.1 fun c => ?_
  have h2:4294967296 * (y1 * 4294967296+y0)≤q * (y1 * 4294967296+y0):=Int.mul_le_mul_of_nonneg_right c (by omega)
  omega
 ·have:=Int.mul_ediv_add_emod (u * 4294967296+d) (y1 * 4294967296+y0)
  rw [← e1,Int.mul_comm] at this
  omega
theorem nG (P:DigP u d y1 y0) (I:DigI u d y1 y0 q r) (h:4294967296≤r):q * y0≤4294967296 * r+d:=by
 obtain ⟨u0,uy,d0,d1,a0,a1,b0,b1⟩:=P
 obtain ⟨q0,r0,e,lt⟩:=I
 have hq:q≤4294967296:=by
  refine Int.not_lt.1 fun c => ?_
  have h2:4294967297 * y1≤q * y1:=Int.mul_le_mul_of_nonneg_right c (by omega)
  omega
 have h3:q * y0≤4294967296 * 4294967295:=Int.mul_le_mul hq (by omega) b0 (by omega)
 omega
theorem yp (P:DigP u d y1 y0) (I:DigI u d y1 y0 q r):q≤8589934592:=by
 obtain ⟨u0,uy,d0,d1,a0,a1,b0,b1⟩:=P
 obtain ⟨q0,r0,e,lt⟩:=I
 refine Int.not_lt.1 fun c => ?_
 have h2:q * 2147483648≤q * y1:=Int.mul_le_mul_of_nonneg_left a0 q0
 omega
end
theorem FU {a y k:Int} (hk:0<k) (hy:0<y):a * k / (y * k)=a / y∧a * k % (y * k)=a % y * k:=by
 have h:=Int.mul_ediv_add_emod a y
 have h2:=Int.emod_nonneg a (show y≠0 by omega)
 have h3:=Int.emod_lt_of_pos a hy
 refine ⟨Int.mul_ediv_mul_of_pos_left a y hk, ?_⟩
 rw [Int.mul_comm a,Int.mul_comm y,Int.mul_emod_mul_of_pos _ _ hk,Int.mul_comm]
theorem Cu {t a b y q1 q0 r1 : Int} (hy : 0 < y) (h1 : q1 = (t * 4294967296 + a) / y) (hr : r1 = (t * 4294967296 + a) % y) (h0 : q0 = (r1 * 4294967296 + b) / y) (hb : 0 ≤ b ∧ b < 4294967296) :
  q1 * 4294967296+q0=(t * 18446744073709551616+(a * 4294967296+b)) / y∧(r1 * 4294967296+b) % y=(t * 18446744073709551616+(a * 4294967296+b)) % y:=by
 have e1:=Int.mul_ediv_add_emod (t * 4294967296+a) y
 have e2:=Int.mul_ediv_add_emod (r1 * 4294967296+b) y
 have m0:=Int.emod_nonneg (r1 * 4294967296+b) (show y≠0 by omega)
 have m1:=Int.emod_lt_of_pos (r1 * 4294967296+b) hy
 rw [← h1,← hr] at e1
 rw [← h0] at e2
 have e3:t * 18446744073709551616+(a * 4294967296+b)=y * (q1 * 4294967296+q0)+(r1 * 4294967296+b) % y:=by
  have:y * (q1 * 4294967296+q0)=y * q1 * 4294967296+y * q0:=by rw [Int.mul_add,Int.mul_assoc]
  omega
 generalize (r1 * 4294967296+b) % y=m at *
 rw [e3]
 constructor
 ·rw [Int.mul_add_ediv_left _ _ (by omega),Int.ediv_eq_zero_of_lt m0 m1,Int.add_zero]
 ·rw [Int.mul_add_emod_self_left,Int.emod_eq_of_lt m0 m1]
end Go.Proofs.YtcbifofjjpfbcaaGreatDoor
namespace Go.SL
open Go
section
variable {P:Program} {n l:Nat} {Q:Exit→Act→World→Prop}
theorem OW {row:String} {args:Array Value} {w:World} {R:Value→World→Prop} (h:Rows P row args w R):RowsIn (Fence.wide.inRound l) n P row args w R :=
 fun c cs _=>let ⟨v,w',r,s⟩:=h c cs; ⟨v,w',r,stepsIn_wide.2 s⟩
theorem MC {o:Oper} {a:Act} {w:World} {next:Act→World→Prop} (hd:∀ c,o.op ≠ .defer c) (h:o.wp P a w next Q):o.wpIn (Fence.wide.inRound l) n P a w next Q:=by
 refine ⟨fun _ _=>trivial, ?_⟩
 rw [Fence.inRound_round,Oper.semAt_some l _ _ hd]
 unfold Oper.wp at h
 generalize (execOp a.eval o).run P w=r at *
 cases r with
 | ok x w' =>
  cases x with
  | value v=>exact h
  | skip=>exact h
  | defer d=>exact h
  | enter f args=>exact ⟨fun q=>(by cases q),CallsIn.inRound l (callsIn_wide.2 h)⟩
  | row r args=>exact ⟨fun q=>(by cases q),OW h⟩
  | _=>exact h.elim
 | halt x w' =>
  cases x with
  | panic v=>exact h
  | _=>exact h.elim
def AG (ops:List Oper):Bool:=ops.all fun o=>match o.op with
 | .defer _=>false
 | _=>true
theorem Dp {ops:Array Oper} (h:AG ops.toList=true) {i:Nat} {o:Oper} (ho:ops[i]?=some o) (c:Call):o.op ≠ .defer c:=fun e=>by
 have hm:o ∈ ops.toList:=by
  have:=Array.mem_of_getElem? ho
  simpa using this
 have:=List.all_eq_true.1 h o hm
 rw [e] at this
 cases this
theorem Ev {ops:Array Oper} (hd:AG ops.toList=true) (hL:¬ LetsOut Q) {i:Nat} {K K':Act→World→Prop} {a:Act} {w:World} (hK:∀ a w,K a w→K' a w) (h:wpOp P ops Q i K a w):wpOpIn (Fence.wide.inRound l) n P ops Q i K' a w:=by
 unfold wpOp at h
 unfold wpOpIn
 cases ho:ops[i]? with
 | none=>rw [ho] at h;exact hK _ _ h
 | some o =>
  rw [ho] at h
  dsimp only at h ⊢
  split
  ·rename_i hw
   rw [if_pos hw] at h
   rcases h with h|⟨_,h⟩
   ·exact MC (Dp hd ho) (Oper.wp_mono hK h)
   ·exact absurd h hL
  ·rename_i hw
   rw [if_neg hw] at h
   exact ⟨fun _ _=>trivial,hK _ _ h⟩
theorem BE {ops:Array Oper} (hd:AG ops.toList=true) (hL:¬ LetsOut Q):∀ (L:List Nat) (a:Act) (w:World),wpOps P ops Q L a w→wpOpsIn (Fence.wide.inRound l) n P ops Q L a w
 | [],_,_,h=>h
 | i :: r,a,w,h=>by
  rw [wpOps_cons] at h
  rw [wpOpsIn_cons]
  exact Ev hd hL (BE hd hL r) h
theorem zH {ops:Array Oper} (hd:AG ops.toList=true) (hL:¬ LetsOut Q):∀ (fuel:Nat) (listed:Array Bool) (a:Act) (w:World),wpAny P .any ops Q fuel listed a w→wpAnyIn (Fence.wide.inRound l) n P .any ops Q fuel listed a w
 | 0,_,_,_,h=>h
 | fuel+1,listed,a,w,h=>⟨h.1,fun i hi=>Ev hd hL (zH hd hL fuel _) (h.2 i hi)⟩
end
def jJ:Code→Bool
 | .region _ ops _=>AG ops.toList
 | .seq x y=>jJ x && jJ y
 | .cond _ x y=>jJ x && jJ y
 | .block _ c=>jJ c
 | .loop c=>jJ c
 | _=>true
section
variable {S:Env} {E:Ent}
theorem DM {Q:AExit→St→Prop}:¬ LetsOut (Cf S E Q):=fun ⟨_,_,h⟩=>h
theorem gq (hm:S.P.follows .mixedOrders=true) (l n:Nat):∀ (c:Code) {Q:AExit→St→Prop} {st:St} {ρ:fQ} {a:Act} {w:World},cO E.N c=true→jJ c=true→cw S c Q st→Gam S E st ρ a w→c.wpIn (Fence.wide.inRound l) n S.P (Cf S E Q) a w
 | .skip,Q,st,ρ,a,w,_,_,h,g=>wpIn_skip ⟨st,ρ,g,h⟩
 | .label _,Q,st,ρ,a,w,_,_,h,g=>wpIn_label ⟨st,ρ,g,h⟩
 | .exit id,Q,st,ρ,a,w,_,_,h,g=>wpIn_exit ⟨st,ρ,g,h⟩
 | .ret,Q,st,ρ,a,w,_,_,h,g=>wpIn_ret ⟨st,ρ,g,h⟩
 | .region id ops draw,Q,st,ρ,a,w,hN,hd,h,g=>by
  simp only [cw] at h
  simp only [cO] at hN
  simp only [jJ] at hd
  cases draw with
  | true =>
   rw [if_pos rfl] at h
   exact wpIn_region_any hm (zH hd DM _ _ _ _ (lF hN (fun _ _ h=>h) _ _ h g.drew))
  | false =>
   rw [if_neg (by simp)] at h
   refine wpIn_region (BE hd DM _ _ _ ?_)
   have:=oW (Q:=Cf S E Q) hN (fun _ _ h=>h) ops.toList 0 (fun j=>by simp) h g
   rw [List.range_eq_range']
   simpa using this
 | .seq x y,Q,st,ρ,a,w,hN,hd,h,g=>by
  simp only [cO,Bool.and_eq_true] at hN
  simp only [jJ,Bool.and_eq_true] at hd
  refine wpIn_seq (wpIn_mono (gq hm l n x hN.1 hd.1 h g) fun e a w hq => ?_)
  cases e with
  | normal =>
   obtain ⟨st',ρ',g',hk⟩:=hq
   rcases hk with hk|hk
   ·obtain ⟨st2,ρ2,g2,hk2⟩:=Wk.nxt hk g'
    exact gq hm l n y hN.2 hd.2 hk2 g2
   ·exact gq hm l n y hN.2 hd.2 hk g'
  | _=>exact hq
 | .cond c x y,Q,st,ρ,a,w,hN,hd,h,g=>by
  simp only [cO,Bool.and_eq_true] at hN
  simp only [jJ,Bool.and_eq_true] at hd
  simp only [cw] at h
  split at h
  ·rename_i t ht
   have hdd:=(g.ev c).1
   rw [ht] at hdd
   have hc:a.eval c = .bool t:=hdd
   cases t with
   | true=>exact wpIn_cond_true hc (gq hm l n x hN.1 hd.1 (h.1 rfl) g)
   | false=>exact wpIn_cond_false hc (gq hm l n y hN.2 hd.2 (h.2 rfl) g)
  ·exact h.elim
 | .block id c,Q,st,ρ,a,w,hN,hd,h,g=>by
  refine wpIn_block (wpIn_mono (gq hm l n c hN hd h g) fun e a w hq => ?_)
  cases e with
  | exit id' =>
   obtain ⟨st',ρ',g',hk⟩:=hq
   simp only [kK] at hk
   simp only [Exit.inBlock]
   split
   ·rename_i he;rw [if_pos he] at hk;exact ⟨st',ρ',g',hk⟩
   ·rename_i he;rw [if_neg he] at hk;exact ⟨st',ρ',g',hk⟩
  | _=>exact hq
 | .loop c,Q,st,ρ,a,w,hN,hd,h,g=>by
  obtain ⟨I,n0,h0,hr⟩:=h
  have key:∀ k m st ρ a w,m<k→I m st→Gam S E st ρ a w→Code.roundsIn (Fence.wide.inRound l) n S.P c (Cf S E Q) k a w:=by
   intro k
   induction k with
   | zero=>intro m st ρ a w hlt;omega
   | succ k ih =>
    intro m st ρ a w hlt hI g
    rw [roundsIn_succ]
    refine wpIn_mono (gq hm l n c hN hd (hr m st hI) g) fun e a w hq => ?_
    cases e with
    | normal =>
     obtain ⟨st',ρ',g',hk⟩:=hq
     obtain ⟨st2,ρ2,g2,n',hlt',hk1⟩:=Wk.nxt hk g'
     exact ih n' st2 ρ2 a w (by omega) hk1 g2
    | _=>exact hq
  obtain ⟨st2,ρ2,g2,h2⟩:=Wk.nxt h0 g
  exact wpIn_loop_rounds (n0+1) (key _ n0 st2 ρ2 a w (Nat.lt_succ_self _) h2 g2)
 | .rangeFunc ..,Q,st,ρ,a,w,_,_,h,g=>h.elim
 | .scope _,Q,st,ρ,a,w,_,_,h,g=>h.elim
 | .goto _,Q,st,ρ,a,w,_,_,h,g=>h.elim
 | .refuse _,Q,st,ρ,a,w,_,_,h,g=>h.elim
end
end Go.SL
namespace Go.SL
open Go Go.RowKit
structure RndOk (S:Env) (N:Nat) (w:World) (f:Nat→SV) (a:Act):Prop where
 dfr:a.defers=[]
 sz:a.tmps.size=N
 lt:∀ s,(f s).lt 0
 den:∀ s,bu bM (fun b=>b<w.heap.size) w (f s) (a.tmps.getD s undef)
section
variable {S:Env}
theorem NR {N : Nat} {w W : World} {f : Nat → SV} {a : Act} (h : RndOk S N w f a) (hgl : mz S (fun b => b < w.heap.size) w) (hB : Below w.heap.size w W) :
  Gam S { w0:=W,ok0:=fun b=>b<w.heap.size,rx:=none,N:=N } ⟨f,fun _=>none,0,fun _ => .any⟩ bM a W:=by
 have hok:∀ b,b<w.heap.size→bL { w0:=W,ok0:=fun b=>b<w.heap.size,rx:=none,N:=N } (fun _=>none) bM W b:=fun b hb=>⟨Nat.lt_of_lt_of_le hb hB.size,fun _=>hb,fun _ h=>absurd rfl h⟩
 have hk:fG (fun b=>b<w.heap.size) (bL { w0:=W,ok0:=fun b=>b<w.heap.size,rx:=none,N:=N } (fun _=>none) bM W) w W:=fun b hb=>⟨hok b hb,fun _=>World.cell?_of_block (hB.block b hb)⟩
 refine ⟨h.dfr,h.sz,⟨rfl,rfl,rfl,Nat.le_refl _,fun _ _ _=>rfl,fun _ _ _ q=>(by cases q)⟩,h.lt,fun _ _ q=>(by cases q),fun _ _ q=>(by cases q),fun _ _ _ q=>(by cases q),fun _ _ _ q=>absurd rfl q,
  fun _ _ _ q=>(by cases q),fun s=>bu.mono (nx:=0) hk (fun _ _=>rfl) (h.lt s) (h.den s),fun gg n f hg => ?_,fun s=>⟨trivial,trivial⟩⟩
 obtain ⟨h1,h2⟩:=hgl gg n f hg
 refine ⟨hok gg h1,fun j hj => ?_⟩
 obtain ⟨x,hx,h3,hd⟩:=h2 j hj
 exact ⟨x,by rw [World.cell?_of_block (hB.block gg h1)];exact hx,h3,bt.mono hk hd⟩
def PD:AExit→St→Prop
 | .normal,_=>True
 | _,_=>False
theorem xQ {st:St}:PD .normal st=True:=rfl
attribute [go_sem] xQ
theorem BO {α : Type} (hm : S.P.follows .mixedOrders = true) {g : Operand} {ps : Array Tmp} {assign body : Code} {Q : Exit → Act → World → Prop} {a : Act} {w : World} {N gf NN : Nat} {lb : Array Value} {encs : α → Array Value} (hg : a.eval g = .func (.func gf) #[] lb)
  (eg:∀ args w,(callFunc gf args).run S.P w = .ok (.enter gf args) w) (hseq:SeqStopsK Fence.wide 3 S.P gf lb encs (Below w.heap.size) (fun _=>True) (fun _=>True) NN w) (hps:∀ x,(encs x).size=ps.size)
  (a1:α→Act) (f:α→Nat→SV)
  (hassign:∀ (l:Nat) (x:α) (W:World) (K:Act→World→Prop),K (a1 x) W→assign.wpIn (Fence.wide.inRound l) 2 S.P (Exit.then K (fun _ _ _=>False)) { tmps:=(ps.zip (encs x)).foldl (fun t (p,v)=>t.setIfInBounds p v) a.tmps,defers:=[] } W)
  (hr:∀ x,RndOk S N w (f x) (a1 x)) (hgl:mz S (fun b=>b<w.heap.size) w) (hN:cO N body=true) (hnd:jJ body=true)
  (hcw:∀ x,cw S body PD ⟨f x,fun _=>none,0,fun _ => .any⟩)
  (hdone:∀ (D:Nat) (W:World),w.heap.size≤D→Below w.heap.size w W→W.heap[D]?=some (.deferred (some []))→Q .normal { a with defers := { target := .collected D,args := #[] } :: a.defers } W) :
  (Code.rangeFunc g ps assign body).wp S.P Q a w:=by
 refine (wpIn_wide (n:=4)).1 ?_
 refine wpIn_rangeFunc_ownG (F:=Fence.wide) (n:=4) (w0:=w) rfl (by omega) hg trivial eg hseq belowK_t (belowK_b (Nat.le_refl _)) (Below.refl _ _) hps
  (fun _ W=>Below w.heap.size w W) (fun _ _ _=>False) (fun s A B row hs hg hr=>hs.grown hg (by have:=hs.size;omega) (fun k e=>(hr k e).1)) (fun _ _ _ _ _ hs _ _=>hs) (Below.refl _ _) a1 hassign ?_ ?_ ?_
 ·intro l pre x W hI _
  refine wpIn_mono (gq (S:=S) hm l 2 body hN hnd (hcw x) (NR (hr x) hgl hI)) fun e a3 W3 hq => ?_
  cases e with
  | normal =>
   obtain ⟨st',ρ',g',_⟩:=hq
   have hb:∀ k,k<W.heap.size→W3.heap[k]?=W.heap[k]?:=fun k hk=>g'.frm.block k hk fun _ _ q=>by cases q
   have hB:Below w.heap.size W W3:=⟨g'.frm.os,g'.frm.tape,g'.frm.output,g'.frm.size,fun k hk=>hb k (Nat.lt_of_lt_of_le hk hI.size)⟩
   exact ⟨⟨g'.frm.size,fun k o _ hk _=>by rw [hb k (bN hk)];exact hk⟩,hB,hI.trans hB⟩
  | exit id=>obtain ⟨_,_,_,h⟩:=hq;exact h.elim
  | ret=>obtain ⟨_,_,_,h⟩:=hq;exact h.elim
  | _=>exact hq.elim
 ·intro D xs W hD _ hI hK
  exact hdone D W hD hI hK
 ·intro D c pre W _ _ h _
  exact h.elim
def Ps (s0:St):AExit→St→Prop
 | .normal,st=>Wk (fun s=>s=s0) st
 | _,_=>False
theorem zc {s0 st:St}:Ps s0 .normal st=Wk (fun s=>s=s0) st:=rfl
attribute [go_sem] zc
theorem tg {E : Ent} {st : St} {ρ : fQ} {a : Act} {w : World} {x y : Code} {Q : Exit → Act → World → Prop} (hm : S.P.follows .mixedOrders = true) (s0 : St) (hx : cw S x (Ps s0) st) (hN : cO E.N x = true) (g : Gam S E st ρ a w)
  (hy:∀ ρ' a' w',Gam S E s0 ρ' a' w'→y.wp S.P Q a' w'):(Code.seq x y).wp S.P Q a w:=by
 refine wp_seq (wp_mono (dV hm x hN hx g) fun e a' w' hq => ?_)
 cases e with
 | normal =>
  obtain ⟨st',ρ',g',hk⟩:=hq
  obtain ⟨s1,ρ1,g1,rfl⟩:=Wk.nxt hk g'
  exact hy ρ1 a' w' g1
 | exit id=>obtain ⟨_,_,_,h⟩:=hq;exact h.elim
 | ret=>obtain ⟨_,_,_,h⟩:=hq;exact h.elim
 | _=>exact hq.elim
theorem FN {N : Nat} {args : List BV} {ok : Nat → Prop} {w : World} {vs : Array Value} (hok : ∀ b, ok b → b < w.heap.size) (hgl : mz S ok w) (hsz : vs.size = args.length) (hden : ∀ j, bR bM ok w (args.getD j .any) (vs.getD j undef)) (hlen : args.length ≤ N) (hl : ∀ x ∈ args, BV.lt 0 x) :
  Gam S { w0:=w,ok0:=ok,rx:=none,N:=N } (uj args) bM { tmps:=vs ++ Array.replicate (N - vs.size) undef,defers:=[] } w:=by
 let E:Ent := { w0:=w,ok0:=ok,rx:=none,N:=N }
 have hokA:∀ b,ok b→bL E (fun _=>none) bM w b:=fun b hb=>⟨hok b hb,fun _=>hb,fun _ h=>absurd rfl h⟩
 have hk:fG ok (bL E (fun _=>none) bM w) w w:=fun b hb=>⟨hokA b hb,fun _=>rfl⟩
 refine ⟨rfl,by simp;omega,⟨rfl,rfl,rfl,Nat.le_refl _,fun _ _ _=>rfl,fun _ _ _ h=>(by cases h)⟩,fun s => ?_,fun _ _ h=>(by cases h),fun _ _ h=>(by cases h),fun _ _ _ h=>(by cases h),fun _ _ _ h=>absurd rfl h,
  fun _ _ _ h=>(by cases h),fun s => ?_,fun gg n f hg => ?_,fun s=>⟨trivial,trivial⟩⟩
 ·simp only [uj,bY]
  split
  ·rename_i hs
   refine hl _ ?_
   rw [List.getD_eq_getElem?_getD,List.getElem?_eq_getElem (by omega)];exact List.getElem_mem _
  ·trivial
 ·simp only [uj,bY]
  split
  ·rename_i hs
   have e:(vs ++ Array.replicate (N - vs.size) undef).getD s undef=vs.getD s undef:=by
    have:s<vs.size:=by omega
    simp [this]
    rw [Array.getElem?_append_left this]
    simp [this]
   rw [e]
   exact bR.mono (nx:=0) hk (fun _ _=>rfl) (hl _ (by rw [List.getD_eq_getElem?_getD,List.getElem?_eq_getElem (by omega)];exact List.getElem_mem _)) (hden (s - 0))
  ·trivial
 ·obtain ⟨h1,h2⟩:=hgl gg n f hg
  refine ⟨hokA gg h1,fun j hj => ?_⟩
  obtain ⟨x,hx,h3,hd⟩:=h2 j hj
  exact ⟨x,hx,h3,bt.mono hk hd⟩
theorem KC {E:Ent} {st:St} {ρ:fQ} {a:Act} {w:World} (g:Gam S E st ρ a w) {s:Nat} {x y:BV} (h:st.fr s = .b x) (hy:dp st.bx x=y) (hl:BV.lt 0 y):bu bM (fun b=>b<w.heap.size) w (.b y) (a.tmps.getD s undef):=by
 have hd:=g.slt s
 rw [h] at hd
 have:=lP g hd
 rw [hy] at this
 exact eT hl this
theorem UL {E:Ent} {st:St} {ρ:fQ} {a:Act} {w:World} (g:Gam S E st ρ a w):mz S (fun b=>b<w.heap.size) w:=fun k n f hg=>by
 obtain ⟨h1,h2⟩:=g.glb k n f hg
 refine ⟨h1.1,fun j hj => ?_⟩
 obtain ⟨x,hx,hx1,hdx⟩:=h2 j hj
 exact ⟨x,hx,hx1,bt.mono (fun b hb=>⟨hb.1,fun _=>rfl⟩) hdx⟩
end
end Go.SL
namespace Go.Proofs.YtcbifofjjpfbcaaGreatDoor
open Go Go.RowKit Go.Shelf
attribute [local go_sem] Oper.semAt_some
def rZ (W:Nat):Value→Nat
 | .int _ k=>W - k.toNat
 | _=>0
theorem nT (W k:Nat):rZ W (.int .i64 k)=W - k:=by simp [rZ]
set_option maxRecDepth 100000 in
set_option maxHeartbeats 1000000 in
theorem Cy (F : Fence) (n : Nat) (h6 : F.fn 150) (hro : F.round = none) (hn : 1 ≤ n) (l Bh oh Bw ow n₀ W H : Nat) (hW : W ≤ 16777216) (hH : H ≤ 16777216) (J Jx : List {p : Nat × Nat // p.1 < W ∧ p.2 < H} → World → Prop)
  (hY:∀ pre x w,J pre w→pre.length<H * W→YieldAt F (n - 1) Tryz.prog l #[.int .i64 x.1.1, .int .i64 x.1.2] w fun e w' =>
   (e = .returned (.bool true)∧J (pre ++ [x]) w'∧Below n₀ w w')∨(e = .returned (.bool false)∧Jx (pre ++ [x]) w'))
  (w:World) (hBh:Bh<n₀) (hBw:Bw<n₀) (hch:w.cell? ⟨Bh,oh,none⟩=some (.int .i64 H)) (hcw:w.cell? ⟨Bw,ow,none⟩=some (.int .i64 W)) (h0:J [] w) :
  CallsIn F n Tryz.prog 150 #[.func (.yield l) #[] #[], .pointer (some ⟨Bh,oh,none⟩), .pointer (some ⟨Bw,ow,none⟩)] w fun e w'=>(∃ v,e = .returned v)∧((∃ ys,True∧J ys w')∨(∃ pre,True∧Jx pre w')):=by
 refine callsIn_of_wp Tryz.func150 rfl h6 ?_ hro
 simp only [Tryz.ntmps150,List.size_toArray,List.length_cons,List.length_nil,Nat.reduceAdd,Nat.reduceSub,Array.replicate_succ,Array.replicate_zero,List.push_toArray,List.append_toArray,List.nil_append,List.cons_append]
 gi_wp2
 gi_loopw [7] (fun v wr=>∃ (j:Nat) (pre:List {p:Nat × Nat // p.1<W∧p.2<H}),v = .int .i64 j∧j≤H∧pre.length=j * W∧wr.cell? ⟨Bw,ow,none⟩=some (.int .i64 W)∧J pre wr)
  (fun v wr=>rZ H v)
 case atStart =>
  exact ⟨0,[],rfl,Nat.zero_le _,by simp,hcw,h0⟩
 case round =>
  obtain ⟨j,pre,rfl,hj,hp,hc,hJ⟩:=hrel
  gi_wp2
  ·rename_i hjH K hK
   rw [decide_eq_true hjH]
   gi_loopw [11] (fun v wr=>∃ (k:Nat) (pre:List {p:Nat × Nat // p.1<W∧p.2<H}),v = .int .i64 k∧k≤W∧pre.length=j * W+k∧wr.cell? ⟨Bw,ow,none⟩=some (.int .i64 W)∧J pre wr)
    (fun v wr=>rZ W v)
   case atStart =>
    exact ⟨0,pre,rfl,Nat.zero_le _,by omega,hc,hJ⟩
   case round =>
    obtain ⟨k,pre2,rfl,hk,hp2,hc2,hJ2⟩:=hrel
    by_cases hkW:k<W
    ·have hlen:pre2.length<H * W:=by
      have:(j+1) * W≤H * W:=Nat.mul_le_mul hjH (Nat.le_refl _)
      rw [Nat.succ_mul] at this
      omega
     obtain ⟨fn,tmps,assign,body,hy,hR⟩:=hY pre2 ⟨(k,j),hkW,hjH⟩ wr hJ2 hlen
     dsimp only at hy
     gi_wp2
     ·refine hR.mono ?_
      rintro e W3 (⟨rfl,hJ3,hk3⟩|⟨rfl,hJx3⟩)
      ·have hc3:W3.cell? ⟨Bw,ow,none⟩=some (.int .i64 W):=(hk3.cell (p:=⟨Bw,ow,none⟩) hBw).trans hc2
       gi_wp2
       go_roundw
       case rel=>exact ⟨k+1,pre2 ++ [⟨(k,j),hkW,hjH⟩],rfl,by omega,by rw [List.length_append,hp2];rfl,hc3,hJ3⟩
       case measure =>
        show rZ W (.int .i64 ((k+1:Nat):Int))<rZ W (.int .i64 (k:Int))
        rw [nT,nT];omega
      ·gi_wp2
       refine bodyPost_ret (results_none rfl _ _ _) rfl ?_
       exact ⟨⟨_,rfl⟩, .inr ⟨_,trivial,hJx3⟩⟩
    ·gi_wp2
     go_roundw
     case rel =>
      have:k=W:=by omega
      exact ⟨j+1,pre2,by simp,by omega,by rw [Nat.succ_mul,hp2,this],hc2,hJ2⟩
     case measure =>
      show rZ H (.int .i64 ((j+1:Nat):Int))<rZ H (.int .i64 (j:Int))
      rw [nT,nT];omega
  ·go_end0
   exact ⟨⟨_,rfl⟩, .inl ⟨pre,trivial,hJ⟩⟩
theorem yc (n : Nat) (hn : 1 ≤ n) (Bh oh Bw ow n₀ W H : Nat) (hW : W ≤ 16777216) (hH : H ≤ 16777216) (w : World) (hn₀ : n₀ ≤ w.heap.size) (hBh : Bh < n₀) (hBw : Bw < n₀) (hch : w.cell? ⟨Bh, oh, none⟩ = some (.int .i64 H)) (hcw : w.cell? ⟨Bw, ow, none⟩ = some (.int .i64 W)) :
  SeqStopsK Fence.wide n Tryz.prog 150 #[.pointer (some ⟨Bh,oh,none⟩), .pointer (some ⟨Bw,ow,none⟩)] (fun x : {p:Nat × Nat // p.1<W∧p.2<H} => #[.int .i64 x.1.1, .int .i64 x.1.2]) (Below n₀) (fun _=>True) (fun _=>True) (H * W) w:=fun l J Jx w1 hB _ _ hY h0 =>
 Cy Fence.wide n trivial rfl hn l Bh oh Bw ow n₀ W H hW hH J Jx hY w1 hBh hBw ((hB.cell (p:=⟨Bh,oh,none⟩) (by show Bh<w.heap.size;omega)).trans hch) ((hB.cell (p:=⟨Bw,ow,none⟩) (by show Bw<w.heap.size;omega)).trans hcw) h0
end Go.Proofs.YtcbifofjjpfbcaaGreatDoor
