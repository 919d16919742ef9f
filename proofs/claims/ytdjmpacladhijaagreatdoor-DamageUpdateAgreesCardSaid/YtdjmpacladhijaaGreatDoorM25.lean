/- Part of the proof: Br, BrG, BrS, R4, P5, P6, RP, R2, WP, RC, VK, RK, RL, KB. -/
import Derived.ChangeArms
import Derived.DataReads
import Derived.DataOpen
import Derived.OpenShut
import Derived.Lib.LaidTab
import Derived.Carry
import Derived.ProofKit
import Derived.WideKeyArgs
import Derived.WalkKit
import GoSem.ClaimJoined
import Derived.Test.YtdjmpacladhijaaGreatDoorRows
import Derived.KernelRfl
import Derived.Test.YtdjmpacladhijaaGreatDoorM21
import Derived.Test.YtdjmpacladhijaaGreatDoorM24
set_option linter.unusedSimpArgs false
set_option linter.unusedVariables false
set_option maxRecDepth 100000
set_option maxHeartbeats 8000000
namespace Go.SL
open Go Go.ChangeShapes
structure Cells (w:World) (cs:List Value) (l:List PV):Prop where
 len:cs.length=l.length
 one:∀ j,j<cs.length→(cs.getD j undef).oneCell'=true
 den:∀ j,j<cs.length→bq (· < w.heap.size) w (l.getD j .any) (cs.getD j undef)
theorem Cells.nil {w:World}:Cells w [] []:=⟨rfl,fun j h=>absurd h (Nat.not_lt_zero j),fun j h=>absurd h (Nat.not_lt_zero j)⟩
theorem wI {α:Type} (a b:List α) (d:α) (j:Nat) (h:j<a.length):(a ++ b).getD j d=a.getD j d:=by grind
theorem uQ {α:Type} (a b:List α) (d:α) (j:Nat) (h:a.length≤j):(a ++ b).getD j d=b.getD (j - a.length) d:=by grind
theorem Cells.append {w:World} {a b:List Value} {l r:List PV} (h:Cells w a l) (k:Cells w b r):Cells w (a ++ b) (l ++ r):=by
 refine ⟨by rw [List.length_append,List.length_append,h.len,k.len],fun j hj => ?_,fun j hj => ?_⟩
 ·rw [List.length_append] at hj;by_cases hc:j<a.length
  ·rw [wI _ _ _ _ hc];exact h.one j hc
  ·rw [uQ _ _ _ _ (by omega)];exact k.one _ (by omega)
 ·rw [List.length_append] at hj;by_cases hc:j<a.length
  ·rw [wI _ _ _ _ hc,wI _ _ _ _ (by rw [← h.len];exact hc)];exact h.den j hc
  ·rw [uQ l r _ _ (by have:=h.len;omega),uQ a b _ _ (by omega),← h.len];exact k.den _ (by omega)
theorem Cells.one1 {w:World} {u:Value} {p:PV} (h1:u.oneCell'=true) (h:bq (· < w.heap.size) w p u):Cells w [u] [p]:=by
 refine ⟨rfl,fun j hj => ?_,fun j hj => ?_⟩ <;> (obtain rfl:j=0:=by grind)
 ·exact h1
 ·exact h
def ri {α:Type} (P:Program) (t:TypeId) (E:α→List PV) (Ok:α→Prop):Prop :=
 ∀ (H:Type) (enc:TypeId × Value→H) (w:World) (sp:Nat→Bool) (held:Bool) (fuel:Nat) (cs:List Value) (x:DataW H × List MemPlace),
  DataW.trod enc P w 0 sp held fuel t cs=some x→(DataW.weights P t x.1).all (· ≤ reachBytes)=true→∃ a:α,Ok a∧Cells w cs (E a)
theorem ri.to {α β:Type} {P:Program} {t:TypeId} {E:α→List PV} {Ok:α→Prop} {E':β→List PV} {Ok':β→Prop} (h:ri P t E Ok) (g:α→β) (hE:∀ a,E' (g a)=E a) (hO:∀ a,Ok a→Ok' (g a)):ri P t E' Ok':=by
 intro H enc w sp held fuel cs x hx hw;obtain ⟨a,ho,hc⟩:=h H enc w sp held fuel cs x hx hw;grind
theorem Nd {P:Program} {t:TypeId} {k:IntKind} (ht:P.underlying t=some (.int k)):ri P t (fun n=>[PV.val (.int k n)]) (fun n=>(Lit.int k n).wf=true):=by
 intro H enc w sp held fuel cs x hx _;obtain ⟨n,rfl,_,hw⟩:=DataW.trod_int ht hx;exact ⟨n,hw,Cells.one1 rfl rfl⟩
def fieldsOf (P:Program) (t:TypeId):Option (List (TypeId × Nat)) :=
 match P.underlying t with
 | some (.struct fs)=>some (fs.toList.map fun f=>(f.type,f.offset))
 | some (.array m e)=>some ((List.range m).map fun i=>(e,i * P.cellsOf e))
 | _=>none
theorem qZ {H:Type} {P:Program} {e:TypeId}:∀ {ts:List TypeId} {l:List (DataW H)},ts.length=l.length→(∀ t ∈ ts,t=e)→DataW.weightsEach P ts l=DataW.weightsAll P e l
 | [],[],_,_=>rfl
 | t :: ts,d :: l,hl,h=>by
  simp only [DataW.weightsEach,DataW.weightsAll,h t (List.mem_cons_self ..)];rw [qZ (by grind) (fun x hx=>h x (List.mem_cons_of_mem _ hx))]
 | [],_ :: _,hl,_=>by simp at hl
 | _ :: _,[],hl,_=>by simp at hl
theorem JF {H : Type} {enc : TypeId × Value → H} {P : Program} {w : World} {sp : Nat → Bool} {held : Bool} {fuel : Nat} {cs : List Value} {x : DataW H × List MemPlace} {t : TypeId} {l : List (TypeId × Nat)} (h : fieldsOf P t = some l)
  (hx:DataW.trod enc P w 0 sp held fuel t cs=some x):∃ (xs:List (DataW H × List MemPlace)) (m:Nat),x=(.agg (xs.map (·.1)),xs.flatMap (·.2))∧cs.length=P.cellsOf t∧xs.length=l.length ∧
   (∀ (i:Nat) (f:TypeId × Nat),l[i]?=some f→DataW.trod enc P w 0 sp held m f.1 ((cs.drop f.2).take (P.cellsOf f.1))=xs[i]?) ∧
   (∀ k:List (DataW H),k.length=l.length→DataW.weights P t (.agg k)=DataW.weightsEach P (l.map (·.1)) k):=by
 unfold fieldsOf at h;split at h
 ·rename_i fs hu;cases h;obtain ⟨xs,m,rfl,rfl,hlen,hxl,hf⟩:=DataW.trod_struct hu hx;refine ⟨xs,m,rfl,hlen,by grind,fun i f hi => ?_,fun k _ => ?_⟩
  ·grind
  ·simp only [DataW.weights,hu,List.map_map];rfl
 ·rename_i m e hu;cases h;cases fuel with
  | zero=>simp [DataW.trod] at hx
  | succ fuel =>
   simp only [DataW.trod,hu] at hx;split at hx
   ·rename_i hlen;obtain ⟨xs,hmm,rfl⟩:=Option.map_eq_some_iff.1 hx;refine ⟨xs,fuel,rfl,hlen,by grind [Lib.mapM_length],fun i f hi => ?_,fun k hk => ?_⟩
    ·rw [List.getElem?_map,Option.map_eq_some_iff] at hi;obtain ⟨g,hg,rfl⟩:=hi;obtain ⟨b,hb,hf⟩:=Lib.mapM_at hmm i g hg;grind
    simp_all [DataW.weights,qZ]
   ·cases hx
 ·cases h
def XI {β:Type} (P:Program) (fs:List (TypeId × Nat)) (off n:Nat) (E:β→List PV) (Ok:β→Prop):Prop :=
 ∀ (H:Type) (enc:TypeId × Value→H) (w:World) (sp:Nat→Bool) (held:Bool) (fuel:Nat) (cs:List Value) (xs:List (DataW H × List MemPlace)),
  xs.length=fs.length→(∀ (i:Nat) (f:TypeId × Nat),fs[i]?=some f→DataW.trod enc P w 0 sp held fuel f.1 ((cs.drop f.2).take (P.cellsOf f.1))=xs[i]?) →
  (DataW.weightsEach P (fs.map (·.1)) (xs.map (·.1))).all (· ≤ reachBytes)=true→∃ b:β,Ok b∧Cells w ((cs.drop off).take n) (E b)
theorem jz {P:Program} {off:Nat}:XI P [] off 0 (fun _:Unit=>[]) (fun _=>True):=by
 intro H enc w sp held fuel cs xs _ _ _;simp_all [Cells.nil]
theorem aO {α β : Type} {P : Program} {f : TypeId} {fs : List (TypeId × Nat)} {off k n : Nat} {E : α → List PV} {Ok : α → Prop} {E' : β → List PV} {Ok' : β → Prop}
  (h:ri P f E Ok) (hk:P.cellsOf f=k) (hl:XI P fs (off+k) n E' Ok') :
  XI P ((f,off) :: fs) off (k+n) (fun x:α × β=>E x.1 ++ E' x.2) (fun x=>Ok x.1∧Ok' x.2):=by
 intro H enc w sp held fuel cs xs hlen hx hw;obtain ⟨y,ys,rfl⟩:∃ y ys,xs=y :: ys:=by
  cases xs with
  | nil=>grind
  | cons y ys=>grind
 have h0:=hx 0 (f,off) rfl;simp only [hk] at h0;simp only [List.getElem?_cons_zero] at h0;simp only [List.map_cons,DataW.weightsEach,List.all_append,Bool.and_eq_true] at hw;obtain ⟨a,ha,hca⟩:=h H enc w sp held fuel _ y h0 hw.1;obtain ⟨b,hb,hcb⟩:=hl H enc w sp held fuel cs ys (by grind) (fun i g hg=>by have:=hx (i+1) g (by grind);grind) hw.2;refine ⟨(a,b),⟨ha,hb⟩, ?_⟩;rw [List.take_add,List.drop_drop];exact hca.append hcb
theorem gI {β:Type} {P:Program} {t:TypeId} {fs:List (TypeId × Nat)} {n:Nat} {E:β→List PV} {Ok:β→Prop} (ht:fieldsOf P t=some fs) (hn:P.cellsOf t=n) (h:XI P fs 0 n E Ok):ri P t E Ok:=by
 intro H enc w sp held fuel cs x hx hw;obtain ⟨xs,m,rfl,hlen,hxl,hf,hwt⟩:=JF ht hx;rw [hwt _ (by grind)] at hw;obtain ⟨b,hb,hc⟩:=h H enc w sp held m cs xs hxl hf hw;grind
theorem rp {H:Type} {P:Program} {e:TypeId}:∀ {l:List (DataW H)},(DataW.weightsAll P e l).all (· ≤ reachBytes)=true→∀ d ∈ l,(DataW.weights P e d).all (· ≤ reachBytes)=true
 | [],_,d,hd=>by cases hd
 | y :: l,h,d,hd=>by
  simp only [DataW.weightsAll,List.all_append,Bool.and_eq_true] at h;cases hd with
  | head=>exact h.1
  | tail _ hm=>exact rp h.2 d hm
theorem xS {α:Type} [Inhabited α] {R:Nat→α→Prop}:∀ (n:Nat),(∀ i,i<n→∃ y,R i y)→∃ l:List α,l.length=n∧∀ i,i<n→R i (l.getD i default)
 | 0,_=>⟨[],rfl,fun i h=>absurd h (Nat.not_lt_zero i)⟩
 | n+1,h=>by
  obtain ⟨l,hl,hr⟩:=xS n (fun i hi=>h i (by omega));obtain ⟨y,hy⟩:=h n (by omega);refine ⟨l ++ [y],by simp [hl],fun i hi => ?_⟩;grind
theorem sK {α : Type} [Inhabited α] {P : Program} {t e : TypeId} {sz by8 : Nat} {E : α → List PV} {Ok : α → Prop} (ht : P.underlying t = some (.slice e)) (hs : P.cellsOf e = sz) (hpos : 0 < sz) (hb : P.bytesOf e = by8) (h : ri P e E Ok) :
  ri P t (fun l:List α=>[PV.lst sz l.length (aQ E l)]) (fun l=>l.length * by8≤reachBytes∧∀ x ∈ l,Ok x):=by
 intro H enc w sp held fuel cs x hx hw;rcases DataW.trod_slice ht hx with ⟨rfl,rfl⟩|⟨a,len,cap,elems,rest,m,rfl,rfl,rfl,hbase,hle,hcap,hel,hev,_,_⟩
 ·exact ⟨[],⟨by simp,fun x hx=>by cases hx⟩,Cells.one1 rfl ⟨none,0,rfl,Nat.le_refl 0,fun h=>absurd h (Nat.lt_irrefl 0)⟩⟩
 ·simp only [DataW.weights,ht,List.all_cons,List.all_append,Bool.and_eq_true,decide_eq_true_eq,List.length_map,hb] at hw;obtain ⟨hw1,hw2,_⟩:=hw;have hall:=rp hw2;have each:∀ i,i<len→∃ y:α,Ok y∧∃ c,c.length=sz∧(∀ j,j<sz→w.cell? ((a.add (i * sz)).add j)=c[j]?)∧Cells w c (E y):=by
   intro i hi;have:=hev i hi;rw [hs,List.getElem?_eq_getElem (by omega),Option.bind_eq_some_iff] at this;obtain ⟨c,hc,htr⟩:=this;obtain ⟨_,hlen,hcell⟩:=World.cells?_some hc;obtain ⟨y,hy,hcy⟩:=h H enc w sp held m c _ htr (hall _ (List.mem_map_of_mem (List.getElem_mem _)));exact ⟨y,hy,c,hlen,hcell,hcy⟩
  obtain ⟨l,hl,hR⟩:=xS len each;refine ⟨l,⟨Nat.le_trans (by grind) hw1,fun y hy => ?_⟩,Cells.one1 rfl ⟨some a,cap,by rw [hl],by omega,fun hp => ?_⟩⟩
  ·obtain ⟨i,hi,rfl⟩:=List.getElem_of_mem hy;grind
  ·rw [hl] at hp;obtain ⟨b,o,sp0⟩:=a;obtain ⟨_,c,hlc,hc,hcc⟩:=hR 0 hp;have h0:=hc 0 hpos;rw [List.getElem?_eq_getElem (by omega)] at h0;have hspot:sp0=none:=by simpa [Addr.add] using World.cell?_spot h0
   subst hspot;refine ⟨b,o,rfl, ?_,fun i hi j hj => ?_⟩
   ·grind [World.cell?,Addr.add]
   ·rw [hl] at hi;obtain ⟨_,c,hlc,hc,hcc⟩:=hR i hi;have hj':=hc j hj;rw [List.getElem?_eq_getElem (by omega)] at hj';have e1:(Addr.add (Addr.add ⟨b,o,none⟩ (i * sz)) j)=⟨b,o+(i * sz+j),none⟩:=by
     unfold Addr.add;by_cases h1:i * sz=0 <;> by_cases h2:j=0 <;> simp [h1,h2,Nat.add_assoc]
    rw [e1] at hj';have o1:=hcc.one j (by omega);have d1:=hcc.den j (by omega);rw [List.getD_eq_getElem?_getD,List.getElem?_eq_getElem (by omega),Option.getD_some] at o1;rw [List.getD_eq_getElem?_getD (l:=c),List.getElem?_eq_getElem (by omega),Option.getD_some] at d1;exact ⟨_,hj',o1,d1⟩
section
variable {H:Type} {enc:TypeId × Value→H} {P:Program}
end
end Go.SL
namespace Go.Proofs.YtdjmpacladhijaaGreatDoor
open Go Go.SL
open Go.RowKit (wrap64)
noncomputable def cW (os : Os) : World := { World.holding Tryz.prog os ⟨#[], #[], []⟩ with heap := (((((World.holding Tryz.prog os ⟨#[], #[], []⟩).heap).modify 0 fun
   | .cells _ t fr => .cells #[.string ⟨#[]⟩, .string ⟨#[110,111,114,109,97,108]⟩, .string ⟨#[109,117,108,116,105,112,108,121]⟩, .string ⟨#[115,99,114,101,101,110]⟩, .string ⟨#[111,118,101,114,108,97,121]⟩, .string ⟨#[100,97,114,107,101,110]⟩, .string ⟨#[108,105,103,104,116,101,110]⟩, .string ⟨#[99,111,108,111,114,45,100,111,100,103,101]⟩, .string ⟨#[99,111,108,111,114,45,98,117,114,110]⟩, .string ⟨#[104,97,114,100,45,108,105,103,104,116]⟩, .string ⟨#[115,111,102,116,45,108,105,103,104,116]⟩, .string ⟨#[100,105,102,102,101,114,101,110,99,101]⟩, .string ⟨#[101,120,99,108,117,115,105,111,110]⟩] t fr
   | o=>o)).modify 1 fun
   | .cells _ t fr => .cells #[.string ⟨#[]⟩, .int .i64 0, .int .i64 0, .int .i64 0, .string ⟨#[99,108,101,97,114]⟩, .int .i64 0, .int .i64 0, .int .i64 0, .string ⟨#[115,114,99]⟩, .int .i64 1, .int .i64 0, .int .i64 1, .string ⟨#[100,115,116]⟩, .int .i64 0, .int .i64 1, .int .i64 2, .string ⟨#[115,114,99,45,111,118,101,114]⟩, .int .i64 1, .int .i64 3, .int .i64 3, .string ⟨#[100,115,116,45,111,118,101,114]⟩, .int .i64 3, .int .i64 1, .int .i64 3, .string ⟨#[115,114,99,45,105,110]⟩, .int .i64 2, .int .i64 0, .int .i64 4, .string ⟨#[100,115,116,45,105,110]⟩, .int .i64 0, .int .i64 2, .int .i64 4, .string ⟨#[115,114,99,45,111,117,116]⟩, .int .i64 3, .int .i64 0, .int .i64 1, .string ⟨#[100,115,116,45,111,117,116]⟩, .int .i64 0, .int .i64 3, .int .i64 2, .string ⟨#[115,114,99,45,97,116,111,112]⟩, .int .i64 2, .int .i64 3, .int .i64 2, .string ⟨#[100,115,116,45,97,116,111,112]⟩, .int .i64 3, .int .i64 2, .int .i64 1, .string ⟨#[120,111,114]⟩, .int .i64 3, .int .i64 3, .int .i64 3] t fr
   | o=>o) }
theorem a3i {n:Int} (h:(Lit.int .i64 n).wf=true):i64 n:=bounds_i64 h
theorem a0Y {n:Int} (h:(Lit.int .u16 n).wf=true):u16 n:=bounds_u16 h
theorem zH {α:Type} [Inhabited α] {p:α→Prop} {l:List α} (h:∀ x ∈ l,p x) (i:Nat) (hi:i<l.length):p (l.getD i default):=by grind
theorem Gb {n b:Nat} (hb:0<b) (h:n * b≤reachBytes):n≤4611686018427387904:=by
 have:n≤n * b:=Nat.le_mul_of_pos_right _ hb;grind [reachBytes]
theorem dt:ri Sg.P 3 (fun n=>[PI n]) i64:=(Nd (k := .i64) (by kernel_rfl)).to id (fun _=>rfl) (fun _ h=>a3i h)
theorem CP:ri Sg.P 31 (fun n=>[PU n]) u16:=(Nd (k := .u16) (by kernel_rfl)).to id (fun _=>rfl) (fun _ h=>a0Y h)
theorem Es:ri Sg.P 22 (fun l=>[dq l]) (fun l=>l.length≤4611686018427387904∧∀ x ∈ l,i64 x) :=
 (sK (sz:=1) (by8:=8) (by kernel_rfl) (by kernel_rfl) (by decide) (by kernel_rfl) dt).to id (fun _=>rfl) (fun _ h=>⟨Gb (by decide) h.1,h.2⟩)
theorem a5h:ri Sg.P 95 ZD RawOk:=by
 refine ri.to (gI ?_ ?_ (aO dt rfl (aO dt rfl (aO dt rfl (aO dt rfl (aO dt rfl (aO dt rfl (aO dt rfl (aO dt rfl (aO dt rfl (aO dt rfl (aO dt rfl jz))))))))))))
  (fun (a,b,c,d,e,f,g,h,i,j,k,_)=>(⟨a,b,c,d,e,f,g,h,i,j,k⟩:Raw)) (fun _=>rfl) ?_
 ·kernel_rfl
 ·kernel_rfl
 ·rintro _ ⟨h1,h2,h3,h4,h5,h6,h7,h8,h9,h10,h11,_⟩;exact ⟨h1,h2,h3,h4,h5,h6,h7,h8,h9,h10,h11⟩
theorem a8r:ri Sg.P 98 n5E N5ok:=by
 refine ri.to (gI ?_ ?_ (aO dt rfl (aO dt rfl (aO dt rfl (aO dt rfl (aO dt rfl jz)))))) (fun (a,b,c,d,e,_)=>(⟨a,b,c,d,e⟩:N5)) (fun _=>rfl) ?_
 ·kernel_rfl
 ·kernel_rfl
 ·rintro _ ⟨h1,h2,h3,h4,h5,_⟩;exact ⟨h1,h2,h3,h4,h5⟩
theorem a6F:ri Sg.P 27 (fun l=>[n5L l]) (fun l=>l.length≤4611686018427387904∧∀ x ∈ l,N5ok x) :=
 (sK (sz:=5) (by8:=40) (by kernel_rfl) (by kernel_rfl) (by decide) (by kernel_rfl) a8r).to id (fun _=>rfl) (fun _ h=>⟨Gb (by decide) h.1,h.2⟩)
theorem UE:ri Sg.P 29 CD RowOk:=by
 refine ri.to (gI ?_ ?_ (aO dt rfl (aO a6F rfl jz))) (fun (a,b,_)=>(⟨a,b⟩:Row)) (fun _=>rfl) ?_
 ·kernel_rfl
 ·kernel_rfl
 ·rintro _ ⟨h1,h2,_⟩;exact ⟨h1,zH h2.2,h2.1⟩
theorem a6Z:ri Sg.P 84 Uh PicOk:=by
 refine ri.to (gI ?_ ?_ (aO dt rfl (aO dt rfl (aO dt rfl (aO UE rfl jz))))) (fun (a,b,c,d,_)=>(⟨a,b,c,d⟩:Pic)) (fun _=>rfl) ?_
 ·kernel_rfl
 ·kernel_rfl
 ·rintro _ ⟨h1,h2,h3,h4,_⟩;exact ⟨h1,h2,h3,h4⟩
theorem a1n:ri Sg.P 23 (fun l=>[a3b l]) (fun l=>l.length≤4611686018427387904∧∀ x ∈ l,PicOk x) :=
 (sK (sz:=5) (by8:=56) (by kernel_rfl) (by kernel_rfl) (by decide) (by kernel_rfl) a6Z).to id (fun _=>rfl) (fun _ h=>⟨Gb (by decide) h.1,h.2⟩)
theorem a2H:ri Sg.P 24 (fun l=>[a3d l]) (fun l=>l.length≤4611686018427387904∧∀ x ∈ l,RawOk x) :=
 (sK (sz:=11) (by8:=88) (by kernel_rfl) (by kernel_rfl) (by decide) (by kernel_rfl) a5h).to id (fun _=>rfl) (fun _ h=>⟨Gb (by decide) h.1,h.2⟩)
theorem sV:ri Sg.P 26 fW SceneOk:=by
 refine ri.to (gI ?_ ?_ (aO dt rfl (aO dt rfl (aO dt rfl (aO dt rfl (aO dt rfl (aO dt rfl (aO dt rfl (aO Es rfl (aO a1n rfl (aO a2H rfl jz)))))))))))
  (fun (a,b,c,d,e,f,g,h,i,j,_)=>(⟨a,b,c,d,e,f,g,h,i,j⟩:Scene)) (fun _=>rfl) ?_
 ·kernel_rfl
 ·kernel_rfl
 ·rintro _ ⟨h1,h2,h3,h4,h5,h6,h7,h8,h9,h10,_⟩;exact ⟨h1,h2,h3,h4,h5,h6,h7,h8.1,h9.1,h10.1,zH h9.2,zH h10.2⟩
section
attribute [local go_sem] Int.toNat_natCast
def vj (r:Rect) (w h nx i:Int):Rect:=⟨r.x0+i % nx * w,r.y0+i / nx * h,if r.x1<r.x0+i % nx * w+w then r.x1 else r.x0+i % nx * w+w,if r.y1<r.y0+i / nx * h+h then r.y1 else r.y0+i / nx * h+h⟩
structure TileOk (r:Rect) (w h:Int):Prop where
 w:1≤w∧w≤r.x1 - r.x0
 h:1≤h∧h≤r.y1 - r.y0
theorem sE {r:Rect} {w h:Int} (hc:Small r) (ho:TileOk r w h):cP r w h=true:=by
 obtain ⟨x0,x1,y0,y1,hw,hh⟩:=hc;obtain ⟨h1,h2⟩:=ho;have he:aM r=false:=by
  simp only [aM,oN,Bool.or_eq_false_iff,Bool.not_eq_false',decide_eq_true_eq,decide_eq_false_iff_not];omega
 grind [cP]
theorem ME {W w:Int} {n:Int} (h:1≤W∧W≤n) (hw:1≤w):1≤(W - 1) / w+1∧(W - 1) / w+1≤n:=by
 have b1:0≤(W - 1) / w:=Int.ediv_nonneg (by omega) (by omega);have b2:(W - 1) / w≤W - 1:=Int.ediv_le_self _ (by omega);omega
theorem wV {r:Rect} {w h:Int} (hc:Small r) (ho:TileOk r w h):(1≤bA r w h∧bA r w h≤5)∧1≤cF r w h∧cF r w h≤4:=by
 have hok:=sE hc ho;unfold bA cF;rw [if_pos hok,if_pos hok];exact ⟨ME hc.w ho.w.1,ME hc.h ho.h.1⟩
theorem IJ {nx ny i w h : Int} (hx : 1 ≤ nx ∧ nx ≤ 5) (hy : 1 ≤ ny ∧ ny ≤ 4) (hi : 0 ≤ i ∧ i < nx * ny) (hw : 1 ≤ w ∧ w ≤ 5) (hh : 1 ≤ h ∧ h ≤ 4) :
  (0≤i / nx∧i / nx<ny)∧(0≤i % nx∧i % nx<nx)∧(0≤i % nx * w∧i % nx * w≤25)∧0≤i / nx * h∧i / nx * h≤16:=by
 have b1:0≤i / nx:=Int.ediv_nonneg (by omega) (by omega);have b2:i / nx<ny:=Int.ediv_lt_of_lt_mul (by omega) (by grind);have b3:=Int.emod_nonneg i (show nx≠0 by omega);have b4:=Int.emod_lt_of_pos i (show 0<nx by omega);have b5:i % nx * w≤5 * 5:=Int.mul_le_mul (by omega) (by omega) (by omega) (by omega);have b6:i / nx * h≤4 * 4:=Int.mul_le_mul (by omega) (by omega) (by omega) (by omega);exact ⟨⟨b1,b2⟩,⟨b3,b4⟩,⟨Int.mul_nonneg b3 (by omega),by omega⟩,Int.mul_nonneg b1 (by omega),by omega⟩
theorem a0d (r : Rect) (w h i : Int) (hc : Small r) (ho : TileOk r w h) (hi : 0 ≤ i ∧ i < bA r w h * cF r w h) :
  aB Sg 103 [ag (aS r),I w,I h,I i] (fun x=>x = .tup [ag (aS (vj r w h (bA r w h) i)),B true]):=by
 have hct:=qo r w h;have hok:=sE hc ho;obtain ⟨htx,hty⟩:=wV hc ho;obtain ⟨x0,x1,y0,y1,hW,hH⟩:=hc;obtain ⟨hw,hh⟩:=ho;rw [hok] at hct;generalize bA r w h=nx at *
 generalize cF r w h=ny at *
 obtain ⟨⟨b1,b2⟩,⟨b3,b4⟩,⟨b5,b6⟩,b7,b8⟩:=IJ (w:=w) (h:=h) htx hty hi (by omega) (by omega);unfold vj;refine az Tryz.func103 [.cell 8 35, .tmp 9] ?_
 repeat' (first|((with_reducible refine vi (id:=4) [] ?_ (fun K hK => ?_));exact bZ;refine bV ?_)|refine aw ?_|refine an (fun K hK => ?_)|refine aa (hct) ?_|(refine aH (fun hb => ?_) (fun hb => ?_) <;> try exact ax)|(refine aq hK ?_;try clear hK K)|(refine pz hK ?_;try clear hK K))
 ·grind
 ·rfl
end
def GC (m:Image) (mx:Int):Prop:=ImgV m mx∨aV m=false∨m.solid=true
def fX (m:Image) (mx:Int):Int:=if dD m.w m.h=false then 6 else if aV m=false then 7 else if m.solid=true∧oD m.color mx=false then 8 else 0
theorem Aj {m:Image} {mx:Int} (h:ImgV m mx):fX m mx=0:=by
 have hf:=h.f;grind [aV,fX,oD,lA,xz]
theorem Qb {p:Pixel} {m:Int} (h:oD p m=true) (h0:0≤p.c0) (h1:0≤p.c1) (h2:0≤p.c2):PixV p m:=by
 unfold oD at h;rw [decide_eq_true_eq] at h;exact ⟨h0,h1,h2,h.1,h.2.1,h.2.2.1,h.2.2.2.1,h.2.2.2.2⟩
def Po (m:Image):Prop:=0≤m.color.c0∧0≤m.color.c1∧0≤m.color.c2
theorem Jv {m:Image} {mx:Int} (h:GC m mx) (hc:Po m) (h0:fX m mx=0):ImgV m mx:=by
 unfold fX at h0;split at h0
 ·cases h0
 split at h0
 ·cases h0
 split at h0
 ·cases h0
 rename_i q1 q2 q3;rcases h with h|h|h
 ·exact h
 ·grind
 ·refine ⟨by grind,fun x y _ _ _ _ => ?_⟩;rw [fy,if_pos h];refine Qb ?_ hc.1 hc.2.1 hc.2.2;grind
def gp (mx:Int):Nat→List Image→Int × Int
 | _,[]=>(0,0)
 | i,m :: l=>if fX m mx=0 then gp mx (i+1) l else (fX m mx,i)
def bz (s:Script):Int × Int:=if bJ s≠0 then (bJ s,0) else if (gp (aN s.bits) 0 s.images).1≠0 then gp (aN s.bits) 0 s.images else gu s
theorem yy {mx:Int}:∀ {l:List Image} {i:Nat},(∀ m ∈ l,fX m mx=0)→gp mx i l=(0,0)
 | [],_,_=>rfl
 | m :: l,i,h=>by rw [gp,if_pos (h m (List.mem_cons_self ..)),yy fun k hk=>h k (List.mem_cons_of_mem _ hk)]
theorem yK {mx:Int}:∀ {l:List Image} {i:Nat},(gp mx i l).1=0→∀ m ∈ l,fX m mx=0
 | [],_,_,_,hk=>by cases hk
 | m :: l,i,h,k,hk=>by
  rw [gp] at h;split at h
  ·rename_i q;rcases List.mem_cons.1 hk with e|e
   ·grind
   ·exact yK h k e
  omega
theorem yk {mx:Int} {l:List Image} {i:Nat} (hi:i<l.length):gp mx i (l.drop i)=if fX (l.getD i default) mx=0 then gp mx (i+1) (l.drop (i+1)) else (fX (l.getD i default) mx,i):=by rw [List.drop_eq_getElem_cons hi,gp,List.getD_eq_getElem?_getD,List.getElem?_eq_getElem hi];rfl
theorem Wb {s:Script} (h:∀ i:Nat,i<s.images.length→ImgV (s.images.getD i default) (aN s.bits)):sj s:=fun i h0 h1=>by grind [cH]
theorem yn {s:Script} (hT:∀ m ∈ s.images,GC m (aN s.bits)∧Po m) (h:(bz s).1=0):bJ s=0∧VOps s∧sj s∧gu s=(0,0):=by
 unfold bz at h;grind [gp,jK,Wb,Jv,yK,Dr]
theorem pP {s:Script} (V:VOps s) (h:sj s):bz s=(0,0):=by
 have e:gp (aN s.bits) 0 s.images=(0,0):=yy fun m hm=>by
  obtain ⟨i,hi,rfl⟩:=List.mem_iff_getElem.1 hm;have:=h i (by omega) (by omega);unfold cH at this;grind [Aj]
 unfold bz;rw [V.frame,if_neg (by decide),e,if_neg (by decide)];exact Dr V
structure EvOk (s:Script):Prop where
 len:ScriptLen s
 op:∀ o ∈ s.ops,0≤o.opacity
 im:bJ s=0→∀ m ∈ s.images,GC m (aN s.bits)∧Po m
def a0B (s:Script) (x y:Int):Int:=if (bz s).1≠0 then (bz s).1 else if VX s.canvas x y=false then 20 else 0
theorem qQ {s:Script} (h:bJ s=0):(s.bits=8∨s.bits=16)∧aM s.canvas=false:=by
 unfold bJ at h;grind
theorem iW {s:Script} (h:bJ s=0):Full (aN s.bits):=by
 obtain ⟨h1,_⟩:=qQ h;rcases h1 with h1|h1 <;> rw [h1]
 ·exact ⟨.inl rfl⟩
 ·exact ⟨.inr rfl⟩
theorem EvOk.pt {s:Script} (E:EvOk s) {x y:Int} (h:a0B s x y=0):Pt s (aN s.bits) x y:=by
 unfold a0B at h;split at h
 ·omega
 rename_i q;rw [Decidable.not_not] at q;split at h
 ·cases h
 rename_i hc;have hf:bJ s=0:=by
  refine Decidable.byContradiction fun hf => ?_;unfold bz at q;rw [if_pos hf] at q;exact hf q
 obtain ⟨_,V,I,_⟩:=yn (E.im hf) q;have hc:VX s.canvas x y=true:=by simpa using hc
 exact ⟨V,iW hf,rfl,I,E.op,(qQ hf).2,(YC.1 hc).2⟩
def NM (s:Script) (r:Rect) (q:Nat):Pixel:=ch s (r.x0+((q % (r.x1 - r.x0).toNat:Nat):Int)) (r.y0+((q / (r.x1 - r.x0).toNat:Nat):Int))
def cT (s:Script) (r:Rect) (n:Nat):List Pixel:=(List.range n).map (NM s r)
theorem oT {s:Script} {n:Nat}:jj s n=cT s s.canvas n:=rfl
theorem iS {s:Script} {r:Rect} {n:Nat}:(cT s r n).length=n:=by simp [cT]
theorem ir {s:Script} {r:Rect} {n i:Nat} (h:i<n):(cT s r n).getD i default=NM s r i:=by grind [cT]
theorem rY {s:Script} {r:Rect} {W a k:Nat} (hW:(W:Int)=r.x1 - r.x0) (hk:k<W):NM s r (a * W+k)=ch s (r.x0+(k:Nat)) (r.y0+(a:Nat)):=by
 have eW:(r.x1 - r.x0).toNat=W:=by omega
 have e1:(a * W+k) % W=k:=by rw [Nat.mul_comm,Nat.mul_add_mod];exact Nat.mod_eq_of_lt hk
 have e2:(a * W+k) / W=a:=by rw [Nat.mul_comm,Nat.mul_add_div (by omega),Nat.div_eq_of_lt hk];omega
 grind [NM]
structure InR (t c:Rect):Prop where
 x0:c.x0≤t.x0
 x1:t.x1≤c.x1
 y0:c.y0≤t.y0
 y1:t.y1≤c.y1
 w:t.x0<t.x1
 h:t.y0<t.y1
theorem InR.pt {t c:Rect} (h:InR t c) {x y:Int} (hx:jo t x y):jo c x y:=by
 obtain ⟨h1,h2,h3,h4,h5,h6⟩:=h;grind [jo]
theorem InR.empty {t c:Rect} (h:InR t c) (hc:Small c):aM t=false:=by
 obtain ⟨h1,h2,h3,h4,h5,h6⟩:=h;obtain ⟨x0,x1,y0,y1,hW,hH⟩:=hc;simp only [aM,oN,Bool.or_eq_false_iff,Bool.not_eq_false',decide_eq_true_eq,decide_eq_false_iff_not];omega
theorem MY {r:Rect} {w h i:Int} (hc:Small r) (ho:TileOk r w h) (hi:0≤i∧i<bA r w h * cF r w h):InR (vj r w h (bA r w h) i) r∧(vj r w h (bA r w h) i).x1 - (vj r w h (bA r w h) i).x0≤w:=by
 obtain ⟨htx,hty⟩:=wV hc ho;have hok:=sE hc ho;obtain ⟨x0,x1,y0,y1,hW,hH⟩:=hc;obtain ⟨hw,hh⟩:=ho;obtain ⟨⟨b1,b2⟩,⟨b3,b4⟩,⟨b5,b6⟩,b7,b8⟩:=IJ (w:=w) (h:=h) htx hty hi (by omega) (by omega);have ex:bA r w h=(r.x1 - r.x0 - 1) / w+1:=by unfold bA;rw [if_pos hok]
 have ey:cF r w h=(r.y1 - r.y0 - 1) / h+1:=by unfold cF;rw [if_pos hok]
 have c1:i % bA r w h * w≤(r.x1 - r.x0 - 1) / w * w:=Int.mul_le_mul_of_nonneg_right (by omega) (by omega);have c2:(r.x1 - r.x0 - 1) / w * w≤r.x1 - r.x0 - 1:=Int.ediv_mul_le _ (by omega);have c3:i / bA r w h * h≤(r.y1 - r.y0 - 1) / h * h:=Int.mul_le_mul_of_nonneg_right (by omega) (by omega);have c4:(r.y1 - r.y0 - 1) / h * h≤r.y1 - r.y0 - 1:=Int.ediv_mul_le _ (by omega);unfold vj;generalize i % bA r w h * w=u at *
 generalize i / bA r w h * h=v at *
 refine ⟨⟨?_, ?_, ?_, ?_, ?_, ?_⟩, ?_⟩ <;> dsimp only <;> (try split) <;> omega
theorem Rw {r:Rect} {w h x y:Int} (hc:Small r) (ho:TileOk r w h) (hxy:jo r x y):∃ k,(0≤k∧k<bA r w h * cF r w h)∧jo (vj r w h (bA r w h) k) x y:=by
 have hok:=sE hc ho;obtain ⟨x0,x1,y0,y1,hW,hH⟩:=hc;obtain ⟨hw,hh⟩:=ho;obtain ⟨p1,p2,p3,p4⟩:=hxy;have ex:bA r w h=(r.x1 - r.x0 - 1) / w+1:=by unfold bA;rw [if_pos hok]
 have ey:cF r w h=(r.y1 - r.y0 - 1) / h+1:=by unfold cF;rw [if_pos hok]
 have a0:0≤(x - r.x0) / w:=Int.ediv_nonneg (by omega) (by omega);have a1:(x - r.x0) / w≤(r.x1 - r.x0 - 1) / w:=Int.ediv_le_ediv (by omega) (by omega);have a2:=Int.mul_ediv_add_emod (x - r.x0) w;have a3:=Int.emod_nonneg (x - r.x0) (show w≠0 by omega);have a4:=Int.emod_lt_of_pos (x - r.x0) (show 0<w by omega);have d0:0≤(y - r.y0) / h:=Int.ediv_nonneg (by omega) (by omega);have d1:(y - r.y0) / h≤(r.y1 - r.y0 - 1) / h:=Int.ediv_le_ediv (by omega) (by omega);have d2:=Int.mul_ediv_add_emod (y - r.y0) h;have d3:=Int.emod_nonneg (y - r.y0) (show h≠0 by omega);have d4:=Int.emod_lt_of_pos (y - r.y0) (show 0<h by omega);rw [Int.mul_comm] at a2 d2;have hnx:0<bA r w h:=by
  have:0≤(r.x1 - r.x0 - 1) / w:=Int.ediv_nonneg (by omega) (by omega);omega
 generalize (x - r.x0) / w=a at *
 generalize (y - r.y0) / h=b at *
 have e1:(a+b * bA r w h) / bA r w h=b:=by rw [Int.add_mul_ediv_right _ _ (by omega),Int.ediv_eq_zero_of_lt (by omega) (by omega)];omega
 have e2:(a+b * bA r w h) % bA r w h=a:=by rw [Int.add_mul_emod_self_right,Int.emod_eq_of_lt (by omega) (by omega)]
 have e3:b * bA r w h≤(cF r w h - 1) * bA r w h:=Int.mul_le_mul_of_nonneg_right (by omega) (by omega);have e4:(cF r w h - 1) * bA r w h=bA r w h * cF r w h - bA r w h:=by rw [Int.sub_mul,Int.one_mul,Int.mul_comm]
 have e5:0≤b * bA r w h:=Int.mul_nonneg d0 (by omega);refine ⟨a+b * bA r w h,⟨by omega,by omega⟩, ?_⟩;grind [jo,vj]
theorem Zy {l:List Int} {n:Int} (h:gj l n=true) {k:Int} (hk:0≤k∧k<n):k ∈ fC l n:=by
 unfold gj at h;rw [Bool.and_eq_true,decide_eq_true_eq,List.all_eq_true] at h;obtain ⟨⟨h0,h1,h2⟩,h3⟩:=h;have hlen:=nf (l:=l) (n:=n) h0 h2;generalize fC l n=L at *
 have key:∀ i,(hi:i<L.length)→(0≤L[i]∧L[i]<n)∧L[i] ∉ L.take i:=fun i hi=>by
  have:=h3 i (List.mem_range.2 (by omega));unfold oz at this;grind
 have nd:L.Nodup:=by
  rw [List.Nodup,List.pairwise_iff_getElem];intro i j hi hj hij e;refine (key j hj).2 ?_;rw [← e];exact List.mem_take_iff_getElem.2 ⟨i,by omega,rfl⟩
 refine Decidable.byContradiction fun hn => ?_;have nd2:(k :: L).Nodup:=List.nodup_cons.2 ⟨hn,nd⟩;have hsub:(k :: L) ⊆ nO n.toNat:=fun v hv=>by
  have hv:0≤v∧v<n:=by
   rcases List.mem_cons.1 hv with e|e
   ·omega
   ·obtain ⟨i,hi,rfl⟩:=List.mem_iff_getElem.1 e;grind
  unfold nO;exact List.mem_map.2 ⟨v.toNat,List.mem_range.2 (by omega),by omega⟩
 have:=List.Nodup.length_le_of_subset nd2 hsub;grind [nO,kS]
theorem sw {s:Script} (h:bJ s=0):(1≤s.tileW∧s.tileW≤s.canvas.x1 - s.canvas.x0)∧(1≤s.tileH∧s.tileH≤s.canvas.y1 - s.canvas.y0)∧gj s.order (bA s.canvas s.tileW s.tileH * cF s.canvas s.tileW s.tileH)=true:=by
 unfold bJ at h;split at h
 ·cases h
 split at h
 ·cases h
 grind [cP]
def gP (s:Script):Int:=bA s.canvas s.tileW s.tileH * cF s.canvas s.tileW s.tileH
def Vn (s:Script) (i:Int):Rect:=vj s.canvas s.tileW s.tileH (bA s.canvas s.tileW s.tileH) i
def ja (s:Script):List Rect:=(fC s.order (gP s)).map (Vn s)
structure FrOk (s:Script):Prop where
 c:Small s.canvas
 f:bJ s=0
theorem FrOk.t {s:Script} (h:FrOk s):TileOk s.canvas s.tileW s.tileH:=⟨(sw h.f).1,(sw h.f).2.1⟩
theorem FrOk.o {s:Script} (h:FrOk s):gj s.order (gP s)=true:=(sw h.f).2.2
theorem TP {l:List Int} {n:Int} (h:gj l n=true) {k:Int} (hk:k ∈ fC l n):0≤k∧k<n:=by
 unfold gj at h;rw [Bool.and_eq_true,decide_eq_true_eq,List.all_eq_true] at h;obtain ⟨⟨h0,h1,h2⟩,h3⟩:=h;have hlen:=nf (l:=l) (n:=n) h0 h2;obtain ⟨i,hi,rfl⟩:=List.mem_iff_getElem.1 hk;have:=h3 i (List.mem_range.2 (by omega));unfold oz at this;grind
theorem FrOk.n {s:Script} (h:FrOk s):1≤gP s∧gP s≤20:=by
 obtain ⟨⟨a,b⟩,c,d⟩:=wV h.c h.t;unfold gP;have:=Int.mul_le_mul b d (by omega) (by decide:(0:Int)≤5);have:=Int.mul_le_mul a c (by omega) (by omega);omega
theorem FrOk.len {s:Script} (h:FrOk s):((ja s).length:Int)=gP s∧((fC s.order (gP s)).length:Int)=gP s:=by
 have hn:=h.n;grind [gj,gP,o,fC,nf,ja]
theorem FrOk.tile {s:Script} (h:FrOk s) {i:Nat} (hi:i<(fC s.order (gP s)).length):(0≤(fC s.order (gP s)).getD i 0∧(fC s.order (gP s)).getD i 0<gP s)∧(ja s).getD i default=Vn s ((fC s.order (gP s)).getD i 0)∧InR (Vn s ((fC s.order (gP s)).getD i 0)) s.canvas:=by
 have hm:(fC s.order (gP s)).getD i 0 ∈ fC s.order (gP s):=by rw [List.getD_eq_getElem?_getD,List.getElem?_eq_getElem hi];exact List.getElem_mem _
 have hk:=TP h.o hm;refine ⟨hk, ?_,(MY h.c h.t hk).1⟩;grind [ja]
theorem FrOk.mem {s:Script} (h:FrOk s) {t:Rect} (ht:t ∈ ja s):InR t s.canvas:=by
 unfold ja at ht;obtain ⟨k,hk,rfl⟩:=List.mem_map.1 ht;exact (MY h.c h.t (TP h.o hk)).1
theorem FrOk.has {s:Script} (h:FrOk s) {x y:Int} (hxy:jo s.canvas x y):∃ t ∈ ja s,jo t x y:=by
 obtain ⟨k,hk,hin⟩:=Rw h.c h.t hxy;exact ⟨_,List.mem_map.2 ⟨k,Zy h.o hk,rfl⟩,hin⟩
def Hr (r:Rect) (x y:Int):Bool:=decide (r.x0≤x∧x<r.x1∧r.y0≤y∧y<r.y1)
def Jn (s:Script) (q:Nat):Int:=s.canvas.x0+((q % (s.canvas.x1 - s.canvas.x0).toNat:Nat):Int)
def Cs (s:Script) (q:Nat):Int:=s.canvas.y0+((q / (s.canvas.x1 - s.canvas.x0).toNat:Nat):Int)
def DV (s:Script) (L:List Rect) (q:Nat):Bool:=L.any fun t=>Hr t (Jn s q) (Cs s q)
def wA (s:Script) (L:List Rect) (r:Rect) (y:Int) (q:Nat):Pixel:=if DV s L q=true∨(Hr r (Jn s q) (Cs s q)=true∧Cs s q<y) then WS s q else bG
def wm (s:Script) (L:List Rect) (q:Nat):Pixel:=if DV s L q=true then WS s q else bG
theorem Ki {s:Script} {L:List Rect} {r:Rect}:wA s L r r.y0=wm s L:=by grind [wA,wm,DV,Hr]
theorem QN {s:Script} {L:List Rect} {r:Rect}:wA s L r r.y1=wm s (L ++ [r]):=by grind [wA,wm,DV,Hr,Jn,Cs]
theorem Rt {s:Script} (h:FrOk s) {q:Nat} (hq:(q:Int)<(s.canvas.x1 - s.canvas.x0) * (s.canvas.y1 - s.canvas.y0)):wm s (ja s) q=WS s q:=by
 obtain ⟨x0,x1,y0,y1,hw,hh⟩:=h.c;have e:(((s.canvas.x1 - s.canvas.x0).toNat:Nat):Int)=s.canvas.x1 - s.canvas.x0:=by omega
 have b1:q % (s.canvas.x1 - s.canvas.x0).toNat<(s.canvas.x1 - s.canvas.x0).toNat:=Nat.mod_lt _ (by omega);have b2:q / (s.canvas.x1 - s.canvas.x0).toNat<(s.canvas.y1 - s.canvas.y0).toNat:=by
  refine Nat.div_lt_of_lt_mul ?_;have:((s.canvas.x1 - s.canvas.x0).toNat * (s.canvas.y1 - s.canvas.y0).toNat:Nat)=((s.canvas.x1 - s.canvas.x0) * (s.canvas.y1 - s.canvas.y0)):=by rw [Int.natCast_mul,e,show (((s.canvas.y1 - s.canvas.y0).toNat:Nat):Int)=s.canvas.y1 - s.canvas.y0 by omega]
  omega
 have hin:jo s.canvas (Jn s q) (Cs s q):=by
  unfold jo Jn Cs;generalize q % (s.canvas.x1 - s.canvas.x0).toNat=a at *
  generalize q / (s.canvas.x1 - s.canvas.x0).toNat=b at *
  omega
 obtain ⟨t,ht,hxy⟩:=h.has hin;unfold wm;rw [if_pos];unfold DV;rw [List.any_eq_true];refine ⟨t,ht, ?_⟩;unfold Hr;exact decide_eq_true hxy
theorem Rk {s : Script} {L : List Rect} {r : Rect} {W a lo n : Nat} {y : Int} (hi : InR r s.canvas) (hW : (W : Int) = s.canvas.x1 - s.canvas.x0) (hy : r.y0 ≤ y ∧ y < r.y1) (ha : (a : Int) = y - s.canvas.y0) (hlo : (lo : Int) = a * W + r.x0 - s.canvas.x0) (hn : (n : Int) = r.x1 - r.x0) (q : Nat) :
  wA s L r (y+1) q=if lo≤q∧q<lo+n then WS s q else wA s L r y q:=by
 obtain ⟨h1,h2,h3,h4,h5,h6⟩:=hi;have eW:(s.canvas.x1 - s.canvas.x0).toNat=W:=by omega
 have hWp:0<W:=by omega
 have hd:=Nat.div_add_mod q W;have hm:=Nat.mod_lt q hWp;have hlo':((a * W:Nat):Int)=a * W:=Int.natCast_mul ..;have key:(lo≤q∧q<lo+n)↔(Hr r (Jn s q) (Cs s q)=true∧Cs s q=y):=by
  unfold Hr Jn Cs;rw [eW,decide_eq_true_eq];constructor
  ·intro ⟨k1,k2⟩;have k3:a * W≤q:=by omega
   have k4:q<(a+1) * W:=by rw [Nat.succ_mul];omega
   have k5:q / W=a:=by
    have q1:a≤q / W:=(Nat.le_div_iff_mul_le hWp).2 k3;have q2:q / W<a+1:=(Nat.div_lt_iff_lt_mul hWp).2 k4;omega
   grind
  ·grind
 grind [wA,DV,Hr,Jn,Cs]
theorem Sq {s : Script} {r : Rect} {W a b lo n k : Nat} {y : Int} (hi : InR r s.canvas) (hW : (W : Int) = s.canvas.x1 - s.canvas.x0) (hy : r.y0 ≤ y ∧ y < r.y1) (ha : (a : Int) = y - s.canvas.y0) (hb : (b : Int) = y - r.y0) (hlo : (lo : Int) = a * W + r.x0 - s.canvas.x0) (hn : (n : Int) = r.x1 - r.x0) (hk : k < n) :
  NM s r (b * n+k)=WS s (lo+k):=by
 obtain ⟨h1,h2,h3,h4,h5,h6⟩:=hi;have hlo':((a * W:Nat):Int)=a * W:=Int.natCast_mul ..;have e1:=rY (s:=s) (r:=r) (a:=b) hn hk;have e2:=rY (s:=s) (r:=s.canvas) (a:=a) (k:=(r.x0 - s.canvas.x0).toNat+k) hW (by omega);grind [NM,WS,ch]
def jE (s:Script):Image:=if (bz s).1=0 then cU s else ft
theorem EvOk.zero {s:Script} (E:EvOk s) (h:(bz s).1=0):bJ s=0∧VOps s∧sj s∧Full (aN s.bits):=by
 have hf:bJ s=0:=by
  refine Decidable.byContradiction fun hf => ?_;unfold bz at h;rw [if_pos hf] at h;exact hf h
 obtain ⟨a,b,c,d⟩:=yn (E.im hf) h;grind [iW]
theorem EvOk.ptz {s:Script} (E:EvOk s) (h:(bz s).1=0) {x y:Int} (hx:jo s.canvas x y):Pt s (aN s.bits) x y:=by
 obtain ⟨a,b,c,d⟩:=E.zero h;exact ⟨b,d,rfl,c,E.op,(qQ a).2,hx⟩
section
attribute [local go_sem] Int.toNat_natCast dA
def rj {α:Type} (enc:α→List PV) (f:Nat→α):Nat→Nat→PV:=fun i j=>(enc (f i)).getD j .any
theorem a0j {α:Type} {enc:α→List PV} {f:Nat→α} {i j:Nat}:rj enc f i j=(enc (f i)).getD j .any:=rfl
def wE (n:Nat) (f:Nat→Pixel):PV := .lst 5 n (rj aU f)
def Qg (n:Nat) (f:Nat→Acc):PV := .lst 6 n (rj dA f)
def Wz (n:Nat) (f:Nat→Int):PV := .lst 1 n (fun i _=>PU (f i))
attribute [go_sem] a0j wE Qg Wz
theorem pL {α:Type} {enc:α→List PV} {q:Nat→α} {i s:Nat} {g:Nat→Nat→PV} (hg:∀ j,j<s→(g 0 j).le ((enc (q i)).getD j .any)):∀ a,a<i+1→∀ j,j<s→(dV i (rj enc q) g a j).le (rj enc q a j):=fun a ha j hj=>by grind [PV.le,dV,rj,PV.le_refl]
theorem AZ (n : Nat) (f : Nat → Acc) (b : Nat → Pixel) (m : Int) (hm : Full m) (hn : n ≤ 1000) (h : ∀ k, k < n → AccV (f k) (b k) m) :
  aB Sg 156 [.c (.p (Qg n f)), .c (.p (wE n b)),U m] (fun r=>r = .tup [.c (.p (wE n fun k=>bU (f k) (b k) m)),B true]):=by
 have ht:True:=trivial;have hr:∀ k,k<n→aB Sg 189 [ag (dA (f k)),ag (aU (b k)),U m] (fun r=>r = .tup [ag (aU (bU (f k) (b k) m)),B true]):=fun k hk=>Kw (f k) (b k) m hm (h k hk);obtain ⟨q,hq⟩:∃ q:Nat→Pixel,q=fun k=>bU (f k) (b k) m:=⟨_,rfl⟩
 rw [← hq];have g0:((n:Int) != n)=false:=by simp
 refine az Tryz.func156 [.tmp 6, .tmp 7] ?_;repeat' (first|refine aj g0 ?_|refine aC ?_)
 refine aK (X:=Nat) (fun i=>aP [(0, .b (.c (.p (Qg n f)))),(1, .b (.c (.p (wE n b)))),(2, .b (U m)),(8, .b (.c (.own 1 i))),(18, .b (I n)),(19, .b (I i))] [(1, .arr 43 5 i (rj aU q))] 2) (fun i=>i≤n) (fun i=>n - i) 0 ?_ ?_ ?_
 ·omega
 ·refine ar [(1,none)] ?_ ?_;and_intros;all_goals try exact ak
 intro i hi;rcases Nat.lt_or_ge i n with hk|hk
 ·have g1:decide ((i:Int)<n)=true:=decide_eq_true (by omega);have hv:=hr i hk;repeat' (first|refine aj g1 ?_|(((with_reducible refine bT (id:=7) [(25,3),(29,3)] (by decide +kernel) (by decide +kernel) ?_ (fun K hK => ?_));exact bZ);(try simp (maxSteps:=999999)(disch:=omega) only [go_sem]);and_intros;(all_goals first|(refine hK _ ba ?_;clear hK K)|exact ai|skip))|refine bL ?_|((first|refine an (fun K hK => ?_)|refine aa (hv) ?_);and_intros;all_goals first|(refine hK _ ?_;clear hK K)|try exact ai))
  refine hK _ ba ?_;clear hK;repeat' (first|refine aj ht ?_|refine aC ?_)
  rw [ae];refine ao (i+1) ?_ (by omega) (by omega);refine ar [(1,some 4)] ?_ ?_;and_intros;all_goals try exact ak
  refine .inr (pL (enc:=aU) (q:=q) fun j hj => ?_);rw [hq];have hivl:j=0∨j=1∨j=2∨j=3∨j=4:=by omega
  rcases hivl with rfl|rfl|rfl|rfl|rfl <;> exact PV.le_refl _
 ·have g1:decide ((i:Int)<n)=false:=decide_eq_false (by omega);obtain rfl:i=n:=by omega
  repeat' (first|with_reducible exact cz|refine aj g1 ?_|refine aC ?_)
def Vp (m:Int) (k:Nat) (mk:Nat→Int):Nat→Int:=fun i=>if k=0 then m else mk i
theorem PT (n k : Nat) (f : Nat → Pixel) (mk : Nat → Int) (o m : Int) (hm : Full m) (hn : n ≤ 1000) (hk : k = 0 ∨ k = n) (hf : ∀ i, i < n → PixV (f i) m) (hmk : ∀ i, i < k → 0 ≤ mk i ∧ mk i ≤ m) (ho : 0 ≤ o) (hom : o ≤ m) :
  aB Sg 190 [.c (.p (wE n f)), .c (.p (Wz k mk)),U o,U m] (fun r=>r = .tup [.c (.p (wE n fun i=>bY (bY (f i) (Vp m k mk i) m) o m)),B true]):=by
 have ht:True:=trivial;have hr:∀ i,i<n→aB Sg 206 [ag (aU (f i)),U (Vp m k mk i),U o,U m] (fun r=>r = .tup [ag (aU (bY (bY (f i) (Vp m k mk i) m) o m)),B true]):=fun i hi=>by grind [Tz,Vp]
 obtain ⟨q,hq⟩:∃ q:Nat→Pixel,q=fun i=>bY (bY (f i) (Vp m k mk i) m) o m:=⟨_,rfl⟩
 have hr:∀ i,i<n→aB Sg 206 [ag (aU (f i)),U (Vp m k mk i),U o,U m] (fun r=>r = .tup [ag (aU (q i)),B true]):=by rw [hq];exact hr
 rw [← hq];clear hq;by_cases h0:k=0
 ·subst h0;have g0:((n:Int) != n)=false:=by simp
  have hr:∀ i,i<n→aB Sg 206 [ag (aU (f i)),U m,U o,U m] (fun r=>r = .tup [ag (aU (q i)),B true]):=fun i hi=>by grind [Vp]
  refine az Tryz.func190 [.tmp 8, .tmp 9] ?_
  repeat' (first|refine aC ?_|(refine aH (fun hb => ?_) (fun hb => ?_) <;> try exact ax))
  refine aK (X:=Nat) (fun i=>aP [(0, .b (.c (.p (wE n f)))),(1, .b (.c (.p (Wz 0 mk)))),(2, .b (U o)),(3, .b (U m)),(10, .b (.c (.own 1 i))),(26, .b (.c (.p (wE n f)))),(27, .b (I n)),(28, .b (I i))] [(1, .arr 43 5 i (rj aU q))] 2) (fun i=>i≤n) (fun i=>n - i) 0 ?_ ?_ ?_
  ·omega
  ·refine ar [(1,none)] ?_ ?_;and_intros;all_goals try exact ak
  intro i hi;rcases Nat.lt_or_ge i n with hk|hk
  ·have g1:decide ((i:Int)<n)=true:=decide_eq_true (by omega);have hv:=hr i hk;repeat' (first|refine aj g1 ?_|refine aw ?_|refine an (fun K hK => ?_)|refine aa (hv) ?_|(apply dC;(case hf=>rfl);(case hc=>exact du);(all_goals first|(intro hb;(try simp only [nR] at hb))|skip))|exact bd|(refine aq hK ?_;try clear hK K))
   rw [ae];refine ao (i+1) ?_ (by omega) (by omega);refine ar [(1,some 5)] ?_ ?_;and_intros;all_goals try exact ak
   refine .inr (pL (enc:=aU) (q:=q) fun j hj => ?_);have hivl:j=0∨j=1∨j=2∨j=3∨j=4:=by omega
   rcases hivl with rfl|rfl|rfl|rfl|rfl <;> exact PV.le_refl _
  ·have g1:decide ((i:Int)<n)=false:=decide_eq_false (by omega);obtain rfl:i=n:=by omega
   repeat' (first|with_reducible exact cz|refine aj g1 ?_|refine aC ?_)
 ·obtain rfl:k=n:=by omega
  have g0:((k:Int) != k)=false:=by simp
  have g2:decide ((k:Int)>0)=true:=decide_eq_true (by omega);have hr:∀ i,i<k→aB Sg 206 [ag (aU (f i)),U (mk i),U o,U m] (fun r=>r = .tup [ag (aU (q i)),B true]):=fun i hi=>by grind [Vp]
  refine az Tryz.func190 [.tmp 8, .tmp 9] ?_;repeat' (first|refine aj g0 ?_|refine aC ?_)
  refine aK (X:=Nat) (fun i=>aP [(0, .b (.c (.p (wE k f)))),(1, .b (.c (.p (Wz k mk)))),(2, .b (U o)),(3, .b (U m)),(10, .b (.c (.own 1 i))),(26, .b (.c (.p (wE k f)))),(27, .b (I k)),(28, .b (I i))] [(1, .arr 43 5 i (rj aU q))] 2) (fun i=>i≤k) (fun i=>k - i) 0 ?_ ?_ ?_
  ·omega
  ·refine ar [(1,none)] ?_ ?_;and_intros;all_goals try exact ak
  intro i hi;rcases Nat.lt_or_ge i k with hk|hk
  ·have g1:decide ((i:Int)<k)=true:=decide_eq_true (by omega);have hv:=hr i hk;repeat' (first|(apply iL;(case hc=>exact du);(case ht=>(simp only [Int.toNat_natCast,Int.reduceBEq,Int.reduceBNe,Int.reduceLT,Int.reduceLE,decide_true,decide_false,ur,And.intro g1 g2];done)))|(apply oZ;(case hc=>exact du);(case ht=>(simp only [Int.toNat_natCast,Int.reduceBEq,Int.reduceBNe,Int.reduceLT,Int.reduceLE,decide_true,decide_false,ur,And.intro g1 g2];done)))|refine aw ?_|refine an (fun K hK => ?_)|refine aa (hv) ?_|(refine aq hK ?_;try clear hK K))
   rw [ae];refine ao (i+1) ?_ (by omega) (by omega);refine ar [(1,some 5)] ?_ ?_;and_intros;all_goals try exact ak
   refine .inr (pL (enc:=aU) (q:=q) fun j hj => ?_);have hivl:j=0∨j=1∨j=2∨j=3∨j=4:=by omega
   rcases hivl with rfl|rfl|rfl|rfl|rfl <;> exact PV.le_refl _
  ·have g1:decide ((i:Int)<k)=false:=decide_eq_false (by omega);obtain rfl:i=k:=by omega
   repeat' (first|with_reducible exact cz|refine aj g1 ?_|refine aC ?_)
end
theorem xf (m:Image) (x y:Int) (hf:aV m=true) (hx:0≤x) (hxm:x<m.w) (hy:0≤y) (hym:y<m.h):aB Sg 84 [ag (aF m),I x,I y] (fun r=>r = .b (ag (aU (fy m x y)))):=by
 unfold fy;by_cases hs:m.solid=true
 ·rw [if_pos hs];refine az Tryz.func84 [.cell 6 43] ?_;repeat' (first|refine aj hs ?_|refine aC ?_)
  rfl
 ·rw [if_neg hs];have hs':m.solid=false:=by simpa using hs
  unfold aV at hf;simp only [Bool.and_eq_true] at hf;obtain ⟨_,⟨⟨⟨⟨⟨f0,f1⟩,f2⟩,f3⟩,f4⟩,_⟩⟩:=hf;obtain ⟨a0,b0,c0,d0⟩:=jH hs' f0 hx hxm hy hym;obtain ⟨a1,b1,c1,_⟩:=jH hs' f1 hx hxm hy hym;obtain ⟨a2,b2,c2,_⟩:=jH hs' f2 hx hxm hy hym;obtain ⟨a3,b3,c3,_⟩:=jH hs' f3 hx hxm hy hym;obtain ⟨a4,b4,c4,_⟩:=jH hs' f4 hx hxm hy hym;refine az Tryz.func84 [.cell 6 43] ?_;repeat' (first|(apply oZ;(case hc=>exact du);(case ht=>(simp only [Int.toNat_natCast,Int.reduceBEq,Int.reduceBNe,Int.reduceLT,Int.reduceLE,decide_true,decide_false,ur,hs'];done)))|refine aC ?_)
  refine aK (X:=Int) (fun k=>aP [(1, .b (I x)),(2, .b (I y)),(3, .b (.c (.ptr 0 0))),(6, .b (.c (.ptr 1 0))),(7, .b (.c (.ptr 2 0))),(15, .b (ag [PI m.p0.w,PI m.p0.h,PI m.p0.stride,nP m.p0.s,PI m.p1.w,PI m.p1.h,PI m.p1.stride,nP m.p1.s,PI m.p2.w,PI m.p2.h,PI m.p2.stride,nP m.p2.s,PI m.p3.w,PI m.p3.h,PI m.p3.stride,nP m.p3.s,PI m.p4.w,PI m.p4.h,PI m.p4.stride,nP m.p4.s])),(16, .b (I k))]
   [(0, .fix ((aF m).map CV.p)),(1, .fix ((aU bG).map CV.p)),(2, .fix [.p (PU (if 0<k then m.p0.s.getD (y * m.p0.stride+x).toNat 0 else 0)), .p (PU (if 1<k then m.p1.s.getD (y * m.p1.stride+x).toNat 0 else 0)), .p (PU (if 2<k then m.p2.s.getD (y * m.p2.stride+x).toNat 0 else 0)), .p (PU (if 3<k then m.p3.s.getD (y * m.p3.stride+x).toNat 0 else 0)), .p (PU (if 4<k then m.p4.s.getD (y * m.p4.stride+x).toNat 0 else 0))])] 3) (fun k=>0≤k∧k≤5) (fun k=>(5 - k).toNat) 0 ?_ ?_ ?_
  ·omega
  ·refine ar [(1,some 1),(2,some 2)] ?_ ?_;and_intros;all_goals try exact ak
  ·intro k hk;have hkv:k=0∨k=1∨k=2∨k=3∨k=4∨k=5:=by omega
   rcases hkv with rfl|rfl|rfl|rfl|rfl|rfl
   ·repeat' (first|(apply iL;(case hc=>exact du);(case ht=>(simp only [Int.toNat_natCast,Int.reduceBEq,Int.reduceBNe,Int.reduceLT,Int.reduceLE,decide_true,decide_false,ur,hs'];done)))|refine aC ?_)
    rw [ae];refine ao 1 ?_ (by omega) (by decide);refine ar [(1,some 1),(2,some 2)] ?_ ?_;and_intros;all_goals try exact ak
   ·repeat' (first|(apply iL;(case hc=>exact du);(case ht=>(simp only [Int.toNat_natCast,Int.reduceBEq,Int.reduceBNe,Int.reduceLT,Int.reduceLE,decide_true,decide_false,ur,hs'];done)))|refine aC ?_)
    rw [ae];refine ao 2 ?_ (by omega) (by decide);refine ar [(1,some 1),(2,some 2)] ?_ ?_;and_intros;all_goals try exact ak
   ·repeat' (first|(apply iL;(case hc=>exact du);(case ht=>(simp only [Int.toNat_natCast,Int.reduceBEq,Int.reduceBNe,Int.reduceLT,Int.reduceLE,decide_true,decide_false,ur,hs'];done)))|refine aC ?_)
    rw [ae];refine ao 3 ?_ (by omega) (by decide);refine ar [(1,some 1),(2,some 2)] ?_ ?_;and_intros;all_goals try exact ak
   ·repeat' (first|(apply iL;(case hc=>exact du);(case ht=>(simp only [Int.toNat_natCast,Int.reduceBEq,Int.reduceBNe,Int.reduceLT,Int.reduceLE,decide_true,decide_false,ur,hs'];done)))|refine aC ?_)
    rw [ae];refine ao 4 ?_ (by omega) (by decide);refine ar [(1,some 1),(2,some 2)] ?_ ?_;and_intros;all_goals try exact ak
   ·repeat' (first|(apply iL;(case hc=>exact du);(case ht=>(simp only [Int.toNat_natCast,Int.reduceBEq,Int.reduceBNe,Int.reduceLT,Int.reduceLE,decide_true,decide_false,ur,hs'];done)))|refine aC ?_)
    rw [ae];refine ao 5 ?_ (by omega) (by decide);refine ar [(1,some 1),(2,some 2)] ?_ ?_;and_intros;all_goals try exact ak
   ·repeat' (first|(apply oZ;(case hc=>exact du);(case ht=>(simp only [Int.toNat_natCast,Int.reduceBEq,Int.reduceBNe,Int.reduceLT,Int.reduceLE,decide_true,decide_false,ur,hs'];done)))|refine aC ?_)
    rfl
theorem a4e (m:Image) (x y:Int):aB Sg 194 [ag (aF m),I x,I y] (fun r=>r = .b (ag (aU (dN m x y)))):=by
 have hF:=pX m;unfold dN;by_cases h:aV m=false∨x<0∨m.w≤x∨y<0∨m.h≤y
 ·rw [if_pos h];have g:(!aV m || decide (x<0) || decide (x≥m.w) || decide (y<0) || decide (y≥m.h))=true:=by
   simp only [Bool.or_eq_true,Bool.not_eq_true',decide_eq_true_eq];rcases h with h|h|h|h|h
   ·exact .inl (.inl (.inl (.inl h)))
   ·exact .inl (.inl (.inl (.inr h)))
   ·exact .inl (.inl (.inr h))
   ·exact .inl (.inr h)
   ·exact .inr h
  refine az Tryz.func194 [.cell 6 43] ?_;repeat' (first|refine aj g ?_|refine aw ?_|refine an (fun K hK => ?_)|refine aa (hF) ?_|(refine aq hK ?_;try clear hK K))
  rfl
 ·rw [if_neg h];have hf:aV m=true:=by rw [← Bool.not_eq_false];exact fun q=>h (.inl q)
  have hp:=xf m x y hf (by omega) (by omega) (by omega) (by omega);rw [hf] at hF;have g1:decide (x<0)=false:=decide_eq_false (by omega);have g2:decide (x≥m.w)=false:=decide_eq_false (by omega);have g3:decide (y<0)=false:=decide_eq_false (by omega);have g4:decide (y≥m.h)=false:=decide_eq_false (by omega);generalize fy m x y=p at *
  refine az Tryz.func194 [.cell 6 43] ?_;repeat' (first|refine aj (And.intro g1 (And.intro g2 (And.intro g3 g4))) ?_|refine aw ?_|refine an (fun K hK => ?_)|refine aa (hF) ?_|refine aa (hp) ?_|(refine aq hK ?_;try clear hK K))
  rfl
theorem uu (m:Image):aB Sg 132 [ag (aF m)] (fun r=>r = .b (I (if dD m.w m.h=false then 6 else if aV m=false then 7 else 0))):=by
 have h1:=BU m.w m.h;have h2:=pX m;have ht:True:=trivial;cases hf:dD m.w m.h
 ·rw [hf] at h1;rw [if_pos rfl];refine az Tryz.func132 [.tmp 2] ?_;repeat' (first|with_reducible exact cz|refine aj ht ?_|refine aw ?_|refine an (fun K hK => ?_)|refine aa (h1) ?_|(refine aq hK ?_;try clear hK K))
 ·rw [hf] at h1;rw [if_neg (by decide)];cases hg:aV m
  ·rw [hg] at h2;rw [if_pos rfl];refine az Tryz.func132 [.tmp 2] ?_;repeat' (first|with_reducible exact cz|refine aj ht ?_|refine aw ?_|refine an (fun K hK => ?_)|refine aa (h1) ?_|refine aa (h2) ?_|(refine aq hK ?_;try clear hK K))
  ·rw [hg] at h2;rw [if_neg (by decide)];refine az Tryz.func132 [.tmp 2] ?_;repeat' (first|with_reducible exact cz|refine aj ht ?_|refine aw ?_|refine an (fun K hK => ?_)|refine aa (h1) ?_|refine aa (h2) ?_|(refine aq hK ?_;try clear hK K))
section
attribute [local go_sem] Int.toNat_natCast Aq
def a3Q (s:Script) (r:Rect):PV := .lst 1 s.ops.length (fun a _=>PB (lW s r a))
def HY (s:Script) (r:Rect) (i:Nat):Nat→Nat→PV:=fun a _=>PB (decide (a<i) && lW s r a)
theorem Jq {s:Script} {r:Rect} {i a:Nat} {v:Bool} (h:v=lW s r i):(if a=i then PB v else PB (decide (a<i) && lW s r a))=PB (decide (a<i+1) && lW s r a):=by
 by_cases e:a=i
 ·grind
 ·rw [if_neg e];by_cases q:a<i
  ·grind
  ·rw [decide_eq_false q,decide_eq_false (by omega)]
theorem Oo {s:Script} {r:Rect} {i e a:Nat} (hf:∀ j,i≤j→j≤e→lW s r j=false) (hi:i≤e):(if a=i then PB false else PB (decide (a<i) && lW s r a))=PB (decide (a<e+1) && lW s r a):=by grind
theorem SW {s:Script} {r:Rect} {a:Nat} (h:a<s.ops.length):HY s r s.ops.length a 0=PB (lW s r a):=by grind [HY]
theorem NL (s:Script) (r:Rect) (V:VOps s) (hs:ScriptLen s):aB Sg 104 [ag (ay s),ag (aS r)] (fun x=>x = .tup [.c (.p (a3Q s r)),I 0]):=by
 have ht:True:=trivial;have hn:=V.cnt;have W:=V.wf;have h1:=Bl s V hs;have h2:=qT s V;refine bo ?_;refine az Tryz.func104 [.tmp 4, .tmp 5] ?_;repeat' (first|refine aj ht ?_|refine aw ?_|refine an (fun K hK => ?_)|refine aa (h1) ?_|refine aa (h2) ?_|(refine aq hK ?_;try clear hK K))
 refine aK (X:=Nat) (fun i=>aP [(2, .b (.c (.ptr 0 0))),(3, .b (.c (.ptr 1 0))),(4, .b (.c (.p (.val (.slice none 0 0))))),(5, .b (I 0)),(6, .b (.c (.p (Aq s.ops.length (dr s))))),(8, .b (.c (.p (fL s.ops.length (aE s.ops))))),(10, .b (.c (.own 2 s.ops.length))),(11, .b (I i))]
  [(0, .fix ((ay s).map CV.p)),(1, .fix ((aS r).map CV.p)),(2, .arr 4 1 s.ops.length (HY s r i))] 3) (fun i=>i≤s.ops.length∧Reach s r i) (fun i=>s.ops.length - i) 0 ?_ ?_ ?_
 ·grind [Reach,bE,kn]
 ·refine ar [(1,some 1),(2,some 2)] ?_ ?_;and_intros;all_goals try exact ak
  grind [undef,HY,PV.le,PV.le_refl]
 rintro i ⟨hi,hR⟩;rcases Nat.lt_or_ge i s.ops.length with h|h
 ·have g1:decide ((i:Int)<s.ops.length)=true:=decide_eq_true (by omega);have h3:=kY (dr s i) r;have h4:=cq (ed (dr s i) r);have hact:lW s r i = !aM (ed (dr s i) r):=vn hR;by_cases hk:(ah s.ops i).kind=2
  ·have hk2:(s.ops.getD i default).kind=2:=hk;cases hm:aM (ed (dr s i) r) with
   | true =>
    rw [hm] at h4 hact;have hnm:kn s r i=false:=by unfold kn;rw [hm];rfl
    obtain ⟨e1,e2,e3,_⟩:=AJ (m:=0) (z:=fun _ _=>(bG,0)) W h (by omega) hR hnm;repeat' (first|refine aj (And.intro g1 hk2) ?_|refine aw ?_|refine an (fun K hK => ?_)|refine aa (h3) ?_|refine aa (h4) ?_|(refine aq hK ?_;try clear hK K))
    rw [ae];refine ao (aE s.ops i+1) ?_ ⟨by omega,e3⟩ (by omega);refine ar [(1,some 1),(2,some 2)] ?_ ?_;and_intros;all_goals try exact ak
    grind [HY,aE,PV.le,Oo,Sh,PV.le_refl]
   | false =>
    rw [hm] at h4 hact;repeat' (first|refine aj (And.intro g1 hk2) ?_|refine aw ?_|refine an (fun K hK => ?_)|refine aa (h3) ?_|refine aa (h4) ?_|(refine aq hK ?_;try clear hK K))
    rw [ae];refine ao (i+1) ?_ ⟨by omega,qj W h hR hact⟩ (by omega);refine ar [(1,some 1),(2,some 2)] ?_ ?_;and_intros;all_goals try exact ak
    grind [HY,PV.le,Jq,PV.le_refl]
  ·have hk2:((s.ops.getD i default).kind == 2)=false:=beq_eq_false_iff_ne.2 hk;have hRn:Reach s r (i+1):=by
    rcases W.kinds i h with k|k|k
    ·grind [Reach,bE,ec]
    ·omega
    ·grind [qj,DC]
   generalize aM (ed (dr s i) r)=v at *
   repeat' (first|refine aj (And.intro g1 hk2) ?_|refine aw ?_|refine an (fun K hK => ?_)|refine aa (h3) ?_|refine aa (h4) ?_|(refine aq hK ?_;try clear hK K))
   rw [ae];refine ao (i+1) ?_ ⟨by omega,hRn⟩ (by omega);refine ar [(1,some 1),(2,some 2)] ?_ ?_;and_intros;all_goals try exact ak
   grind [HY,PV.le,Jq,PV.le_refl]
 ·have g1:decide ((i:Int)<s.ops.length)=false:=decide_eq_false (by omega);obtain rfl:i=s.ops.length:=by omega
  repeat' (first|refine aj g1 ?_|refine aC ?_)
  refine cJ ⟨fg (gX fun a ha j hj => ?_),cD trivial,trivial⟩;grind [HY,SW]
end
theorem Of.small {c:Scene} {s:Script} (h:Of c s):Small s.canvas:=by rw [h.cv];exact cI c
theorem Mv {s:Script} (hc:Small s.canvas):ImgLen (cU s):=by
 obtain ⟨x0,x1,y0,y1,hw,hh⟩:=hc;have hl:((s.canvas.x1 - s.canvas.x0) * (s.canvas.y1 - s.canvas.y0)).toNat≤20:=by
  have:=Int.mul_le_mul hw.2 hh.2 (by omega) (by decide:(0:Int)≤5);omega
 have hn := @uO s ((s.canvas.x1 - s.canvas.x0) * (s.canvas.y1 - s.canvas.y0)).toNat
 unfold cU bR;split
 ·refine ⟨?_, ?_, ?_, ?_, ?_⟩ <;> (show (List.map _ _).length≤_;grind)
 ·exact ⟨Nat.zero_le _,Nat.zero_le _,Nat.zero_le _,Nat.zero_le _,Nat.zero_le _⟩
def jQ (s:Script) (r:Rect):Image:=bR (r.x1 - r.x0) (r.y1 - r.y0) (cT s r ((r.x1 - r.x0) * (r.y1 - r.y0)).toNat)
theorem vY {s:Script} {r:Rect} (hr:Small r):jQ s r=gN (r.x1 - r.x0) (r.y1 - r.y0) (cT s r ((r.x1 - r.x0) * (r.y1 - r.y0)).toNat)∧dD (r.x1 - r.x0) (r.y1 - r.y0)=true∧(((cT s r ((r.x1 - r.x0) * (r.y1 - r.y0)).toNat).length:Nat):Int)=(r.x1 - r.x0) * (r.y1 - r.y0):=by
 obtain ⟨x0,x1,y0,y1,hw,hh⟩:=hr;have h0:1≤(r.x1 - r.x0) * (r.y1 - r.y0):=by
  have:=Int.mul_le_mul hw.1 hh.1 (by omega) (by omega);omega
 have hok:dg (r.x1 - r.x0) (r.y1 - r.y0) (cT s r ((r.x1 - r.x0) * (r.y1 - r.y0)).toNat).length=true:=by
  rw [iS];exact kX hw hh rfl
 grind [dg,jQ,gN,bR]
theorem uZ {s:Script} {r:Rect} (hr:Small r) {x y:Int} (h:jo r x y):dN (jQ s r) (x - r.x0) (y - r.y0)=ch s x y:=by
 obtain ⟨e,hf,hl⟩:=vY (s:=s) hr;obtain ⟨x0,x1,y0,y1,hw,hh⟩:=hr;obtain ⟨p1,p2,p3,p4⟩:=h;rw [e];unfold dN;rw [mT hf hl];have hn:¬ (true=false∨x - r.x0<0∨(gN (r.x1 - r.x0) (r.y1 - r.y0) (cT s r ((r.x1 - r.x0) * (r.y1 - r.y0)).toNat)).w≤x - r.x0∨y - r.y0<0∨(gN (r.x1 - r.x0) (r.y1 - r.y0) (cT s r ((r.x1 - r.x0) * (r.y1 - r.y0)).toNat)).h≤y - r.y0):=by
  show ¬ (true=false∨x - r.x0<0∨r.x1 - r.x0≤x - r.x0∨y - r.y0<0∨r.y1 - r.y0≤y - r.y0);simp only [Bool.true_eq_false,false_or];omega
 rw [if_neg hn];obtain ⟨hi,e2⟩:=KJ hl (x:=x - r.x0) (y:=y - r.y0) (by omega) (by omega) (by omega) (by omega);rw [e2];rw [iS] at hi;rw [ir hi];obtain ⟨W,hW⟩:∃ W:Nat,(W:Int)=r.x1 - r.x0:=⟨(r.x1 - r.x0).toNat,by omega⟩
 obtain ⟨X,hX⟩:∃ X:Nat,x - r.x0=X:=⟨(x - r.x0).toNat,by omega⟩
 obtain ⟨Y,hY⟩:∃ Y:Nat,y - r.y0=Y:=⟨(y - r.y0).toNat,by omega⟩
 have ei:((y - r.y0) * (r.x1 - r.x0)+(x - r.x0)).toNat=Y * W+X:=by rw [hX,hY,← hW,← Int.natCast_mul,← Int.natCast_add,Int.toNat_natCast]
 grind [NM,rY]
theorem Of.sl {c:Scene} {s:Script} (h:Of c s):ScriptLen s:=by
 have h1:=(kj c).order;exact ⟨by rw [h.o];exact h1,Nat.le_trans h.n2 (by decide),Nat.le_trans h.V.cnt (by decide)⟩
theorem a4j {m:Image} {mx:Int} (h:ImgV m mx):Po m:=by
 cases hs:m.solid with
 | true=>have p:=xz h hs;exact ⟨p.n0,p.n1,p.n2⟩
 | false =>
  have hf:=h.f;unfold aV at hf;grind [bG,Po]
theorem Of.ev {c:Scene} {s:Script} (h:Of c s):EvOk s:=⟨h.sl,h.op,fun _ m hm=>by
 obtain ⟨i,hi,rfl⟩:=List.mem_iff_getElem.1 hm;have:=h.im i (by omega) (by omega);unfold cH at this;rw [Int.toNat_natCast,List.getD_eq_getElem?_getD,List.getElem?_eq_getElem hi] at this
 exact ⟨.inl this,a4j this⟩⟩
theorem KX {st : St} {f : FuncId} {args : List BV} {K : SV → St → Prop} {cs : List (Option PV)} {k e sz n : Nat} {g : Nat → Nat → PV} {q : Prop} (h : pB Sg f args cs k e sz n g) (hk : q) (hw : jB 0 st := by (first | exact IN | fail))
  (ho:xC k cs=true:=by rfl) (hr:Sg.rcv f=true:=by rfl) (hl:iy args:=by simp (maxSteps:=999999)(disch:=omega) only [go_sem]) (w:q→K (.b (.agg (jZ (.own st.nx n) cs))) (st.turn (aJ st.nx (.arr e sz n g) st.bx) (st.nx+1)):=by (first|(intro h;first|(simp (maxSteps:=999999)(disch:=omega) only [go_sem];exact h)|exact h)|fail)):dY Sg st f args (Sl.of K):=by
 refine dS (Tu h (bN hl) ho st.bx st.nx) hr (fun i hi => ?_) (by omega) (w hk);simp only [aJ];rw [if_neg (by omega)];exact hw.1 i (by omega)
end Go.Proofs.YtdjmpacladhijaaGreatDoor
