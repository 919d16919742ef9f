/- What the last texts need besides. -/
import Derived.Carry
import Derived.ChangeArms
import Derived.DataOpen
import Derived.DataReads
import Derived.KernelRfl
import Derived.Lib.LaidTab
import Derived.OpenShut
import Derived.ProofKit
import Derived.Test.YtdjmpacladhijaaGreatDoorRows
import Derived.WalkKit
import Derived.WideKeyArgs
import GoSem.ClaimJoined
import Derived.Test.YtdjmpacladhijaaGreatDoorM25
set_option linter.unusedSimpArgs false
set_option linter.unusedVariables false
namespace Go.SL
open Go Go.ChangeShapes
theorem weightsEach_at {H:Type} {P:Program}:∀ {ts:List TypeId} {ds:List (DataW H)},(DataW.weightsEach P ts ds).all (· ≤ reachBytes)=true→∀ (j:Nat) {t:TypeId} {d:DataW H},ts[j]?=some t→ds[j]?=some d→(DataW.weights P t d).all (· ≤ reachBytes)=true
 | [],_,_,j,t,d,h,_=>by simp at h
 | _ :: _,[],_,j,t,d,_,h=>by simp at h
 | t0 :: ts,d0 :: ds,h,0,t,d,ht,hd=>by
  grind [DataW.weights,DataW.weightsEach]
 | t0 :: ts,d0 :: ds,h,j+1,t,d,ht,hd=>by
  simp only [DataW.weightsEach,List.all_append,Bool.and_eq_true] at h
  exact weightsEach_at h.2 j (by grind) (by grind)
theorem ri.argN {α : Type} {P : Program} {t : TypeId} {E : α → List PV} {Ok : α → Prop} (h : ri P t E Ok) {H : Type} {enc : TypeId × Value → H} {w : World} {sp : Nat → Bool} {held : Bool} {us : Array Value} {d : DataW H} {ps : List MemPlace}
  (hd:DataW.Trod enc P w 0 sp held t (.agg us) d ps) (hw:(DataW.weights P t d).all (· ≤ reachBytes)=true):∃ a,Ok a∧di dd (· < w.heap.size) w (.agg ((E a).map CV.p)) (.agg us):=by
 obtain ⟨fuel,hf⟩:=hd
 obtain ⟨a,ha,hc⟩:=h H enc w sp held fuel _ _ hf hw
 have hlen:us.size=(E a).length:=by have:=hc.len;simpa [Value.cells] using this
 refine ⟨a,ha,us,rfl,by grind,fun j hj => ?_,fun j => ?_⟩
 ·have:=hc.one j (by grind [Value.cells])
  simp_all [Value.cells]
 ·by_cases hj:j<us.size
  ·have h1:=hc.den j (by grind [Value.cells])
   simp_all [cR,Value.cells]
  ·have e1:((E a).map CV.p).getD j .any=CV.any:=by
    rw [List.getD_eq_getElem?_getD,List.getElem?_eq_none (by simp;omega)];rfl
   rw [e1]
   simp [cR,bq]
def a8f:Lit→Value
 | .int k n => .int k n
 | .bool b => .bool b
 | .string s => .string ⟨s.toArray⟩
 | .float k b => .float k b
 | .nil => .nilIface
mutual
def HI {H:Type}:DataW H→List Value
 | .lit l=>[a8f l]
 | .agg parts=>DJ parts
 | .nil=>[]
 | .ptr _=>[]
 | .slice _ _=>[]
 | .iface _ _=>[]
 | .map _=>[]
 | .held _=>[]
def DJ {H:Type}:List (DataW H)→List Value
 | []=>[]
 | d :: r=>HI d ++ DJ r
end
def Lay (H:Type) (P:Program) (t:TypeId) (n:Nat) (d:DataW H):Prop :=
 ∀ (enc:TypeId × Value→H) (w:World) (sp:Nat→Bool) (held:Bool) (fuel:Nat) (cs:List Value) (ps:List MemPlace),DataW.trod enc P w 0 sp held fuel t cs=some (d,ps)→cs=HI d∧cs.length=n
def LayT (P:Program) (t:TypeId) (n:Nat):Prop:=P.cellsOf t=n∧∀ (H:Type) (d:DataW H),Lay H P t n d
theorem layT_int {P:Program} {t:TypeId} {k:IntKind} (ht:P.underlying t=some (.int k)) (hn:P.cellsOf t=1):LayT P t 1:=by
 refine ⟨hn,fun H d enc w sp held fuel cs ps h => ?_⟩
 obtain ⟨n,rfl,hx,_⟩:=DataW.trod_int ht h
 cases hx
 exact ⟨rfl,rfl⟩
theorem layT_str {P:Program} {t:TypeId} (ht:P.underlying t=some .string) (hn:P.cellsOf t=1):LayT P t 1:=by
 refine ⟨hn,fun H d enc w sp held fuel cs ps h => ?_⟩
 obtain ⟨s,rfl,hx,_⟩:=DataW.trod_string ht h
 cases hx
 exact ⟨by simp [HI,a8f],rfl⟩
def LayL (P:Program) (fs:List (TypeId × Nat)) (off n:Nat):Prop :=
 ∀ (H:Type) (enc:TypeId × Value→H) (w:World) (sp:Nat→Bool) (held:Bool) (fuel:Nat) (cs:List Value) (xs:List (DataW H × List MemPlace)),
  xs.length=fs.length→(∀ (i:Nat) (f:TypeId × Nat),fs[i]?=some f→DataW.trod enc P w 0 sp held fuel f.1 ((cs.drop f.2).take (P.cellsOf f.1))=xs[i]?) →
  (cs.drop off).take n=DJ (xs.map (·.1))
theorem layL_nil {P:Program} {off:Nat}:LayL P [] off 0:=by
 intro H enc w sp held fuel cs xs hl _
 grind [DJ]
theorem layL_cons {P:Program} {f:TypeId} {fs:List (TypeId × Nat)} {off k n:Nat} (h:LayT P f k) (hl:LayL P fs (off+k) n):LayL P ((f,off) :: fs) off (k+n):=by
 intro H enc w sp held fuel cs xs hlen hx
 obtain ⟨y,ys,rfl⟩:∃ y ys,xs=y :: ys:=by
  cases xs with
  | nil=>grind
  | cons y ys=>grind
 have h0:=hx 0 (f,off) rfl
 simp only [h.1] at h0
 simp only [List.getElem?_cons_zero] at h0
 have e0:=(h.2 H y.1 enc w sp held fuel _ y.2 h0).1
 have e1:=hl H enc w sp held fuel cs ys (by grind) (fun i g hg=>by have:=hx (i+1) g (by grind);grind)
 rw [List.take_add,List.drop_drop,e0,e1]
 rfl
theorem layT_struct {P:Program} {t:TypeId} {fs:List (TypeId × Nat)} {n:Nat} (ht:fieldsOf P t=some fs) (hn:P.cellsOf t=n) (h:LayL P fs 0 n):LayT P t n:=by
 refine ⟨hn,fun H d enc w sp held fuel cs ps hx => ?_⟩
 obtain ⟨xs,m,hd,hlen,hxl,hf,_⟩:=JF ht hx
 cases hd
 have:=h H enc w sp held m cs xs hxl hf
 grind [HI,DJ]
theorem lay_rows {H : Type} {P : Program} {e : TypeId} {k : Nat} (h : LayT P e k) {enc : TypeId × Value → H} {w : World} {sp : Nat → Bool} {held : Bool} {fuel : Nat} {cs : List Value} :
  ∀ (m off:Nat) (xs:List (DataW H × List MemPlace)),xs.length=m→(∀ i,i<m→DataW.trod enc P w 0 sp held fuel e ((cs.drop (off+i * k)).take k)=xs[i]?)→(cs.drop off).take (m * k)=DJ (xs.map (·.1))
 | 0,off,xs,hl,_=>by
  grind [DJ]
 | m+1,off,[],hl,_=>by simp at hl
 | m+1,off,y :: ys,hl,hx=>by
  have h0:=hx 0 (by omega)
  simp only [Nat.zero_mul,Nat.add_zero,List.getElem?_cons_zero] at h0
  have e0:=(h.2 H y.1 enc w sp held fuel _ y.2 h0).1
  have e1:=lay_rows h m (off+k) ys (by grind) (fun i hi=>by
   have:=hx (i+1) (by omega)
   rw [show off+(i+1) * k=off+k+i * k by grind] at this
   simpa using this)
  rw [show (m+1) * k=k+m * k by grind,List.take_add,List.drop_drop,e0,e1]
  rfl
theorem layT_arr {P:Program} {t e:TypeId} {m k n:Nat} (ht:P.underlying t=some (.array m e)) (hn:P.cellsOf t=n) (hm:n=m * k) (h:LayT P e k):LayT P t n:=by
 refine ⟨hn,fun H d enc w sp held fuel cs ps hx => ?_⟩
 cases fuel with
 | zero=>simp [DataW.trod] at hx
 | succ fuel =>
  simp only [DataW.trod,ht,h.1] at hx
  split at hx
  ·rename_i hl
   obtain ⟨xs,hmm,hxx⟩:=Option.map_eq_some_iff.1 hx
   cases hxx
   have hxl:xs.length=m:=by simpa using Lib.mapM_length hmm
   have:=lay_rows (k:=k) h (enc:=enc) (w:=w) (sp:=sp) (held:=held) (fuel:=fuel) (cs:=cs) m 0 xs hxl (fun i hi=>by
    obtain ⟨b,hb,hf⟩:=Lib.mapM_at hmm i i (by simp [hi])
    grind)
   grind [HI,DJ]
  ·cases hx
theorem laidVars_mem {P : Program} {w : World} : ∀ {l : List (String × DataW Unit)} {ps : List MemPlace}, DataW.LaidVars P w l ps → ∀ n d, (n, d) ∈ l →
  ∃ g t cs fuel p,P.globalNamed n=some g∧(P.globals[g]?).map (·.type)=some t∧w.var? P n=some cs∧DataW.trod (fun _=>()) P w 0 (fun _=>true) false fuel t cs.toList=some (d,p)
 | [],_,_,n,d,hm=>by cases hm
 | (n0,d0) :: r,ps,h,n,d,hm=>by
  obtain ⟨g,t,cs,fuel,p,q,h1,h2,h3,h4,h5,_⟩:=h
  cases hm with
  | head=>grind
  | tail _ hm=>exact laidVars_mem h5 n d hm
theorem laid_cells {P : Program} {w : World} {laid : List (String × DataW Unit)} (h : laidMet P laid w) {n : String} {d : DataW Unit} (hm : (n, d) ∈ laid) {g : Nat} {t : TypeId} {k : Nat} (hg : P.globalNamed n = some g)
  (hty:(P.globals[g]?).map (·.type)=some t) (hl:LayT P t k):g<w.heap.size∧∀ j,j<k→w.cell? ⟨g,j,none⟩=(HI d)[j]?:=by
 obtain ⟨ps,hv,_⟩:=h
 obtain ⟨g',t',cs,fuel,p,h1,h2,h3,h4⟩:=laidVars_mem hv n d hm
 obtain rfl:g=g':=Option.some.inj (hg.symm.trans h1)
 obtain rfl:t=t':=Option.some.inj (hty.symm.trans h2)
 obtain ⟨e1,e2⟩:=hl.2 Unit d _ _ _ _ _ _ _ h4
 unfold World.var? at h3
 grind [World.cell?]
theorem gl_vals {w : World} {g k : Nat} {d : DataW Unit} {vs : List Value} (h : g < w.heap.size ∧ ∀ j, j < k → w.cell? ⟨g, j, none⟩ = (HI d)[j]?) (hd : HI d = vs) (hk : vs.length = k) (h1 : vs.all Value.oneCell' = true) :
  g<w.heap.size∧∀ j,j<k→∃ x,w.cell? ⟨g,j,none⟩=some x∧x.oneCell'=true∧bq (· < w.heap.size) w ((vs.map PV.val).getD j .any) x:=by
 grind [World.cell?,Value.oneCell',bq,HI]
section
variable {H:Type} {enc:TypeId × Value→H} {P:Program}
theorem trodAll_below (hl : laidOutB P = true) {W W' : World} (hb : RowKit.Below W.heap.size W W') {sp : Nat → Bool} : ∀ {ts : List TypeId} {vs : List Value} {ds : List (DataW H)} {ps : List MemPlace},
  (ts.all fun t=>P.readableRec t && decide (t<P.types.size))=true→DataW.TrodAll enc P W 0 (fun _=>true) true ts vs ds ps→(∀ x ∈ ps,x.block<W.heap.size)→(∀ x ∈ ps,sp x.block=true)→DataW.TrodAll enc P W' 0 sp true ts vs ds ps
 | [],[],[],ps,_,h,_,_=>h
 | t :: ts,v :: vs,d :: ds,ps,hr,h,hlt,hsp=>by
  obtain ⟨p,q,h1,h2,rfl⟩:=h
  simp only [List.all_cons,Bool.and_eq_true,decide_eq_true_eq] at hr
  exact ⟨p,q,WideElems.Trod_stays hl hr.1.1 hr.1.2 h1 (fun x hx=>hb.same (hlt x (List.mem_append_left _ hx))) (fun x hx=>hsp x (List.mem_append_left _ hx)),
   trodAll_below hl hb hr.2 h2 (fun x hx=>hlt x (List.mem_append_right _ hx)) (fun x hx=>hsp x (List.mem_append_right _ hx)),rfl⟩
 | [],_ :: _,_,_,_,h,_,_=>absurd h (by simp [DataW.TrodAll])
 | [],[],_ :: _,_,_,h,_,_=>absurd h (by simp [DataW.TrodAll])
 | _ :: _,[],_,_,_,h,_,_=>absurd h (by simp [DataW.TrodAll])
 | _ :: _,_ :: _,[],_,_,h,_,_=>absurd h (by simp [DataW.TrodAll])
theorem post_true {fn : Func} {s : ChangeSpec} {fresh handsOn again : Bool} {W W' : World} {args : Array Value} {ds gs : List (DataW H)} {before : List MemPlace} {tb : TypeId} (hl : laidOutB P = true)
  (hread:(fn.params.toList.all fun t=>P.readableRec t && decide (t<P.types.size))=true) (hrt:fn.resultTypes = #[tb]) (htb:P.underlying tb=some .bool) (hv:s.vars=[])
  (hW:DataW.Whole enc P fn.params.toList s.vars false W args.toList ds gs before) (hs:s.fn H ds = { results:=[.lit (.bool true)],args:=ds }) (hb:RowKit.Below W.heap.size W W') :
  s.post enc P fn false fresh handsOn again W args (.bool true) W':=by
 have hlt:=fun p hp=>hW.lt p hp
 have hW0:=hW
 obtain ⟨p,q,hA,hV,rfl,hz,hn⟩:=hW0
 rw [hv] at hV
 obtain ⟨rfl,rfl⟩:=trodVars_none hV
 simp only [List.append_nil] at hW hlt hz hn
 have hone:(Value.bool true).resultList fn.resultTypes.size=[.bool true]:=by rw [hrt];rfl
 refine ⟨ds,[],p,[],p,[],hW, ?_, ?_, ?_,hb.frame _,fun _=>⟨?_,[.lit (.bool true)] ++ ds,[],p,⟨p,[], ?_, ?_,(List.append_nil p).symm, ?_,fun h=>by cases h⟩,fun x hx _=>hx⟩⟩
 ·grind [trodAll_mk1,RowKit.shut_bool]
 ·grind [trodAll_below]
 ·grind [DataW.TrodVars]
 ·grind [RowKit.ok_one,RowKit.okWide_bool_mk]
 ·have:=trodAll_append (enc:=enc) (P:=P) (w:=W') (base:=0) (spare:=fun _=>true) (held:=true) (trodAll_below hl hb hread hA hlt (fun _ _=>rfl)) (ts:=fn.resultTypes.toList) (vs:=(Value.bool true).resultList fn.resultTypes.size) (ds:=[.lit (.bool true)]) (p:=[]) (by grind [trodAll_mk1,RowKit.shut_bool])
  exact this
 ·rw [hv]
  rfl
 ·intro b off hm
  have:=hz b off hm
  rw [hb.frozen (p:=⟨b,off,none⟩) (hlt _ hm)]
  exact this
theorem den_nil {ok:Nat→Prop} {w:World}:∀ j,di dd ok w (([]:List BV).getD j .any) (([]:List Value).getD j undef):=fun j=>by simp [di,cR,bq]
theorem den_cons {ok : Nat → Prop} {w : World} {b : BV} {v : Value} {bs : List BV} {vs : List Value} (h : di dd ok w b v) (k : ∀ j, di dd ok w (bs.getD j .any) (vs.getD j undef)) :
  ∀ j,di dd ok w ((b :: bs).getD j .any) ((v :: vs).getD j undef)
 | 0=>h
 | j+1=>k j
theorem law_calls {S : Env} {f : FuncId} {fn : Func} {s : ChangeSpec} {bvs : List BV} {fresh handsOn again : Bool} {W : World} {args : Array Value} {ds gs : List (DataW H)} {before : List MemPlace} {tb : TypeId}
  (hp:aB S f bvs (fun r=>r = .b (.c (.p (.val (.bool true)))))) (hl:laidOutB S.P=true) (hread:(fn.params.toList.all fun t=>S.P.readableRec t && decide (t<S.P.types.size))=true)
  (hrt:fn.resultTypes = #[tb]) (htb:S.P.underlying tb=some .bool) (hv:s.vars=[]) (hW:DataW.Whole enc S.P fn.params.toList s.vars false W args.toList ds gs before)
  (hs:s.fn H ds = { results:=[.lit (.bool true)],args:=ds }) (hG:oP S (· < W.heap.size) W) (hn:args.toList.length=bvs.length) (hd:∀ j,di dd (· < W.heap.size) W (bvs.getD j .any) (args.toList.getD j undef)) :
  Calls S.P f args W fun e W'=>∃ v,e = .returned v∧s.post enc S.P fn false fresh handsOn again W args v W':=by
 have:=hp.2 (· < W.heap.size) W args (fun _ h=>h) hG (by omega) (fun j=>by simp_all)
 refine this.mono fun e W' h => ?_
 obtain ⟨v,r,he,hr,_,hb,hdn⟩:=h
 subst hr
 obtain rfl:v = .bool true:=hdn
 grind [post_true]
theorem arg_struct {α : Type} {t : TypeId} {E : α → List PV} {Ok : α → Prop} (C : ri P t E Ok) (ht : (fieldsOf P t).isSome = true) {W : World} {r : Reach} {b0 : Nat} {v : Value} {d : DataW H} {ps : List MemPlace} {sp : Nat → Bool} {held : Bool}
  (hval:Value.okWide P W r b0 t v) (hd:DataW.Trod enc P W 0 sp held t v d ps) (hw:(DataW.weights P t d).all (· ≤ reachBytes)=true):∃ a,Ok a∧di dd (· < W.heap.size) W (.agg ((E a).map CV.p)) v:=by
 unfold fieldsOf at ht
 unfold Value.okWide at hval
 split at ht
 ·rename_i fs hu
  rw [hu] at hval
  obtain ⟨cs,rfl,_⟩:=hval
  exact C.argN hd hw
 ·rename_i m e hu
  rw [hu] at hval
  obtain ⟨cs,rfl,_⟩:=hval
  exact C.argN hd hw
 ·cases ht
theorem arg_int {t : TypeId} {k : IntKind} (ht : P.underlying t = some (.int k)) {W : World} {r : Reach} {b0 : Nat} {v : Value} {d : DataW H} {ps : List MemPlace} {sp : Nat → Bool} {held : Bool}
  (hval:Value.okWide P W r b0 t v) (hd:DataW.Trod enc P W 0 sp held t v d ps):∃ n,(Lit.int k n).wf=true∧di dd (· < W.heap.size) W (.c (.p (.val (.int k n)))) v:=by
 obtain ⟨n,rfl,_,_,hw⟩:=open_int ht hval hd
 exact ⟨n,hw,rfl⟩
end
end Go.SL
set_option maxRecDepth 100000
namespace Go.Proofs.YtdjmpacladhijaaGreatDoor
open Go Go.SL
theorem lt256:LayT Tryz.prog 256 13:=layT_arr (e:=9) (m:=13) (k:=1) (by kernel_rfl) (by kernel_rfl) (by rfl) (layT_str (t:=9) (by kernel_rfl) (by kernel_rfl))
def gx0:List Value:=[.string ⟨#[]⟩, .string ⟨#[110,111,114,109,97,108]⟩, .string ⟨#[109,117,108,116,105,112,108,121]⟩, .string ⟨#[115,99,114,101,101,110]⟩, .string ⟨#[111,118,101,114,108,97,121]⟩, .string ⟨#[100,97,114,107,101,110]⟩, .string ⟨#[108,105,103,104,116,101,110]⟩, .string ⟨#[99,111,108,111,114,45,100,111,100,103,101]⟩, .string ⟨#[99,111,108,111,114,45,98,117,114,110]⟩, .string ⟨#[104,97,114,100,45,108,105,103,104,116]⟩, .string ⟨#[115,111,102,116,45,108,105,103,104,116]⟩, .string ⟨#[100,105,102,102,101,114,101,110,99,101]⟩, .string ⟨#[101,120,99,108,117,115,105,111,110]⟩]
theorem gxe0:g0=gx0.map PV.val:=rfl
theorem gok0 {laid:List (String × DataW Unit)} {W:World} (h:laidMet Tryz.prog laid W) (hm:∃ n,(n,Rows.laid_compositor_blend_names) ∈ laid∧Tryz.prog.globalNamed n=some 0):0<W.heap.size∧∀ j,j<13→∃ x,W.cell? ⟨0,j,none⟩=some x∧x.oneCell'=true∧bq (· < W.heap.size) W (g0.getD j .any) x:=by
 rw [gxe0]
 obtain ⟨n,hm,hn⟩:=hm
 exact gl_vals (vs:=gx0) (laid_cells h hm (g:=0) (t:=256) hn (by kernel_rfl) lt256) (by kernel_rfl) rfl (by kernel_rfl)
theorem lt253:LayT Tryz.prog 253 4:=layT_struct (fs:=[(9,0),(3,1),(3,2),(3,3)]) (by kernel_rfl) (by kernel_rfl) (layL_cons (layT_str (t:=9) (by kernel_rfl) (by kernel_rfl)) (layL_cons (layT_int (t:=3) (k := .i64) (by kernel_rfl) (by kernel_rfl)) (layL_cons (layT_int (t:=3) (k := .i64) (by kernel_rfl) (by kernel_rfl)) (layL_cons (layT_int (t:=3) (k := .i64) (by kernel_rfl) (by kernel_rfl)) (layL_nil)))))
theorem lt263:LayT Tryz.prog 263 52:=layT_arr (e:=253) (m:=13) (k:=4) (by kernel_rfl) (by kernel_rfl) (by rfl) (lt253)
def gx1:List Value:=[.string ⟨#[]⟩, .int .i64 0, .int .i64 0, .int .i64 0, .string ⟨#[99,108,101,97,114]⟩, .int .i64 0, .int .i64 0, .int .i64 0, .string ⟨#[115,114,99]⟩, .int .i64 1, .int .i64 0, .int .i64 1, .string ⟨#[100,115,116]⟩, .int .i64 0, .int .i64 1, .int .i64 2, .string ⟨#[115,114,99,45,111,118,101,114]⟩, .int .i64 1, .int .i64 3, .int .i64 3, .string ⟨#[100,115,116,45,111,118,101,114]⟩, .int .i64 3, .int .i64 1, .int .i64 3, .string ⟨#[115,114,99,45,105,110]⟩, .int .i64 2, .int .i64 0, .int .i64 4, .string ⟨#[100,115,116,45,105,110]⟩, .int .i64 0, .int .i64 2, .int .i64 4, .string ⟨#[115,114,99,45,111,117,116]⟩, .int .i64 3, .int .i64 0, .int .i64 1, .string ⟨#[100,115,116,45,111,117,116]⟩, .int .i64 0, .int .i64 3, .int .i64 2, .string ⟨#[115,114,99,45,97,116,111,112]⟩, .int .i64 2, .int .i64 3, .int .i64 2, .string ⟨#[100,115,116,45,97,116,111,112]⟩, .int .i64 3, .int .i64 2, .int .i64 1, .string ⟨#[120,111,114]⟩, .int .i64 3, .int .i64 3, .int .i64 3]
theorem gxe1:g1=gx1.map PV.val:=rfl
theorem gok1 {laid:List (String × DataW Unit)} {W:World} (h:laidMet Tryz.prog laid W) (hm:∃ n,(n,Rows.laid_compositor_operator_rules) ∈ laid∧Tryz.prog.globalNamed n=some 1):1<W.heap.size∧∀ j,j<52→∃ x,W.cell? ⟨1,j,none⟩=some x∧x.oneCell'=true∧bq (· < W.heap.size) W (g1.getD j .any) x:=by
 rw [gxe1]
 obtain ⟨n,hm,hn⟩:=hm
 exact gl_vals (vs:=gx1) (laid_cells h hm (g:=1) (t:=263) hn (by kernel_rfl) lt263) (by kernel_rfl) rfl (by kernel_rfl)
theorem glOk {laid:List (String × DataW Unit)} {W:World} (h:laidMet Tryz.prog laid W) (h0:∃ n,(n,Rows.laid_compositor_blend_names) ∈ laid∧Tryz.prog.globalNamed n=some 0:=by first|exact ⟨_, .head _,by kernel_rfl⟩|exact ⟨_, .tail _ (.head _),by kernel_rfl⟩|exact ⟨_, .tail _ (.tail _ (.head _)),by kernel_rfl⟩|exact ⟨_, .tail _ (.tail _ (.tail _ (.head _))),by kernel_rfl⟩) (h1:∃ n,(n,Rows.laid_compositor_operator_rules) ∈ laid∧Tryz.prog.globalNamed n=some 1:=by first|exact ⟨_, .head _,by kernel_rfl⟩|exact ⟨_, .tail _ (.head _),by kernel_rfl⟩|exact ⟨_, .tail _ (.tail _ (.head _)),by kernel_rfl⟩|exact ⟨_, .tail _ (.tail _ (.tail _ (.head _))),by kernel_rfl⟩):oP Sg (· < W.heap.size) W:=by
 intro g n f hg
 have hg:a2f g=some (n,f):=hg
 unfold a2f at hg
 split at hg
 ·rename_i e;subst e;cases hg;exact gok0 h h0
 split at hg
 ·rename_i e;subst e;cases hg;exact gok1 h h1
 cases hg
end Go.Proofs.YtdjmpacladhijaaGreatDoor
