/- Part of the proof: SlA, SlB, SlC, SlD. -/
import Derived.WalkKit
import Derived.Maps.AppendAt
namespace Go.SL
open Go
inductive PV where
 | val (v:Value)
 | lst (sz n:Nat) (f:Nat→Nat→PV)
 | fn (g n:Nat) (sz:Nat→Nat) (f:Nat→Nat→PV)
 | any
inductive CV where
 | p (x:PV)
 | ptr (id off:Nat)
 | pel (id sz i off:Nat)
 | own (id n:Nat)
 | ipt (sz:Nat) (g:Nat→PV) (off:Nat)
 | clo (f:Nat) (ps:List (Nat × Nat))
 | sub (id sz lo n:Nat)
inductive BV where
 | c (x:CV)
 | agg (cs:List CV)
inductive SV where
 | b (x:BV)
 | tup (vs:List BV)
 | grd (p:Bool) (x:BV)
 | any
inductive Bx where
 | fix (cs:List CV)
 | arr (e sz n:Nat) (f:Nat→Nat→PV)
def mZ:Value→Option Nat
 | .pointer (some a)=>some a.block
 | .slice (some a) _ _=>some a.block
 | _=>none
abbrev CV.any:CV := .p .any
abbrev BV.any:BV := .c (.p .any)
abbrev fQ:=Nat→Value
def bt (ok:Nat→Prop) (w:World):PV→Value→Prop
 | .val v,u=>u=v
 | .lst sz n f, u => ∃ (a : Option Addr) (c : Nat), u = .slice a n c ∧ n ≤ c ∧
   (0<n→∃ b o,a=some ⟨b,o,none⟩∧ok b ∧
    ∀ i,i<n→∀ j,j<sz→∃ x,w.cell? ⟨b,o+(i * sz+j),none⟩=some x∧x.oneCell'=true∧bt ok w (f i j) x)
 | .fn g n sz f, u => ∃ vs : Array Value, u = .func (.func g) #[] vs ∧ vs.size = n ∧
   ∀ i,i<n→∃ b o,vs.getD i undef = .pointer (some ⟨b,o,none⟩)∧ok b∧∀ j,j<sz i→∃ x,w.cell? ⟨b,o+j,none⟩=some x∧x.oneCell'=true∧bt ok w (f i j) x
 | .any,_=>True
def ca (ρ:fQ) (ok:Nat→Prop) (w:World):CV→Value→Prop
 | .p x,u=>bt ok w x u
 | .ptr id off,u=>∃ b o,ρ id = .pointer (some ⟨b,o,none⟩)∧u = .pointer (some ⟨b,o+off,none⟩)
 | .pel id sz i off,u=>∃ b m c,ρ id = .slice (some ⟨b,0,none⟩) m c∧u = .pointer (some ⟨b,i * sz+off,none⟩)
 | .own id n,u=>∃ a m c,ρ id = .slice a m c∧n≤m∧m≤c∧(0<m→∃ b,a=some ⟨b,0,none⟩)∧u = .slice a n c
 | .ipt sz g off, u => ∃ b o, u = .pointer (some ⟨b, o + off, none⟩) ∧ ok b ∧
   ∀ j,j<sz→∃ x,w.cell? ⟨b,o+j,none⟩=some x∧x.oneCell'=true∧bt ok w (g j) x
 | .clo f ps, u => ∃ vs : Array Value, u = .func (.func f) #[] vs ∧ vs.size = ps.length ∧
   ∀ j,j<ps.length→∃ b o,ρ (ps.getD j (0,0)).1 = .pointer (some ⟨b,o,none⟩)∧vs.getD j undef = .pointer (some ⟨b,o+(ps.getD j (0,0)).2,none⟩)
 | .sub id sz lo n,u=>∃ b m c c',ρ id = .slice (some ⟨b,0,none⟩) m c∧lo+n≤m∧u = .slice (some ⟨b,lo * sz,none⟩) n c'
def bR (ρ:fQ) (ok:Nat→Prop) (w:World):BV→Value→Prop
 | .c x,u=>ca ρ ok w x u
 | .agg cs,u=>∃ us:Array Value,u = .agg us∧us.size=cs.length∧(∀ j,j<us.size→(us.getD j undef).oneCell'=true)∧∀ j,ca ρ ok w (cs.getD j .any) (us.getD j undef)
def bu (ρ:fQ) (ok:Nat→Prop) (w:World):SV→Value→Prop
 | .b x,u=>bR ρ ok w x u
 | .tup vs,u=>∃ us:Array Value,u = .tuple us∧us.size=vs.length∧∀ j,bR ρ ok w (vs.getD j .any) (us.getD j undef)
 | .grd p x,u=>(p=true→bR ρ ok w x u)∧(p=false→u=undef)
 | .any,_=>True
def jG (ρ:fQ) (ok:Nat→Prop) (w:World):Bx→Value→Prop
 | .fix cs, v => ∃ b o cells t, v = .pointer (some ⟨b, o, none⟩) ∧ w.heap[b]? = some (.cells cells t (0, 0)) ∧ o + cs.length ≤ cells.size ∧
   (∀ j,j<cs.length→(cells.getD (o+j) undef).oneCell'=true)∧∀ j,ca ρ ok w (cs.getD j .any) (cells.getD (o+j) undef)
 | .arr e sz n f,v=>0<sz∧∃ xs,w.ownsRow 0 e sz v n xs∧(∀ x ∈ xs,x.oneCell'=true)∧∀ i,i<n→∀ j,j<sz→bt ok w (f i j) (xs.getD (i * sz+j) undef)
def CV.lt (nx:Nat):CV→Prop
 | .ptr id _=>id<nx
 | .pel id _ _ _=>id<nx
 | .own id _=>id<nx
 | .clo _ ps=>∀ p ∈ ps,p.1<nx
 | .sub id _ _ _=>id<nx
 | _=>True
def BV.lt (nx:Nat):BV→Prop
 | .c x=>x.lt nx
 | .agg cs=>∀ c ∈ cs,CV.lt nx c
def SV.lt (nx:Nat):SV→Prop
 | .b x=>x.lt nx
 | .tup vs=>∀ v ∈ vs,BV.lt nx v
 | .grd _ x=>x.lt nx
 | .any=>True
def Bx.lt (nx:Nat):Bx→Prop
 | .fix cs=>∀ c ∈ cs,CV.lt nx c
 | .arr .. => True
theorem CV.lt_mono {a b:Nat} (h:a≤b) {x:CV} (hx:x.lt a):x.lt b:=by
 cases x with
 | clo f ps=>exact fun p hp=>Nat.lt_of_lt_of_le (hx p hp) h
 | _=>simp only [CV.lt] at * <;> omega
theorem BV.lt_mono {a b:Nat} (h:a≤b) {x:BV} (hx:x.lt a):x.lt b:=by
 cases x with
 | c x=>exact CV.lt_mono h hx
 | agg cs=>exact fun c hc=>CV.lt_mono h (hx c hc)
theorem SV.lt_mono {a b:Nat} (h:a≤b) {x:SV} (hx:x.lt a):x.lt b:=by
 cases x with
 | b x=>exact BV.lt_mono h hx
 | tup vs=>exact fun c hc=>BV.lt_mono h (hx c hc)
 | grd p x=>exact BV.lt_mono h hx
 | any=>trivial
theorem Bx.lt_mono {a b:Nat} (h:a≤b) {x:Bx} (hx:x.lt a):x.lt b:=by
 cases x with
 | fix cs=>exact fun c hc=>CV.lt_mono h (hx c hc)
 | arr=>trivial
theorem CV.lt_getD {nx:Nat} {cs:List CV} (h:∀ c ∈ cs,CV.lt nx c) (j:Nat):CV.lt nx (cs.getD j .any):=by
 by_cases hj:j<cs.length
 ·rw [List.getD_eq_getElem?_getD,List.getElem?_eq_getElem hj];exact h _ (List.getElem_mem hj)
 ·rw [List.getD_eq_getElem?_getD,List.getElem?_eq_none (by omega)];trivial
theorem BV.lt_getD {nx:Nat} {cs:List BV} (h:∀ c ∈ cs,BV.lt nx c) (j:Nat):BV.lt nx (cs.getD j .any):=by
 by_cases hj:j<cs.length
 ·rw [List.getD_eq_getElem?_getD,List.getElem?_eq_getElem hj];exact h _ (List.getElem_mem hj)
 ·rw [List.getD_eq_getElem?_getD,List.getElem?_eq_none (by omega)];trivial
section mono
variable {ok ok':Nat→Prop} {w w':World} {ρ ρ':fQ} {nx:Nat}
def fG (ok ok':Nat→Prop) (w w':World):Prop:=∀ b,ok b→ok' b∧∀ o,w'.cell? ⟨b,o,none⟩=w.cell? ⟨b,o,none⟩
theorem bt.mono (h:fG ok ok' w w'):∀ {x:PV} {u:Value},bt ok w x u→bt ok' w' x u
 | .val _,_,hx=>hx
 | .any,_,_=>trivial
 | .lst sz n f,u,hx=>by
  obtain ⟨a,c,hu,hn,hb⟩:=hx
  refine ⟨a,c,hu,hn,fun h0 => ?_⟩
  obtain ⟨b,o,ha,hok,hc⟩:=hb h0
  refine ⟨b,o,ha,(h b hok).1,fun i hi j hj => ?_⟩
  obtain ⟨x,hx,h1,hd⟩:=hc i hi j hj
  exact ⟨x,((h b hok).2 _).trans hx,h1,bt.mono h hd⟩
 | .fn g n sz f,u,hx=>by
  obtain ⟨vs,hu,hn,hb⟩:=hx
  refine ⟨vs,hu,hn,fun i hi => ?_⟩
  obtain ⟨b,o,ha,hok,hc⟩:=hb i hi
  refine ⟨b,o,ha,(h b hok).1,fun j hj => ?_⟩
  obtain ⟨x,hx,h1,hd⟩:=hc j hj
  exact ⟨x,((h b hok).2 _).trans hx,h1,bt.mono h hd⟩
theorem ca.mono (h:fG ok ok' w w') (hρ:∀ id,id<nx→ρ' id=ρ id) {x:CV} {u:Value} (hl:x.lt nx) (hx:ca ρ ok w x u):ca ρ' ok' w' x u:=by
 cases x with
 | p x=>exact bt.mono h hx
 | ptr id off=>simp only [ca,hρ id hl] at *;exact hx
 | pel id sz i off=>simp only [ca,hρ id hl] at *;exact hx
 | own id n=>simp only [ca,hρ id hl] at *;exact hx
 | ipt sz g off =>
  obtain ⟨b,o,hu,hok,hc⟩:=hx
  refine ⟨b,o,hu,(h b hok).1,fun j hj => ?_⟩
  obtain ⟨x,hx,h1,hd⟩:=hc j hj
  exact ⟨x,((h b hok).2 _).trans hx,h1,bt.mono h hd⟩
 | clo f ps =>
  obtain ⟨vs,hu,hs,hc⟩:=hx
  refine ⟨vs,hu,hs,fun j hj => ?_⟩
  obtain ⟨b,o,h1,h2⟩:=hc j hj
  have hm:ps.getD j (0,0) ∈ ps:=by rw [List.getD_eq_getElem?_getD,List.getElem?_eq_getElem hj];exact List.getElem_mem hj
  exact ⟨b,o,(hρ _ (hl _ hm)).trans h1,h2⟩
 | sub id sz lo n=>simp only [ca,hρ id hl] at *;exact hx
theorem bR.mono (h:fG ok ok' w w') (hρ:∀ id,id<nx→ρ' id=ρ id) {x:BV} {u:Value} (hl:x.lt nx) (hx:bR ρ ok w x u):bR ρ' ok' w' x u:=by
 cases x with
 | c x=>exact ca.mono h hρ hl hx
 | agg cs =>
  obtain ⟨us,hu,hs,h1,hd⟩:=hx
  exact ⟨us,hu,hs,h1,fun j=>ca.mono h hρ (CV.lt_getD hl j) (hd j)⟩
theorem bu.mono (h:fG ok ok' w w') (hρ:∀ id,id<nx→ρ' id=ρ id) {x:SV} {u:Value} (hl:x.lt nx) (hx:bu ρ ok w x u):bu ρ' ok' w' x u:=by
 cases x with
 | b x=>exact bR.mono h hρ hl hx
 | tup vs =>
  obtain ⟨us,hu,hs,hd⟩:=hx
  exact ⟨us,hu,hs,fun j=>bR.mono h hρ (BV.lt_getD hl j) (hd j)⟩
 | grd p x=>exact ⟨fun hp=>bR.mono h hρ hl (hx.1 hp),hx.2⟩
 | any=>trivial
theorem jG.mono (h : fG ok ok' w w') (hρ : ∀ id, id < nx → ρ' id = ρ id) {x : Bx} {v : Value} (hl : x.lt nx)
  (hb:∀ b,mZ v=some b→w'.heap[b]?=w.heap[b]?) (hx:jG ρ ok w x v):jG ρ' ok' w' x v:=by
 cases x with
 | fix cs =>
  obtain ⟨b,o,cells,t,hv,hh,hs,h1,hd⟩:=hx
  exact ⟨b,o,cells,t,hv,(hb b (by rw [hv];rfl)).trans hh,hs,h1,fun j=>ca.mono h hρ (CV.lt_getD hl j) (hd j)⟩
 | arr e sz n f =>
  obtain ⟨h0,xs,hown,h1,hd⟩:=hx
  refine ⟨h0,xs,⟨hown.1, ?_⟩,h1,fun i hi j hj=>bt.mono h (hd i hi j hj)⟩
  rcases hown.2 with h1|⟨g,cap,cur,hv,hg,hh,r⟩
  ·exact .inl h1
  ·exact .inr ⟨g,cap,cur,hv,hg,(hb g (by rw [hv];rfl)).trans hh,r⟩
end mono
structure St where
 fr:Nat→SV
 bx:Nat→Option Bx
 nx:Nat
 kf:Nat→SV:=fun _ => .any
structure Env where
 P:Program
 gl:Nat→Option (Nat × (Nat→PV))
 rcv:Nat→Bool:=fun _=>false
structure Ent where
 w0:World
 ok0:Nat→Prop
 rx:Option (Nat × Nat × Nat)
 N:Nat
 kp:Nat→Value:=fun _=>undef
def bL (E:Ent) (bx:Nat→Option Bx) (ρ:fQ) (w:World) (b:Nat):Prop :=
 b<w.heap.size∧(b<E.w0.heap.size→E.ok0 b)∧∀ id,bx id≠none→mZ (ρ id)≠some b
structure Frm (E:Ent) (w:World):Prop where
 os:w.os=E.w0.os
 tape:w.tape=E.w0.tape
 output:w.output=E.w0.output
 size:E.w0.heap.size≤w.heap.size
 block:∀ k,k<E.w0.heap.size→(∀ o l,E.rx≠some (k,o,l))→w.heap[k]?=E.w0.heap[k]?
 rxb:∀ b o l,E.rx=some (b,o,l)→∃ c c0 t,w.heap[b]?=some (.cells c t (0,0))∧E.w0.heap[b]?=some (.cells c0 t (0,0))∧c.size=c0.size ∧
  ∀ j,j<o∨o+l≤j→c[j]?=c0[j]?
structure Gam (S:Env) (E:Ent) (st:St) (ρ:fQ) (a:Act) (w:World):Prop where
 dfr:a.defers=[]
 sz:a.tmps.size=E.N
 frm:Frm E w
 wfs:∀ s,(st.fr s).lt st.nx
 wfb:∀ id b,st.bx id=some b→id<st.nx∧b.lt st.nx
 bxs:∀ id b,st.bx id=some b→jG ρ (bL E st.bx ρ w) w b (ρ id)
 new:∀ id x b,st.bx id=some x→mZ (ρ id)=some b→b<w.heap.size ∧
  (E.w0.heap.size≤b∨∃ o cs,ρ id = .pointer (some ⟨b,o,none⟩)∧x = .fix cs∧E.rx=some (b,o,cs.length))
 inj:∀ i j b,st.bx i≠none→st.bx j≠none→mZ (ρ i)=some b→mZ (ρ j)=some b→i=j
 rx0:∀ b o l,E.rx=some (b,o,l)→0<st.nx∧ρ 0 = .pointer (some ⟨b,o,none⟩)
 slt:∀ s,bu ρ (bL E st.bx ρ w) w (st.fr s) (a.tmps.getD s undef)
 glb:∀ g n f,S.gl g=some (n,f)→bL E st.bx ρ w g∧∀ j,j<n→∃ x,w.cell? ⟨g,j,none⟩=some x∧x.oneCell'=true∧bt (bL E st.bx ρ w) w (f j) x
 kept:∀ s,(st.kf s).lt st.nx∧bu ρ (bL E st.bx ρ w) w (st.kf s) (E.kp s)
def St.set (st:St) (d:Option Nat) (v:SV):St :=
 match d with
 | none=>st
 | some d => { st with fr:=fun s=>if s=d then v else st.fr s }
theorem bN {w:World} {b:Nat} {o:Obj} (h:w.heap[b]?=some o):b<w.heap.size:=(Array.getElem?_eq_some_iff.1 h).1
section gam
variable {S:Env} {E:Ent} {st:St} {ρ:fQ} {a:Act} {w:World}
theorem Gam.set {d : Option Nat} {v : SV} {u : Value} (g : Gam S E st ρ a w) (hd : ∀ k, d = some k → k < E.N) (hl : v.lt st.nx)
  (hv:bu ρ (bL E st.bx ρ w) w v u):Gam S E (st.set d v) ρ (a.put d u) w:=by
 cases d with
 | none=>exact g
 | some k =>
  have hk:=hd k rfl
  refine ⟨g.dfr,by simp [Act.put,g.sz],g.frm,fun s => ?_,g.wfb,g.bxs,g.new,g.inj,g.rx0,fun s => ?_,g.glb,g.kept⟩
  ·simp only [St.set];split
   ·exact hl
   ·exact g.wfs s
  ·simp only [St.set,Act.put]
   split
   ·rename_i h;subst h
    simp only [Array.getD_eq_getD_getElem?,Array.getElem?_setIfInBounds_self]
    rw [if_pos (by rw [g.sz];exact hk)]
    exact hv
   ·rename_i h
    simp only [Array.getD_eq_getD_getElem?,Array.getElem?_setIfInBounds_ne (Ne.symm h)]
    have:=g.slt s
    simpa only [Array.getD_eq_getD_getElem?] using this
theorem JH {w' : World} {bx : Nat → Option Bx} (hs : w.heap.size ≤ w'.heap.size) (hb : ∀ k, k < w.heap.size → w'.heap[k]? = w.heap[k]?) :
  fG (bL E bx ρ w) (bL E bx ρ w') w w':=fun b ⟨h1,h2,h3⟩ =>
 ⟨⟨Nat.lt_of_lt_of_le h1 hs,h2,h3⟩,fun _=>World.cell?_of_block (hb b h1)⟩
theorem Gam.grow {w':World} (g:Gam S E st ρ a w) (h:RowKit.Below w.heap.size w w'):Gam S E st ρ a w':=by
 have hk:fG (bL E st.bx ρ w) (bL E st.bx ρ w') w w':=JH h.size h.block
 have hρ:∀ id,id<st.nx→ρ id=ρ id:=fun _ _=>rfl
 refine ⟨g.dfr,g.sz,⟨h.os.trans g.frm.os,h.tape.trans g.frm.tape,h.output.trans g.frm.output,Nat.le_trans g.frm.size h.size,fun k hk hx => ?_,fun b o l hr => ?_⟩,g.wfs,g.wfb,
  fun id b hb => ?_,fun id x b h1 h2 => ?_,g.inj,g.rx0,fun s=>bu.mono hk hρ (g.wfs s) (g.slt s),fun gg n f hg => ?_,fun s=>⟨(g.kept s).1,bu.mono hk hρ (g.kept s).1 (g.kept s).2⟩⟩
 ·exact (h.block k (Nat.lt_of_lt_of_le hk g.frm.size)).trans (g.frm.block k hk hx)
 ·obtain ⟨c,c0,t,h1,h2,h3⟩:=g.frm.rxb b o l hr
  exact ⟨c,c0,t,(h.block b (bN h1)).trans h1,h2,h3⟩
 ·exact jG.mono hk hρ (g.wfb id b hb).2 (fun c hc=>h.block c (g.new id b c hb hc).1) (g.bxs id b hb)
 ·exact ⟨Nat.lt_of_lt_of_le (g.new id x b h1 h2).1 h.size,(g.new id x b h1 h2).2⟩
 ·obtain ⟨h1,h2⟩:=g.glb gg n f hg
  refine ⟨(hk gg h1).1,fun j hj => ?_⟩
  obtain ⟨x,hx,h3,hd⟩:=h2 j hj
  exact ⟨x,((hk gg h1).2 j).trans hx,h3,bt.mono hk hd⟩
end gam
end Go.SL
namespace Go.SL
open Go
abbrev SV.v (x:Value):SV := .b (.c (.p (.val x)))
abbrev SV.i (x:Int):SV := .b (.c (.p (.val (.int .i64 x))))
abbrev SV.u16 (x:Int):SV := .b (.c (.p (.val (.int .u16 x))))
abbrev SV.t (x:Bool):SV := .b (.c (.p (.val (.bool x))))
abbrev CV.v (x:Value):CV := .p (.val x)
abbrev CV.i (x:Int):CV := .p (.val (.int .i64 x))
abbrev PV.i (x:Int):PV := .val (.int .i64 x)
def Env.ti (S:Env) (t:TypeId):Option (Nat × Bool) :=
 match S.P.info? t,S.P.underlying t with
 | some i,some d=>some (i.size,match d with | .struct _ | .array _ _=>true|_=>false)
 | _,_=>none
def Env.fld (S:Env) (t:TypeId) (f:Nat):Option (Nat × Nat × Bool) :=
 match S.P.underlying t with
 | some (.struct fs)=>match fs[f]? with
  | some fl=>(S.ti fl.type).map fun x=>(fl.offset,x)
  | none=>none
 | _=>none
def Env.el (S:Env) (t:TypeId):Option (Option Nat × TypeId × Nat × Bool) :=
 match S.P.underlying t with
 | some (.slice e)=>(S.ti e).map fun x=>(none,e,x)
 | some (.array n e)=>(S.ti e).map fun x=>(some n,e,x)
 | _=>none
def SV.strip:SV→SV
 | .grd _ x => .b x
 | x=>x
def SV.cond:SV→Prop
 | .grd p _=>p=true
 | _=>True
def St.ev (S:Env) (st:St):Operand→SV
 | .tmp t=>st.fr t
 | .const x => .v x
 | .global g=>match S.gl g with
  | some (n,f) => .b (.c (.ipt n f 0))
  | none => .any
 | .func f => .v (.func (.func f) #[] #[])
def dL (n:Nat) (g:Nat→PV):List CV:=(List.range n).map fun j => .p (g j)
def dj (S:Env) (t:TypeId) (bx:Nat→Option Bx):SV→Option (Prop × SV)
 | .b (.c (.ptr id off))=>match bx id,S.ti t with
  | some (.fix cs),some (sz,true)=>some (off+sz≤cs.length, .b (.agg ((cs.drop off).take sz)))
  | some (.fix cs),some (_,false)=>some (off<cs.length, .b (.c (cs.getD off .any)))
  | _,_=>none
 | .b (.c (.pel id sz i off))=>match bx id,S.ti t with
  | some (.arr _ sz' n f),some (s,true)=>some (sz=sz'∧i<n∧off+s≤sz, .b (.agg (dL s fun j=>f i (off+j))))
  | some (.arr _ sz' n f),some (_,false)=>some (sz=sz'∧i<n∧off<sz, .b (.c (.p (f i off))))
  | _,_=>none
 | .b (.c (.ipt sz g off))=>match S.ti t with
  | some (s,true)=>some (off+s≤sz, .b (.agg (dL s fun j=>g (off+j))))
  | some (_,false)=>some (off<sz, .b (.c (.p (g off))))
  | none=>none
 | _=>none
def mM (n:Nat):SV→Option SV
 | .b (.c (.ptr id off))=>some (.b (.c (.ptr id (off+n))))
 | .b (.c (.pel id sz i off))=>some (.b (.c (.pel id sz i (off+n))))
 | .b (.c (.ipt sz g off))=>some (.b (.c (.ipt sz g (off+n))))
 | _=>none
def np (S:Env) (t:TypeId) (f:Nat):SV→Option (Prop × SV)
 | .b (.agg cs)=>match S.fld t f with
  | some (off,sz,true)=>some (off+sz≤cs.length, .b (.agg ((cs.drop off).take sz)))
  | some (off,_,false)=>some (off<cs.length, .b (.c (cs.getD off .any)))
  | none=>none
 | _=>none
def gw (S:Env) (t:TypeId):SV→SV→Option (Prop × SV)
 | .b (.c (.p (.lst sz n f))), .b (.c (.p (.val (.int _ i))))=>match S.el t with
  | some (none,_,s,_)=>some ((0≤i∧i<(n:Int))∧sz=s, .b (.c (.ipt s (f i.toNat) 0)))
  | _=>none
 | .b (.c (.own id n)), .b (.c (.p (.val (.int _ i))))=>match S.el t with
  | some (none,_,s,_)=>some (0≤i∧i<(n:Int), .b (.c (.pel id s i.toNat 0)))
  | _=>none
 | x, .b (.c (.p (.val (.int _ i))))=>match S.el t with
  | some (some len,_,s,_)=>(mM (i.toNat * s) x).map fun y=>(0≤i∧i<(len:Int),y)
  | _=>none
 | _,_=>none
def nk (S:Env) (t:TypeId):SV→SV→Option (Prop × SV)
 | .b (.agg cs), .b (.c (.p (.val (.int _ i))))=>match S.el t with
  | some (some len,_,s,true)=>some ((0≤i∧i<(len:Int))∧(i.toNat * s+s≤cs.length), .b (.agg ((cs.drop (i.toNat * s)).take s)))
  | some (some len,_,s,false)=>some ((0≤i∧i<(len:Int))∧i.toNat * s<cs.length, .b (.c (cs.getD (i.toNat * s) .any)))
  | _=>none
 | .b (.c (.p (.val (.string b)))), .b (.c (.p (.val (.int _ i))))=>match S.P.underlying t with
  | some .string=>some (0≤i∧i<(b.size:Int), .v (.int .u8 (b.get! i.toNat).toNat))
  | _=>none
 | _,_=>none
def Ik (op:BinOp) (k:IntKind) (a b:Int):Option (Prop × Value) :=
 match op with
 | .add=>some (True, .int k (k.wrap (a+b)))
 | .sub=>some (True, .int k (k.wrap (a - b)))
 | .mul=>some (True, .int k (k.wrap (a * b)))
 | .quo=>some (b≠0, .int k (k.wrap (a.tdiv b)))
 | .rem=>some (b≠0, .int k (a.tmod b))
 | .and=>some (True, .int k (k.wrap (BitVec.ofInt k.bits a &&& BitVec.ofInt k.bits b).toNat))
 | .or=>some (True, .int k (k.wrap (BitVec.ofInt k.bits a ||| BitVec.ofInt k.bits b).toNat))
 | .xor=>some (True, .int k (k.wrap (BitVec.ofInt k.bits a ^^^ BitVec.ofInt k.bits b).toNat))
 | .eql=>some (True, .bool (a == b))
 | .neq=>some (True, .bool (a != b))
 | .lss=>some (True, .bool (a<b))
 | .leq=>some (True, .bool (a≤b))
 | .gtr=>some (True, .bool (a>b))
 | .geq=>some (True, .bool (a≥b))
 | _=>none
def Ax:List (Option Bool)→Option Bool
 | []=>some true
 | some a :: r=>(Ax r).map fun b=>a && b
 | none :: _=>none
def JU (P:Program):Nat→TypeId→List Value→List Value→Option Bool
 | 0,_,_,_=>none
 | d+1,t,xs,ys=>match P.underlying t with
  | some .bool=>match xs,ys with
   | [.bool a],[.bool b]=>some (a == b)
   | _,_=>none
  | some (.int _)=>match xs,ys with
   | [.int k a],[.int k' b]=>if k=k' then some (a == b) else none
   | _,_=>none
  | some .string=>match xs,ys with
   | [.string a],[.string b]=>some (a.toList == b.toList)
   | _,_=>none
  | some (.struct fs) => if P.stoodInHeld t = true then none else
    Ax (fs.toList.map fun f => if f.name = "_" then none else JU P d f.type ((xs.drop f.offset).take (P.cellsOf f.type)) ((ys.drop f.offset).take (P.cellsOf f.type)))
  | some (.array n e)=>if (P.info? e).isNone=true then none else Ax ((List.range n).map fun i=>JU P d e ((xs.drop (i * P.cellsOf e)).take (P.cellsOf e)) ((ys.drop (i * P.cellsOf e)).take (P.cellsOf e)))
  | _=>none
def Env.eqv (S:Env) (t:TypeId) (xs ys:List Value):Option Bool :=
 match S.P.underlying t with
 | some (.struct _)=>if S.P.eqGuardType S.P.depth t=true then none else JU S.P 8 t xs ys
 | some (.array _ _)=>if S.P.eqGuardType S.P.depth t=true then none else JU S.P 8 t xs ys
 | _=>none
def mJ:List CV→Option (List Value)
 | []=>some []
 | .p (.val v) :: r=>(mJ r).map fun l=>v :: l
 | _=>none
def wV (S:Env) (op:BinOp) (t:TypeId):SV→SV→Option (Prop × SV)
 | .b (.c (.p (.val (.int k a)))), .b (.c (.p (.val (.int k' b)))) =>
  match op with
  | .shl=>some (0≤b, .v (.int k (k.wrap (a * 2 ^ (min b.toNat k.bits)))))
  | .shr=>some (0≤b, .v (.int k (a.fdiv (2 ^ (min b.toNat k.bits)))))
  | op=>(Ik op k a b).map fun x=>(k=k'∧x.1, .v x.2)
 | .b (.c (.p (.val (.bool a)))), .b (.c (.p (.val (.bool b)))) =>
  match op,S.P.underlying t with
  | .eql,some .bool=>some (True, .t (a == b))
  | .neq,some .bool=>some (True, .t (!(a == b)))
  | _,_=>none
 | .b (.c (.p (.val (.string a)))), .b (.c (.p (.val (.string b)))) =>
  match op with
  | .eql=>some (True, .t (a.toList == b.toList))
  | .neq=>some (True, .t (!(a.toList == b.toList)))
  | .add=>some ((a.size+b.size:Int)≤9223372036854775807, .v (.string (a ++ b)))
  | _=>none
 | .b (.agg cs), .b (.agg ds) =>
  match op,mJ cs,mJ ds with
  | .eql,some xs,some ys=>(S.eqv t xs ys).map fun r=>(True, .t r)
  | .neq,some xs,some ys=>(S.eqv t xs ys).map fun r=>(True, .t (!r))
  | _,_,_=>none
 | .b (.c (.p (.lst _ n _))), .b (.c (.p (.val (.slice none _ _)))) =>
  match op,S.P.underlying t with
  | .eql,some (.slice _)=>some (0<n, .t false)
  | _,_=>none
 | .b (.c (.p (.val (.slice a _ _)))), .b (.c (.p (.val (.slice none _ _)))) =>
  match op,S.P.underlying t with
  | .eql,some (.slice _)=>some (True, .t a.isNone)
  | _,_=>none
 | .b (.c (.ptr _ _)), .b (.c (.p (.val (.pointer none)))) =>
  match op,S.P.underlying t with
  | .eql,some (.pointer _)=>some (True, .t false)
  | _,_=>none
 | .b (.c (.ipt _ _ _)), .b (.c (.p (.val (.pointer none)))) =>
  match op,S.P.underlying t with
  | .eql,some (.pointer _)=>some (True, .t false)
  | _,_=>none
 | _,_=>none
def Gk (op:UnOp):SV→Option (Prop × SV)
 | .b (.c (.p (.val (.bool a))))=>match op with
  | .not=>some (True, .t (!a))
  | _=>none
 | .b (.c (.p (.val (.int k n))))=>match op with
  | .neg=>some (True, .v (.int k (k.wrap (0 - n))))
  | .xor=>some (True, .v (.int k (k.wrap (BitVec.ofInt k.bits (if k.signed then -1 else k.max) ^^^ BitVec.ofInt k.bits n).toNat)))
  | _=>none
 | _=>none
def qO (S:Env) (src dst:TypeId):SV→Option (Prop × SV)
 | .b (.c (.p (.val (.int _ n))))=>match S.P.underlying src,S.P.underlying dst with
  | some _,some (.int k)=>some (True, .v (.int k (k.wrap n)))
  | _,_=>none
 | .b (.c (.p (.val (.string b))))=>match S.P.underlying src,S.P.underlying dst with
  | some .string,some .string=>some (True, .v (.string b))
  | _,_=>none
 | _=>none
def xa (S:Env) (t:TypeId):SV→Option (Prop × SV)
 | .b (.c (.p (.lst _ n _)))=>match S.P.underlying t with
  | some (.slice _)=>some (True, .i (n:Int))
  | _=>none
 | .b (.c (.own _ n))=>match S.P.underlying t with
  | some (.slice _)=>some (True, .i (n:Int))
  | _=>none
 | .b (.c (.p (.val (.string b))))=>match S.P.underlying t with
  | some .string=>some (True, .i (b.size:Int))
  | _=>none
 | .b (.c (.p (.val (.slice _ n _))))=>match S.P.underlying t with
  | some (.slice _)=>some (True, .i (n:Int))
  | _=>none
 | _=>match S.P.underlying t with
  | some (.array n _)=>some (True, .i (n:Int))
  | _=>none
def rb (c a b:SV):Option (Prop × SV) :=
 match c.strip,a.strip,b.strip with
 | .b (.c (.p (.val (.bool t)))), .b (.c (.p (.val (.bool x)))), .b (.c (.p (.val (.bool y)))) =>
  some (c.cond∧(t=true→a.cond)∧(t=false→b.cond), .t (bif t then x else y))
 | _,_,_=>none
def zE?:Option SV→Option (Option Int)
 | none=>some none
 | some (.b (.c (.p (.val (.int _ i)))))=>some (some i)
 | _=>none
def pJ (S:Env) (t:TypeId) (x:SV) (lo hi:Option SV):Option (Prop × SV) :=
 match x,zE? lo,zE? hi,S.P.underlying t with
 | .b (.c (.p (.lst sz n f))),some lo,some hi,some (.slice e) =>
  some ((0≤lo.getD 0∧lo.getD 0≤hi.getD n∧hi.getD n≤n)∧(S.ti e).map (·.1)=some sz,
   .b (.c (.p (.lst sz ((hi.getD n).toNat - (lo.getD 0).toNat) fun i j=>f ((lo.getD 0).toNat+i) j))))
 | .b (.c (.own id n)),some none,some (some hi),some (.slice e)=>some ((0≤hi∧hi≤n)∧(S.ti e).isSome=true, .b (.c (.own id hi.toNat)))
 | .b (.c (.own id n)),some (some lo),some (some hi),some (.slice e)=>some ((0≤lo∧lo<hi∧hi≤n)∧(S.ti e).isSome=true, .b (.c (.sub id (((S.ti e).map (·.1)).getD 0) lo.toNat (hi.toNat - lo.toNat))))
 | .b (.c (.p (.val (.string b)))),some lo,some hi,some .string =>
  some (0≤lo.getD 0∧lo.getD 0≤hi.getD b.size∧hi.getD b.size≤b.size, .v (.string (b.extract (lo.getD 0).toNat (hi.getD b.size).toNat)))
 | _,_,_,_=>none
def aV:List SV→Prop
 | []=>True
 | x :: r=>x.cond∧aV r
def il:List SV→Option (List (Nat × Nat))
 | []=>some []
 | .b (.c (.ptr id off)) :: r=>(il r).map fun l=>(id,off) :: l
 | _=>none
def bj (S:Env) (bx:Nat→Option Bx) (ev:Operand→SV):Op→Option (Prop × SV)
 | .load t x=>dj S t bx (ev x).strip
 | .fieldAddr t x f=>match S.fld t f with
  | some (off,sz,_)=>(mM off (ev x).strip).map fun y=>(sz≠0,y)
  | none=>none
 | .field t x f=>np S t f (ev x).strip
 | .indexAddr t x i=>gw S t (ev x).strip (ev i).strip
 | .index t x i=>nk S t (ev x).strip (ev i).strip
 | .extract x i=>match (ev x).strip with
  | .tup vs=>some (i<vs.length, .b (vs.getD i .any))
  | _=>none
 | .binOp op t x y _=>wV S op t (ev x).strip (ev y).strip
 | .unOp op _ x=>Gk op (ev x).strip
 | .convert s d x=>qO S s d (ev x).strip
 | .slice t x lo hi none=>pJ S t (ev x).strip (lo.map fun x=>(ev x).strip) (hi.map fun x=>(ev x).strip)
 | .makeFunc fn first cap=>match fn,first.toList,il (cap.toList.map fun x=>(ev x).strip) with
  | .func f,[],some ps=>some (True, .b (.c (.clo f ps)))
  | _,_,_=>none
 | .nilCheck x=>match (ev x).strip with
  | .b (.c (.ptr id off))=>some (True, .b (.c (.ptr id off)))
  | .b (.c (.pel id sz i off))=>some (True, .b (.c (.pel id sz i off)))
  | .b (.c (.ipt sz g off))=>some (True, .b (.c (.ipt sz g off)))
  | _=>none
 | .call c=>match c.callee,c.args.toList,c.argTypes.toList with
  | .builtin .len,[x],[t]=>xa S t (ev x).strip
  | .builtin .min,[x,y],_=>match (ev x).strip,(ev y).strip with
   | .b (.c (.p (.val (.int k a)))), .b (.c (.p (.val (.int k' b))))=>some (k=k', .v (.int k (if b<a then b else a)))
   | _,_=>none
  | .builtin .max,[x,y],_=>match (ev x).strip,(ev y).strip with
   | .b (.c (.p (.val (.int k a)))), .b (.c (.p (.val (.int k' b))))=>some (k=k', .v (.int k (if b>a then b else a)))
   | _,_=>none
  | _,_,_=>none
 | _=>none
def ro (S:Env) (bx:Nat→Option Bx) (ev:Operand→SV) (op:Op):Option (Prop × SV) :=
 match op with
 | .move x=>some (True,ev x)
 | .assign x=>some (True,ev x)
 | .pick c a b=>rb (ev c) (ev a) (ev b)
 | op=>match bj S bx ev op with
  | some (vc,r)=>some (aV (op.operands.toList.map ev)∧vc,r)
  | none=>none
end Go.SL
set_option linter.unusedSimpArgs false
namespace Go.SL
open Go
section
variable {S:Env} {E:Ent} {st:St} {ρ:fQ} {a:Act} {w:World}
theorem pP {t : TypeId} {sz : Nat} {b : Bool} (h : S.ti t = some (sz, b)) :
  ∃ i d,S.P.info? t=some i∧i.size=sz∧S.P.underlying t=some d∧b=(match d with | .struct _ | .array _ _=>true|_=>false):=by
 unfold Env.ti at h
 split at h
 ·rename_i i d hi hd
  simp only [Option.some.injEq,Prod.mk.injEq] at h
  exact ⟨i,d,hi,h.1,hd,h.2.symm⟩
 ·simp at h
theorem nL {t:TypeId} {sz:Nat} {b:Bool} (h:S.ti t=some (sz,b)) (w:World):(isAgg t).run S.P w = .ok b w:=by
 obtain ⟨i,d,hi,hs,hd,hb⟩:=pP h
 unfold isAgg
 rw [Sem.run_bind,run_underlying hd w]
 subst hb
 cases d <;> rfl
theorem cn {t:TypeId} {sz:Nat} {b:Bool} (h:S.ti t=some (sz,b)) (w:World):(sizeOf t).run S.P w = .ok sz w:=by
 obtain ⟨i,d,hi,hs,hd,hb⟩:=pP h
 simp [sizeOf,typeInfo,hi,hs]
theorem iT {t : TypeId} {sz : Nat} (h : S.ti t = some (sz, true)) (w : World) (b o : Nat) (f : Nat → Value)
  (hc:∀ j,j<sz→w.cell? ⟨b,o+j,none⟩=some (f j)):(loadVar t ⟨b,o,none⟩).run S.P w = .ok (.agg ((List.range sz).map f).toArray) w:=by
 simp [loadVar,Sem.run_bind,nL h,cn h,run_loadCells w ⟨b,o,none⟩ sz f (fun j hj=>by rw [Addr.add_lit];exact hc j hj)]
theorem iW {t : TypeId} {sz : Nat} (h : S.ti t = some (sz, false)) (w : World) (b o : Nat) (x : Value)
  (hc:w.cell? ⟨b,o,none⟩=some x):(loadVar t ⟨b,o,none⟩).run S.P w = .ok x w:=by
 simp [loadVar,Sem.run_bind,nL h,hc]
theorem jf {t : TypeId} {sz : Nat} (h : S.ti t = some (sz, true)) (w : World) (cs : Array Value) (off : Nat) :
  (part t cs off).run S.P w = .ok (.agg (cs.extract off (off+sz))) w:=by
 simp [part,Sem.run_bind,nL h,cn h]
theorem je {t : TypeId} {sz : Nat} (h : S.ti t = some (sz, false)) (w : World) (cs : Array Value) (off : Nat) (hl : off < cs.size) :
  (part t cs off).run S.P w = .ok (cs.getD off undef) w:=by
 simp [part,Sem.run_bind,nL h,hl]
theorem rn {t : TypeId} {f off sz : Nat} {b : Bool} (h : S.fld t f = some (off, sz, b)) :
  ∃ fs fl,S.P.underlying t=some (.struct fs)∧fs[f]?=some fl∧fl.offset=off∧S.ti fl.type=some (sz,b):=by
 unfold Env.fld at h
 split at h
 ·rename_i fs hu
  split at h
  ·rename_i fl hf
   cases hq:S.ti fl.type with
   | none=>simp [hq] at h
   | some x =>
    simp only [hq,Option.map_some,Option.some.injEq,Prod.mk.injEq] at h
    exact ⟨fs,fl,hu,hf,h.1,by rw [hq,h.2]⟩
  ·simp at h
 ·simp at h
theorem ln {t e s:Nat} {b:Bool} (h:S.el t=some (none,e,s,b)):S.P.underlying t=some (.slice e)∧S.ti e=some (s,b):=by
 unfold Env.el at h
 split at h
 ·rename_i e' hu
  cases hq:S.ti e' with
  | none=>simp [hq] at h
  | some x =>
   simp only [hq,Option.map_some,Option.some.injEq,Prod.mk.injEq,true_and] at h
   obtain ⟨rfl,rfl⟩:=h
   exact ⟨hu,hq⟩
 ·rename_i n e' hu
  cases hq:S.ti e' <;> simp [hq] at h
 ·simp at h
theorem vx {t e s n:Nat} {b:Bool} (h:S.el t=some (some n,e,s,b)):S.P.underlying t=some (.array n e)∧S.ti e=some (s,b):=by
 unfold Env.el at h
 split at h
 ·rename_i e' hu
  cases hq:S.ti e' <;> simp [hq] at h
 ·rename_i n' e' hu
  cases hq:S.ti e' with
  | none=>simp [hq] at h
  | some x =>
   simp only [hq,Option.map_some,Option.some.injEq,Prod.mk.injEq] at h
   obtain ⟨rfl,rfl,rfl⟩:=h
   exact ⟨hu,hq⟩
 ·simp at h
theorem jt {ok:Nat→Prop} {x:SV} {u:Value} (h:bu ρ ok w x u) (hc:x.cond):bu ρ ok w x.strip u:=by
 cases x with
 | grd p x=>exact h.1 hc
 | _=>exact h
theorem qt {x:SV} {nx:Nat} (h:x.lt nx):x.strip.lt nx:=by cases x <;> exact h
theorem Gam.ev (g:Gam S E st ρ a w) (x:Operand):bu ρ (bL E st.bx ρ w) w (st.ev S x) (a.eval x)∧(st.ev S x).lt st.nx:=by
 cases x with
 | tmp t=>exact ⟨by have:=g.slt t;simpa [St.ev,Act.eval] using this,g.wfs t⟩
 | const v =>
  exact ⟨rfl,trivial⟩
 | global k =>
  simp only [St.ev,Act.eval]
  split
  ·rename_i n f hg
   obtain ⟨h1,h2⟩:=g.glb k n f hg
   exact ⟨⟨k,0,rfl,h1,fun j hj=>by rw [Nat.zero_add];exact h2 j hj⟩,trivial⟩
  ·exact ⟨trivial,trivial⟩
 | func f=>exact ⟨rfl,trivial⟩
def GZ (S:Env) (E:Ent) (st:St) (ρ:fQ) (w:World) (s:Sem Value) (r:SV):Prop :=
 ∃ v,s.run S.P w = .ok v w∧bu ρ (bL E st.bx ρ w) w r v∧r.lt st.nx
theorem bG {b j : Nat} {cells : Array Value} {t : TypeId} (h : w.heap[b]? = some (.cells cells t (0, 0))) (hj : j < cells.size) :
  w.cell? ⟨b,j,none⟩=some (cells.getD j undef):=by
 rw [World.cell?]
 simp [h,hj]
theorem gP {cs:List CV} {off sz j:Nat} (_h:off+sz≤cs.length) (hj:j<sz):((cs.drop off).take sz).getD j .any=cs.getD (off+j) .any:=by
 simp only [List.getD_eq_getElem?_getD,List.getElem?_take,hj,if_true,List.getElem?_drop]
theorem kx {cs:List CV} {off sz j:Nat} (hj:¬ j<sz):((cs.drop off).take sz).getD j .any = .any:=by
 simp only [List.getD_eq_getElem?_getD,List.getElem?_take,hj,if_false,Option.getD_none]
theorem kQ {cs:List CV} {off sz:Nat} {c:CV} (h:c ∈ (cs.drop off).take sz):c ∈ cs:=List.mem_of_mem_drop (List.mem_of_mem_take h)
theorem kR {ok : Nat → Prop} {cs : List CV} {sz : Nat} {f : Nat → Value} (hl : cs.length = sz) (h1 : ∀ j, j < sz → (f j).oneCell' = true) (h : ∀ j, j < sz → ca ρ ok w (cs.getD j .any) (f j)) :
  bR ρ ok w (.agg cs) (.agg ((List.range sz).map f).toArray):=by
 refine ⟨_,rfl,by simp [hl],fun j hj => ?_,fun j => ?_⟩
 ·have hj':j<sz:=by simpa using hj
  have:(((List.range sz).map f).toArray).getD j undef=f j:=by simp [hj']
  rw [this];exact h1 j hj'
 by_cases hj:j<sz
 ·have:(((List.range sz).map f).toArray).getD j undef=f j:=by simp [hj]
  rw [this];exact h j hj
 ·rw [List.getD_eq_getElem?_getD,List.getElem?_eq_none (by omega)];trivial
theorem sg {n j:Nat} {g:Nat→PV} (h:j<n):(dL n g).getD j .any = .p (g j):=by
 simp [dL,h]
theorem uZ {n:Nat} {g:Nat→PV}:(dL n g).length=n:=by simp [dL]
theorem xg {n nx:Nat} {g:Nat→PV}:∀ c ∈ dL n g,CV.lt nx c:=by
 intro c hc
 obtain ⟨j,_,rfl⟩:=List.mem_map.1 hc
 trivial
theorem tZ {t : TypeId} {x : SV} {u : Value} {vc : Prop} {r : SV} (h : dj S t st.bx x = some (vc, r)) (hvc : vc) (g : Gam S E st ρ a w)
  (hx:bu ρ (bL E st.bx ρ w) w x u):GZ S E st ρ w (Instr.loadAt t u) r:=by
 unfold dj at h
 split at h
 ·rename_i id off
  obtain ⟨b,o,hr,rfl⟩:=hx
  split at h
  ·rename_i cs sz hb ht
   simp only [Option.some.injEq,Prod.mk.injEq] at h
   obtain ⟨rfl,rfl⟩:=h
   obtain ⟨b',o',cells,ty,hv,hh,hs,h1,hd⟩:=g.bxs id _ hb
   rw [hr] at hv
   simp only [Value.pointer.injEq,Option.some.injEq,Addr.mk.injEq,and_true] at hv
   obtain ⟨rfl,rfl⟩:=hv
   refine ⟨_, by simp only [Instr.loadAt, Instr.sureAddr, Sem.run_bind, Sem.run_pure, Result.andThen_ok]
                 exact iT ht w b (o+off) (fun j=>cells.getD (o+off+j) undef) (fun j hj=>bG hh (by omega)),
    kR (by simp;omega) (fun j hj=>by rw [Nat.add_assoc];exact h1 (off+j) (by omega)) (fun j hj => ?_),fun c hc=>(g.wfb id _ hb).2 c (kQ hc)⟩
   rw [gP hvc hj,Nat.add_assoc]
   exact hd (off+j)
  ·rename_i cs sz hb ht
   simp only [Option.some.injEq,Prod.mk.injEq] at h
   obtain ⟨rfl,rfl⟩:=h
   obtain ⟨b',o',cells,ty,hv,hh,hs,h1,hd⟩:=g.bxs id _ hb
   rw [hr] at hv
   simp only [Value.pointer.injEq,Option.some.injEq,Addr.mk.injEq,and_true] at hv
   obtain ⟨rfl,rfl⟩:=hv
   exact ⟨_,by simp only [Instr.loadAt,Instr.sureAddr,Sem.run_bind,Sem.run_pure,Result.andThen_ok];exact iW ht w b (o+off) _ (bG hh (by omega)),hd off,CV.lt_getD (g.wfb id _ hb).2 off⟩
  ·simp at h
 ·rename_i id sz i off
  obtain ⟨b,m,c,hr,rfl⟩:=hx
  split at h
  ·rename_i e sz' n f s hb ht
   simp only [Option.some.injEq,Prod.mk.injEq] at h
   obtain ⟨rfl,rfl⟩:=h
   obtain ⟨rfl,hi,ho⟩:=hvc
   obtain ⟨h0,xs,hown,h1,hd⟩:=g.bxs id _ hb
   rcases hown.2 with ⟨_,h2⟩|⟨gb,cap,cur,hv,_,hh,hn,_,hcs,htk⟩
   ·omega
   ·rw [hr] at hv
    simp only [Value.slice.injEq,Option.some.injEq,Addr.mk.injEq,and_true] at hv
    obtain ⟨rfl,rfl,rfl⟩:=hv
    have hlt:i * sz+sz≤cur.size:=by
     rw [hcs,← Nat.succ_mul];exact Nat.mul_le_mul_right _ (by omega)
    have hxs:∀ j,j<sz→cur.getD (i * sz+j) undef=xs.getD (i * sz+j) undef:=fun j hj=>by
     have hq:i * sz+j<m * sz:=Nat.lt_of_lt_of_le (show i * sz+j<i * sz+sz by omega) (by rw [← Nat.succ_mul];exact Nat.mul_le_mul_right _ (by omega))
     rw [← htk]
     simp [List.getElem?_take,hq]
    refine ⟨_, by simp only [Instr.loadAt, Instr.sureAddr, Sem.run_bind, Sem.run_pure, Result.andThen_ok]
                  exact iT ht w b (i * sz+off) (fun j=>cur.getD (i * sz+off+j) undef) (fun j hj=>bG hh (by omega)),
     kR uZ (fun j hj=>by
      rw [Nat.add_assoc,hxs (off+j) (by omega)]
      have hlen:i * sz+(off+j)<xs.length:=by
       rw [hown.1]
       exact Nat.lt_of_lt_of_le (show i * sz+(off+j)<i * sz+sz by omega) (by rw [← Nat.succ_mul];exact Nat.mul_le_mul_right _ (by omega))
      rw [List.getD_eq_getElem?_getD,List.getElem?_eq_getElem hlen]
      exact h1 _ (List.getElem_mem hlen)) (fun j hj => ?_),xg⟩
    rw [sg hj,Nat.add_assoc,hxs (off+j) (by omega)]
    exact hd i hi (off+j) (by omega)
  ·rename_i e sz' n f s hb ht
   simp only [Option.some.injEq,Prod.mk.injEq] at h
   obtain ⟨rfl,rfl⟩:=h
   obtain ⟨rfl,hi,ho⟩:=hvc
   obtain ⟨h0,xs,hown,h1,hd⟩:=g.bxs id _ hb
   rcases hown.2 with ⟨_,h2⟩|⟨gb,cap,cur,hv,_,hh,hn,_,hcs,htk⟩
   ·omega
   ·rw [hr] at hv
    simp only [Value.slice.injEq,Option.some.injEq,Addr.mk.injEq,and_true] at hv
    obtain ⟨rfl,rfl,rfl⟩:=hv
    have hq:i * sz+off<m * sz:=Nat.lt_of_lt_of_le (show i * sz+off<i * sz+sz by omega) (by rw [← Nat.succ_mul];exact Nat.mul_le_mul_right _ (by omega))
    have hlt:i * sz+off<cur.size:=by
     rw [hcs];exact Nat.lt_of_lt_of_le hq (Nat.mul_le_mul_right _ hn)
    have hxs:cur.getD (i * sz+off) undef=xs.getD (i * sz+off) undef:=by
     rw [← htk]
     simp [List.getElem?_take,hq]
    refine ⟨_, by simp only [Instr.loadAt, Instr.sureAddr, Sem.run_bind, Sem.run_pure, Result.andThen_ok]
                  exact iW ht w b (i * sz+off) _ (bG hh hlt), ?_,trivial⟩
    rw [hxs]
    exact hd i hi off ho
  ·simp at h
 ·rename_i sz gg off
  obtain ⟨b,o,rfl,hok,hc⟩:=hx
  split at h
  ·rename_i s ht
   simp only [Option.some.injEq,Prod.mk.injEq] at h
   obtain ⟨rfl,rfl⟩:=h
   refine ⟨_, by simp only [Instr.loadAt, Instr.sureAddr, Sem.run_bind, Sem.run_pure, Result.andThen_ok]
                 exact iT ht w b (o+off) (fun j=>(w.cell? ⟨b,o+off+j,none⟩).getD undef) (fun j hj=>by
                  obtain ⟨x,hx,_⟩:=hc (off+j) (by omega)
                  rw [Nat.add_assoc,hx];rfl),
    kR uZ (fun j hj=>by
     obtain ⟨x,hx,h1,_⟩:=hc (off+j) (by omega)
     rw [Nat.add_assoc,hx];exact h1) (fun j hj => ?_),xg⟩
   obtain ⟨x,hx,_,hd⟩:=hc (off+j) (by omega)
   rw [sg hj,Nat.add_assoc,hx]
   exact hd
  ·rename_i s ht
   simp only [Option.some.injEq,Prod.mk.injEq] at h
   obtain ⟨rfl,rfl⟩:=h
   obtain ⟨x,hx,_,hd⟩:=hc off hvc
   exact ⟨x,by simp only [Instr.loadAt,Instr.sureAddr,Sem.run_bind,Sem.run_pure,Result.andThen_ok];exact iW ht w b (o+off) _ hx,hd,trivial⟩
  ·simp at h
 ·simp at h
theorem tA {ok : Nat → Prop} {x y : SV} {u : Value} {n : Nat} {nx : Nat} (h : mM n x = some y) (hx : bu ρ ok w x u) (hl : x.lt nx) :
  ∃ b o,u = .pointer (some ⟨b,o,none⟩)∧bu ρ ok w y (.pointer (some ⟨b,o+n,none⟩))∧y.lt nx:=by
 unfold mM at h
 split at h <;> simp only [Option.some.injEq,reduceCtorEq] at h
 ·subst h
  obtain ⟨b,o,hr,rfl⟩:=hx
  exact ⟨_,_,rfl,⟨b,o,hr,by rw [Nat.add_assoc]⟩,hl⟩
 ·subst h
  obtain ⟨b,m,c,hr,rfl⟩:=hx
  exact ⟨_,_,rfl,⟨b,m,c,hr,by rw [Nat.add_assoc]⟩,hl⟩
 ·subst h
  obtain ⟨b,o,rfl,hok,hc⟩:=hx
  exact ⟨_,_,rfl,⟨b,o,by rw [Nat.add_assoc],hok,hc⟩,hl⟩
theorem wh {t : TypeId} {f off sz : Nat} {b : Bool} {x y : SV} {u : Value} (hf : S.fld t f = some (off, sz, b)) (hy : mM off x = some y) (hvc : sz ≠ 0)
  (hl:x.lt st.nx) (hx:bu ρ (bL E st.bx ρ w) w x u):GZ S E st ρ w (Instr.fieldAt t u f) y:=by
 obtain ⟨fs,fl,hu,hfl,rfl,hti⟩:=rn hf
 obtain ⟨bb,o,rfl,hd,hl'⟩:=tA hy hx hl
 refine ⟨_, ?_,hd,hl'⟩
 simp [Instr.fieldAt,Sem.run_bind,run_underlying hu,hfl,Instr.sureAddr,fieldPlace,cn hti,hvc,Addr.add_lit]
theorem Gs {t : TypeId} {f : Nat} {x : SV} {u : Value} {vc : Prop} {r : SV} (h : np S t f x = some (vc, r)) (hvc : vc) (hl : x.lt st.nx)
  (hx:bu ρ (bL E st.bx ρ w) w x u):GZ S E st ρ w (Instr.field t u f) r:=by
 unfold np at h
 split at h
 ·rename_i cs
  obtain ⟨us,rfl,hs,h1,hd⟩:=hx
  split at h
  ·rename_i off sz hf
   simp only [Option.some.injEq,Prod.mk.injEq] at h
   obtain ⟨rfl,rfl⟩:=h
   obtain ⟨fs,fl,hu,hfl,rfl,hti⟩:=rn hf
   refine ⟨.agg (us.extract fl.offset (fl.offset+sz)), ?_,⟨_,rfl,by simp;omega,fun j hj => ?_,fun j => ?_⟩,fun c hc=>hl c (kQ hc)⟩
   ·simp [Instr.field,Sem.run_bind,run_underlying hu,hfl,asAgg,jf hti]
   ·have hj':j<sz:=by
     have:=hj
     simp at this
     omega
    have e:(us.extract fl.offset (fl.offset+sz)).getD j undef=us.getD (fl.offset+j) undef:=by
     simp only [Array.getD_eq_getD_getElem?,Array.getElem?_extract]
     rw [if_pos (by omega)]
    rw [e];exact h1 _ (by omega)
   ·by_cases hj:j<sz
    ·rw [gP hvc hj]
     have:=hd (fl.offset+j)
     have e:(us.extract fl.offset (fl.offset+sz)).getD j undef=us.getD (fl.offset+j) undef:=by
      simp only [Array.getD_eq_getD_getElem?,Array.getElem?_extract]
      rw [if_pos (by omega)]
     rw [e];exact this
    ·rw [kx hj];trivial
  ·rename_i off sz hf
   simp only [Option.some.injEq,Prod.mk.injEq] at h
   obtain ⟨rfl,rfl⟩:=h
   obtain ⟨fs,fl,hu,hfl,rfl,hti⟩:=rn hf
   refine ⟨_, ?_,hd fl.offset,CV.lt_getD hl _⟩
   simp [Instr.field,Sem.run_bind,run_underlying hu,hfl,asAgg,je hti w us fl.offset (by omega)]
  ·simp at h
 ·simp at h
theorem Bo {vs : List BV} {i : Nat} {u : Value} (hvc : i < vs.length) (hl : (SV.tup vs).lt st.nx) (hx : bu ρ (bL E st.bx ρ w) w (.tup vs) u) :
  GZ S E st ρ w (Instr.extract u i) (.b (vs.getD i .any)):=by
 obtain ⟨us,rfl,hs,hd⟩:=hx
 refine ⟨us.getD i undef, ?_,hd i,BV.lt_getD hl i⟩
 have:i<us.size:=by omega
 simp [Instr.extract,this]
end
end Go.SL
namespace Go.SL
open Go
section
variable {S:Env} {E:Ent} {st:St} {ρ:fQ} {a:Act} {w:World}
theorem Al {i:Int} {n:Nat} (h:0≤i∧i<(n:Int)):i.toNat<n:=by omega
theorem vX {t : TypeId} {x i : SV} {u ui : Value} {vc : Prop} {r : SV} (h : gw S t x i = some (vc, r)) (hvc : vc)
  (hl:x.lt st.nx) (hx:bu ρ (bL E st.bx ρ w) w x u) (hi:bu ρ (bL E st.bx ρ w) w i ui):GZ S E st ρ w (Instr.indexAt t u ui) r:=by
 unfold gw at h
 split at h
 ·rename_i sz n f k i
  cases hi
  split at h
  ·rename_i e s b he
   simp only [Option.some.injEq,Prod.mk.injEq] at h
   obtain ⟨rfl,rfl⟩:=h
   obtain ⟨hb,rfl⟩:=hvc
   obtain ⟨hu,hti⟩:=ln he
   obtain ⟨ad,c,rfl,hn,hh⟩:=hx
   obtain ⟨bb,o,rfl,hok,hc⟩:=hh (by omega)
   refine ⟨.pointer (some ⟨bb,o+i.toNat * sz,none⟩), ?_,⟨bb,o+i.toNat * sz,rfl,hok,fun j hj => ?_⟩,trivial⟩
   ·simp [Instr.indexAt,Sem.run_bind,asIntOf,run_underlying hu,hb,cn hti,Addr.add_lit]
   ·obtain ⟨x,hx,h1,hd⟩:=hc i.toNat (Al hb) j hj
    exact ⟨x,by rw [Nat.add_assoc];exact hx,h1,hd⟩
  ·simp at h
 ·rename_i id n k i
  cases hi
  split at h
  ·rename_i e s b he
   simp only [Option.some.injEq,Prod.mk.injEq] at h
   obtain ⟨rfl,rfl⟩:=h
   obtain ⟨hu,hti⟩:=ln he
   obtain ⟨ad,m,c,hr,hnm,hmc,hb',rfl⟩:=hx
   obtain ⟨gb,rfl⟩:=hb' (by omega)
   refine ⟨.pointer (some ⟨gb,i.toNat * s,none⟩), ?_,⟨gb,m,c,hr,by rw [Nat.add_zero]⟩,hl⟩
   simp [Instr.indexAt,Sem.run_bind,asIntOf,run_underlying hu,hvc,cn hti,Addr.add_lit]
  ·simp at h
 ·rename_i k i _ _
  cases hi
  split at h
  ·rename_i len e s b he
   obtain ⟨y,hm,hq⟩:=Option.map_eq_some_iff.1 h
   simp only [Prod.mk.injEq] at hq
   obtain ⟨rfl,rfl⟩:=hq
   obtain ⟨hu,hti⟩:=vx he
   obtain ⟨bb,o,rfl,hd,hl'⟩:=tA hm hx hl
   refine ⟨_, ?_,hd,hl'⟩
   simp [Instr.indexAt,Sem.run_bind,asIntOf,run_underlying hu,hvc,cn hti,Addr.add_lit,Instr.sureAddr]
  ·simp at h
 ·simp at h
theorem GF {t : TypeId} {x i : SV} {u ui : Value} {vc : Prop} {r : SV} (h : nk S t x i = some (vc, r)) (hvc : vc)
  (hl:x.lt st.nx) (hx:bu ρ (bL E st.bx ρ w) w x u) (hi:bu ρ (bL E st.bx ρ w) w i ui):GZ S E st ρ w (Instr.index t u ui) r:=by
 unfold nk at h
 split at h
 ·rename_i cs k i
  cases hi
  obtain ⟨us,rfl,hs,h1,hd⟩:=hx
  split at h
  ·rename_i len e s he
   simp only [Option.some.injEq,Prod.mk.injEq] at h
   obtain ⟨rfl,rfl⟩:=h
   obtain ⟨hb,hle⟩:=hvc
   obtain ⟨hu,hti⟩:=vx he
   refine ⟨.agg (us.extract (i.toNat * s) (i.toNat * s+s)), ?_,⟨_,rfl,by simp;omega,fun j hj => ?_,fun j => ?_⟩,fun c hc=>hl c (kQ hc)⟩
   ·simp [Instr.index,Sem.run_bind,asIntOf,run_underlying hu,hb,cn hti,jf hti]
   ·have hj':j<s:=by
     have:=hj
     simp at this
     omega
    have e:(us.extract (i.toNat * s) (i.toNat * s+s)).getD j undef=us.getD (i.toNat * s+j) undef:=by
     simp only [Array.getD_eq_getD_getElem?,Array.getElem?_extract]
     rw [if_pos (by omega)]
    rw [e];exact h1 _ (by omega)
   ·by_cases hj:j<s
    ·rw [gP hle hj]
     have e:(us.extract (i.toNat * s) (i.toNat * s+s)).getD j undef=us.getD (i.toNat * s+j) undef:=by
      simp only [Array.getD_eq_getD_getElem?,Array.getElem?_extract]
      rw [if_pos (by omega)]
     rw [e];exact hd _
    ·rw [kx hj];trivial
  ·rename_i len e s he
   simp only [Option.some.injEq,Prod.mk.injEq] at h
   obtain ⟨rfl,rfl⟩:=h
   obtain ⟨hb,hle⟩:=hvc
   obtain ⟨hu,hti⟩:=vx he
   refine ⟨_, ?_,hd (i.toNat * s),CV.lt_getD hl _⟩
   simp [Instr.index,Sem.run_bind,asIntOf,run_underlying hu,hb,cn hti,je hti w us (i.toNat * s) (by omega)]
  ·simp at h
 ·rename_i b k i
  cases hi
  cases hx
  split at h
  ·rename_i hu
   simp only [Option.some.injEq,Prod.mk.injEq] at h
   obtain ⟨rfl,rfl⟩:=h
   have hlt:i.toNat<b.size:=by omega
   refine ⟨_, ?_,rfl,trivial⟩
   simp [Instr.index,Sem.run_bind,asIntOf,run_underlying hu,hvc.1,hlt,ByteArray.get!]
   rfl
  ·simp at h
 ·simp at h
theorem Hy {op : BinOp} {k : IntKind} {x y : Int} {vc : Prop} {v : Value} (h : Ik op k x y = some (vc, v)) (hvc : vc) (t : TypeId) (w : World) :
  (binOp op t (.int k x) (.int k y)).run S.P w = .ok v w:=by
 unfold Ik at h
 split at h <;> simp only [Option.some.injEq,Prod.mk.injEq,reduceCtorEq] at h <;> obtain ⟨rfl,rfl⟩:=h <;>
  simp [binOp,Op.intArith,Op.intDiv,Op.intBits,Op.intCmp] <;> (intro h;exact absurd h hvc)
theorem mT (op:BinOp) (t:TypeId) (x y:Operand) (k k':IntKind) (m n:Int) (w:World):(eqGuard op t x y (.int k m) (.int k' n)).run S.P w = .ok () w:=by
 unfold eqGuard;split <;> rfl
theorem pW (op:BinOp) (t:TypeId) (x y:Operand) (m n:Bool) (w:World):(eqGuard op t x y (.bool m) (.bool n)).run S.P w = .ok () w:=by
 unfold eqGuard;split <;> rfl
theorem jy (op:BinOp) (t:TypeId) (x y:Operand) (m n:ByteArray) (w:World):(eqGuard op t x y (.string m) (.string n)).run S.P w = .ok () w:=by
 unfold eqGuard;split <;> rfl
theorem oj (op:BinOp) (t:TypeId) (x y:Operand) (a b:Option Addr) (n c n' c':Nat) (w:World):(eqGuard op t x y (.slice a n c) (.slice b n' c')).run S.P w = .ok () w:=by
 unfold eqGuard;split <;> rfl
theorem sN {P : Program} (w : World) (d : Nat) (t e : TypeId) (a : Option Addr) (n c n' c' : Nat) (h : P.underlying t = some (.slice e)) :
  (Op.equalIn (d+1) t (.slice a n c) (.slice none n' c')).run P w = .ok a.isNone w:=by
 cases a <;> simp [Op.equalIn,run_underlying h]
theorem rT (op:BinOp) (t:TypeId) (x y:Operand) (a b:Option Addr) (w:World):(eqGuard op t x y (.pointer a) (.pointer b)).run S.P w = .ok () w:=by
 unfold eqGuard;split <;> rfl
theorem sE {P:Program} (w:World) (d:Nat) (t e:TypeId) (a:Addr) (h:P.underlying t=some (.pointer e)):(Op.equalIn (d+1) t (.pointer (some a)) (.pointer none)).run P w = .ok false w:=by
 simp [Op.equalIn,run_underlying h]
theorem rM {P:Program} (w:World) (t e:TypeId) (a:Addr) (h:P.underlying t=some (.pointer e)):(binOp .eql t (.pointer (some a)) (.pointer none)).run P w = .ok (.bool false) w:=by
 simp only [binOp]
 simp [Op.equal,Op.maxDepth,sE w 9999 t e a h]
theorem ss {P : Program} (w : World) (t e : TypeId) (a : Option Addr) (n c n' c' : Nat) (h : P.underlying t = some (.slice e)) :
  (binOp .eql t (.slice a n c) (.slice none n' c')).run P w = .ok (.bool a.isNone) w:=by
 simp only [binOp]
 simp [Op.equal,Op.maxDepth,sN w 9999 t e a n c n' c' h]
theorem wC {xs:Array Value} {off n:Nat} {v:Value} (h:(xs.toList.drop off).take n=[v]):off<xs.size∧xs.getD off undef=v:=by
 have h1:((xs.toList.drop off).take n)[0]?=some v:=by rw [h];rfl
 rw [List.getElem?_take] at h1
 split at h1
 ·rw [List.getElem?_drop] at h1
  have hlt:off<xs.toList.length:=by
   rcases Nat.lt_or_ge off xs.toList.length with q|q
   ·exact q
   ·rw [List.getElem?_eq_none (by omega)] at h1;cases h1
  refine ⟨by simpa using hlt, ?_⟩
  rw [Nat.add_zero,Array.getElem?_toList] at h1
  rw [Array.getD_eq_getD_getElem?,h1];rfl
 ·cases h1
theorem xO {x:Option Bool} {r:List (Option Bool)} {b:Bool} (h:Ax (x :: r)=some b):∃ a c,x=some a∧Ax r=some c∧b=(a && c):=by
 cases x with
 | none=>cases h
 | some a =>
  simp only [Ax,Option.map_eq_some_iff] at h
  obtain ⟨c,h1,h2⟩:=h
  exact ⟨a,c,rfl,h1,h2.symm⟩
theorem mG (xs:Array Value) (off n:Nat):(xs.extract off (off+n)).toList=(xs.toList.drop off).take n:=by
 rw [Array.toList_extract]
 simp [List.extract]
def XJ (S:Env) (d:Nat):Prop:=∀ (k:Nat) (w:World) (t:TypeId) (xs ys:Array Value) (off:Nat) (r:Bool),
 JU S.P d t ((xs.toList.drop off).take (S.P.cellsOf t)) ((ys.toList.drop off).take (S.P.cellsOf t))=some r →
  ∃ a b,(part t xs off).run S.P w = .ok a w∧(part t ys off).run S.P w = .ok b w∧(Op.equalIn (k+d) t a b).run S.P w = .ok r w
theorem WQ {d : Nat} (IH : XJ S d) (k : Nat) (w : World) (t : TypeId) (xs ys : Array Value) (r : Bool) (hag : (∃ fs, S.P.underlying t = some (.struct fs)) ∨ ∃ n e, S.P.underlying t = some (.array n e))
  (h:JU S.P (d+1) t xs.toList ys.toList=some r):(Op.equalIn (k+(d+1)) t (.agg xs) (.agg ys)).run S.P w = .ok r w:=by
 rcases hag with ⟨fs,hu⟩|⟨n,e,hu⟩
 ·simp only [JU,hu] at h
  split at h
  ·cases h
  ·rename_i hs
   have hfs:S.P.fieldsOf t=fs:=by simp [Program.fieldsOf,hu]
   rw [show k+(d+1)=(k+d)+1 from rfl,run_equalIn_struct w (k+d) t xs ys (by rw [hfs];exact hu) (by simpa using hs),hfs]
   generalize fs.toList=l at h ⊢
   clear hfs hu
   induction l generalizing r with
   | nil =>
    simp only [List.map_nil,Ax,Option.some.injEq] at h
    subst h;simp [Op.eqFields]
   | cons f l ih =>
    rw [List.map_cons] at h
    obtain ⟨a,c,h1,h2,rfl⟩:=xO h
    split at h1
    ·cases h1
    ·rename_i hn
     obtain ⟨x,y,p1,p2,p3⟩:=IH k w f.type xs ys f.offset a h1
     have h3:=ih c h2
     simp only [Op.eqFields,hn,ne_eq,not_false_eq_true,if_true,Sem.run_bind,p1,p2,p3,Result.andThen_ok]
     cases a
     ·simp
     ·simpa using h3
 ·simp only [JU,hu] at h
  cases hi:S.P.info? e with
  | none=>rw [hi] at h;simp at h
  | some i =>
   rw [hi] at h
   simp only [Option.isNone_some,Bool.false_eq_true,if_false] at h
   rw [show k+(d+1)=(k+d)+1 from rfl,run_equalIn_array w (k+d) xs ys hu hi]
   generalize List.range n=l at h ⊢
   clear hu
   induction l generalizing r with
   | nil =>
    simp only [List.map_nil,Ax,Option.some.injEq] at h
    subst h;simp [Op.eqItems]
   | cons f l ih =>
    rw [List.map_cons] at h
    obtain ⟨a,c,h1,h2,rfl⟩:=xO h
    obtain ⟨x,y,p1,p2,p3⟩:=IH k w e xs ys (f * S.P.cellsOf e) a h1
    have h3:=ih c h2
    simp only [Op.eqItems,Sem.run_bind,p1,p2,p3,Result.andThen_ok]
    cases a
    ·simp
    ·simpa using h3
theorem Wd (S:Env):∀ d,XJ S d
 | 0=>fun k w t xs ys off r h=>by simp [JU] at h
 | d+1=>fun k w t xs ys off r h=>by
  cases hu:S.P.underlying t with
  | none=>simp only [JU,hu] at h;cases h
  | some kd =>
   obtain ⟨i,hi⟩:=info_of_underlying hu
   have hsz:S.P.cellsOf t=i.size:=by simp [Program.cellsOf,hi]
   have agg:(∃ fs,S.P.underlying t=some (.struct fs))∨(∃ n e,S.P.underlying t=some (.array n e))→∃ a b,(part t xs off).run S.P w = .ok a w∧(part t ys off).run S.P w = .ok b w∧(Op.equalIn (k+(d+1)) t a b).run S.P w = .ok r w:=fun hag=>by
    have hti:S.ti t=some (i.size,true):=by
     rcases hag with ⟨fs,hu⟩|⟨n,e,hu⟩ <;> simp [Env.ti,hi,hu]
    refine ⟨_,_,jf hti w xs off,jf hti w ys off,WQ (Wd S d) k w t _ _ r hag ?_⟩
    rw [mG,mG,← hsz]
    exact h
   have one : S.ti t = some (i.size, false) → ∀ {x y : Value}, (xs.toList.drop off).take (S.P.cellsOf t) = [x] → (ys.toList.drop off).take (S.P.cellsOf t) = [y] → (Op.equalIn (k + d + 1) t x y).run S.P w = .ok r w →
     ∃ a b,(part t xs off).run S.P w = .ok a w∧(part t ys off).run S.P w = .ok b w∧(Op.equalIn (k+(d+1)) t a b).run S.P w = .ok r w:=fun hti x y h1 h2 h3=>by
    obtain ⟨l1,e1⟩:=wC h1
    obtain ⟨l2,e2⟩:=wC h2
    exact ⟨_,_,je hti w xs off l1,je hti w ys off l2,by rw [e1,e2];exact h3⟩
   simp only [JU,hu] at h
   split at h
   ·rename_i hk
    split at h
    ·rename_i a b h1 h2
     cases hk
     simp only [Option.some.injEq] at h
     subst h
     exact one (by simp [Env.ti,hi,hu]) h1 h2 (run_equalIn_bool w (k+d) t a b hu)
    ·cases h
   ·rename_i q hk
    split at h
    ·rename_i k1 a k2 b h1 h2
     cases hk
     split at h
     ·rename_i hkk
      subst hkk
      simp only [Option.some.injEq] at h
      subst h
      exact one (by simp [Env.ti,hi,hu]) h1 h2 (run_equalIn_int w (k+d) t k1 q a b hu)
     ·cases h
    ·cases h
   ·rename_i hk
    split at h
    ·rename_i a b h1 h2
     cases hk
     simp only [Option.some.injEq] at h
     subst h
     exact one (by simp [Env.ti,hi,hu]) h1 h2 (run_equalIn_string w (k+d) t a b hu)
    ·cases h
   ·rename_i fs hk
    cases hk
    exact agg (.inl ⟨_,hu⟩)
   ·rename_i n e hk
    cases hk
    exact agg (.inr ⟨_,_,hu⟩)
   ·cases h
theorem EU {t:TypeId} {xs ys:Array Value} {r:Bool} (h:S.eqv t xs.toList ys.toList=some r) (w:World):(Op.equalIn 10000 t (.agg xs) (.agg ys)).run S.P w = .ok r w∧S.P.eqGuardType S.P.depth t=false:=by
 unfold Env.eqv at h
 split at h
 ·rename_i fs hu
  split at h
  ·cases h
  ·rename_i hg
   exact ⟨WQ (Wd S 7) 9992 w t xs ys r (.inl ⟨_,hu⟩) h,by simpa using hg⟩
 ·rename_i n e hu
  split at h
  ·cases h
  ·rename_i hg
   exact ⟨WQ (Wd S 7) 9992 w t xs ys r (.inr ⟨_,_,hu⟩) h,by simpa using hg⟩
 ·cases h
theorem lX {ok:Nat→Prop}:∀ {cs:List CV} {l:List Value},mJ cs=some l→∀ {us:Array Value},us.size=cs.length→(∀ j,ca ρ ok w (cs.getD j .any) (us.getD j undef))→us.toList=l:=by
 have key:∀ {cs:List CV} {l:List Value},mJ cs=some l→∀ {us:List Value},us.length=cs.length→(∀ j,ca ρ ok w (cs.getD j .any) (us.getD j undef))→us=l:=by
  intro cs
  induction cs with
  | nil =>
   intro l h us hl _
   simp only [mJ,Option.some.injEq] at h
   subst h
   exact List.eq_nil_of_length_eq_zero hl
  | cons c cs ih =>
   intro l h us hl hd
   unfold mJ at h
   split at h
   ·cases ‹_ :: _=[]›
   ·rename_i v r hc
    simp only [List.cons.injEq] at hc
    obtain ⟨rfl,rfl⟩:=hc
    simp only [Option.map_eq_some_iff] at h
    obtain ⟨l',h1,rfl⟩:=h
    cases us with
    | nil=>cases hl
    | cons u us =>
     have h0:u=v:=hd 0
     rw [h0,ih h1 (by simpa using hl) fun j=>hd (j+1)]
   ·cases h
 intro cs l h us hl hd
 refine key h (by simpa using hl) fun j => ?_
 have:=hd j
 rwa [Array.getD_eq_getD_getElem?,← Array.getElem?_toList,← List.getD_eq_getElem?_getD] at this
theorem MD {op : BinOp} {t : TypeId} {X Y : Operand} {x y : SV} {u v : Value} {vc : Prop} {r : SV} (h : wV S op t x y = some (vc, r)) (hvc : vc)
  (hx:bu ρ (bL E st.bx ρ w) w x u) (hy:bu ρ (bL E st.bx ρ w) w y v):GZ S E st ρ w (do eqGuard op t X Y u v;binOp op t u v) r:=by
 unfold wV at h
 split at h
 ·rename_i k m k' n
  cases hx;cases hy
  split at h
  ·simp only [Option.some.injEq,Prod.mk.injEq] at h
   obtain ⟨rfl,rfl⟩:=h
   refine ⟨_, ?_,rfl,trivial⟩
   simp [mT,Sem.run_bind,binOp,Op.shift,Int.not_lt.2 hvc]
  ·simp only [Option.some.injEq,Prod.mk.injEq] at h
   obtain ⟨rfl,rfl⟩:=h
   refine ⟨_, ?_,rfl,trivial⟩
   simp [mT,Sem.run_bind,binOp,Op.shift,Int.not_lt.2 hvc]
  ·cases hb:Ik op k m n with
   | none=>simp [hb] at h
   | some z =>
    simp only [hb,Option.map_some,Option.some.injEq,Prod.mk.injEq] at h
    obtain ⟨rfl,rfl⟩:=h
    obtain ⟨rfl,hz⟩:=hvc
    refine ⟨z.2, ?_,rfl,trivial⟩
    simp [mT,Sem.run_bind,Hy (S:=S) (vc:=z.1) (v:=z.2) hb hz t w]
 ·cases hx;cases hy
  split at h
  ·rename_i hu
   simp only [Option.some.injEq,Prod.mk.injEq] at h
   obtain ⟨rfl,rfl⟩:=h
   refine ⟨_, ?_,rfl,trivial⟩
   simp only [pW,Sem.run_bind,Result.andThen_ok,binOp,Op.equal,Op.maxDepth,run_equalIn_bool (P:=S.P) w 9999 t _ _ hu]
   rfl
  ·rename_i hu
   simp only [Option.some.injEq,Prod.mk.injEq] at h
   obtain ⟨rfl,rfl⟩:=h
   refine ⟨_, ?_,rfl,trivial⟩
   simp only [pW,Sem.run_bind,Result.andThen_ok,binOp,Op.equal,Op.maxDepth,run_equalIn_bool (P:=S.P) w 9999 t _ _ hu]
   rfl
  ·simp at h
 ·rename_i m n
  cases hx;cases hy
  split at h
  ·simp only [Option.some.injEq,Prod.mk.injEq] at h
   obtain ⟨rfl,rfl⟩:=h
   refine ⟨_, ?_,rfl,trivial⟩
   simp [jy,Sem.run_bind,binOp,Op.stringOp]
  ·simp only [Option.some.injEq,Prod.mk.injEq] at h
   obtain ⟨rfl,rfl⟩:=h
   refine ⟨_, ?_,rfl,trivial⟩
   simp [jy,Sem.run_bind,binOp,Op.stringOp]
  ·simp only [Option.some.injEq,Prod.mk.injEq] at h
   obtain ⟨rfl,rfl⟩:=h
   refine ⟨_, ?_,rfl,trivial⟩
   have hm:¬ (((m.size+n.size:Nat):Int)>IntKind.i64.max):=by
    have:IntKind.i64.max=9223372036854775807:=rfl
    rw [this];omega
   simp only [jy,Sem.run_bind,binOp,Op.stringOp,Result.andThen_ok]
   rw [if_neg hm]
   rfl
  ·simp at h
 ·rename_i cs ds
  obtain ⟨us,rfl,s1,_,d1⟩:=hx
  obtain ⟨vs,rfl,s2,_,d2⟩:=hy
  split at h
  ·rename_i xs ys hxs hys
   simp only [Option.map_eq_some_iff,Prod.mk.injEq] at h
   obtain ⟨q,hq,rfl,rfl⟩:=h
   have e1:=lX hxs s1 d1
   have e2:=lX hys s2 d2
   subst e1;subst e2
   obtain ⟨hr,hg⟩:=EU hq w
   refine ⟨_, ?_,rfl,trivial⟩
   rw [Sem.run_bind,run_eqGuard_agg w _ t X Y us vs hg,Result.andThen_ok,run_eql_struct,hr];rfl
  ·rename_i xs ys hxs hys
   simp only [Option.map_eq_some_iff,Prod.mk.injEq] at h
   obtain ⟨q,hq,rfl,rfl⟩:=h
   have e1:=lX hxs s1 d1
   have e2:=lX hys s2 d2
   subst e1;subst e2
   obtain ⟨hr,hg⟩:=EU hq w
   refine ⟨_, ?_,rfl,trivial⟩
   rw [Sem.run_bind,run_eqGuard_agg w _ t X Y us vs hg,Result.andThen_ok,run_neq_struct,hr];rfl
  ·cases h
 ·cases hy
  obtain ⟨a,c,rfl,hn,hb⟩:=hx
  split at h
  ·rename_i e hu
   simp only [Option.some.injEq,Prod.mk.injEq] at h
   obtain ⟨rfl,rfl⟩:=h
   obtain ⟨b,o,rfl,_⟩:=hb hvc
   refine ⟨_, ?_,rfl,trivial⟩
   rw [Sem.run_bind,oj,Result.andThen_ok,ss w _ _ _ _ _ _ _ hu]
   rfl
  ·cases h
 ·cases hx;cases hy
  split at h
  ·rename_i e hu
   simp only [Option.some.injEq,Prod.mk.injEq] at h
   obtain ⟨rfl,rfl⟩:=h
   refine ⟨_, ?_,rfl,trivial⟩
   rw [Sem.run_bind,oj,Result.andThen_ok,ss w _ _ _ _ _ _ _ hu]
  ·cases h
 ·cases hy
  obtain ⟨b,o,_,rfl⟩:=hx
  split at h
  ·rename_i e hu
   simp only [Option.some.injEq,Prod.mk.injEq] at h
   obtain ⟨rfl,rfl⟩:=h
   refine ⟨_, ?_,rfl,trivial⟩
   rw [Sem.run_bind,rT,Result.andThen_ok,rM w _ _ _ hu]
  ·cases h
 ·cases hy
  obtain ⟨b,o,rfl,_⟩:=hx
  split at h
  ·rename_i e hu
   simp only [Option.some.injEq,Prod.mk.injEq] at h
   obtain ⟨rfl,rfl⟩:=h
   refine ⟨_, ?_,rfl,trivial⟩
   rw [Sem.run_bind,rT,Result.andThen_ok,rM w _ _ _ hu]
  ·cases h
 ·cases h
theorem Td {op : UnOp} {x : SV} {u : Value} {vc : Prop} {r : SV} (h : Gk op x = some (vc, r)) (hx : bu ρ (bL E st.bx ρ w) w x u) :
  GZ S E st ρ w (Op.unary op u) r:=by
 unfold Gk at h
 split at h
 ·cases hx
  split at h <;> simp only [Option.some.injEq,Prod.mk.injEq,reduceCtorEq] at h
  obtain ⟨rfl,rfl⟩:=h
  exact ⟨_,rfl,rfl,trivial⟩
 ·cases hx
  split at h <;> simp only [Option.some.injEq,Prod.mk.injEq,reduceCtorEq] at h
  ·obtain ⟨rfl,rfl⟩:=h
   exact ⟨_,rfl,rfl,trivial⟩
  ·obtain ⟨rfl,rfl⟩:=h
   exact ⟨_,rfl,rfl,trivial⟩
 ·simp at h
theorem HX {s d : TypeId} {x : SV} {u : Value} {vc : Prop} {r : SV} (h : qO S s d x = some (vc, r)) (hx : bu ρ (bL E st.bx ρ w) w x u) :
  GZ S E st ρ w (convert s d u) r:=by
 unfold qO at h
 split at h
 ·cases hx
  split at h <;> simp only [Option.some.injEq,Prod.mk.injEq,reduceCtorEq] at h
  rename_i ds k hs hd
  obtain ⟨rfl,rfl⟩:=h
  refine ⟨_, ?_,rfl,trivial⟩
  simp only [convert,Sem.run_bind,run_underlying hs,run_underlying hd,Result.andThen_ok]
  cases ds <;> simp [Conv.intToInt]
 ·cases hx
  split at h <;> simp only [Option.some.injEq,Prod.mk.injEq,reduceCtorEq] at h
  rename_i hs hd
  obtain ⟨rfl,rfl⟩:=h
  refine ⟨_, ?_,rfl,trivial⟩
  simp [convert,Sem.run_bind,run_underlying hs,run_underlying hd]
 ·simp at h
theorem OU {t ty : TypeId} {x : SV} {u : Value} {vc : Prop} {r : SV} (h : xa S t x = some (vc, r)) (hx : bu ρ (bL E st.bx ρ w) w x u) :
  GZ S E st ρ w (Builtin.len_ #[t] ty #[u]) r:=by
 unfold xa at h
 split at h
 ·split at h <;> simp only [Option.some.injEq,Prod.mk.injEq,reduceCtorEq] at h
  rename_i hu
  obtain ⟨rfl,rfl⟩:=h
  obtain ⟨ad,c,rfl,_⟩:=hx
  exact ⟨_,by simp [Builtin.len_,Sem.run_bind,run_underlying hu,goInt],rfl,trivial⟩
 ·split at h <;> simp only [Option.some.injEq,Prod.mk.injEq,reduceCtorEq] at h
  rename_i hu
  obtain ⟨rfl,rfl⟩:=h
  obtain ⟨ad,m,c,_,_,_,_,rfl⟩:=hx
  exact ⟨_,by simp [Builtin.len_,Sem.run_bind,run_underlying hu,goInt],rfl,trivial⟩
 ·split at h <;> simp only [Option.some.injEq,Prod.mk.injEq,reduceCtorEq] at h
  rename_i hu
  obtain ⟨rfl,rfl⟩:=h
  cases hx
  exact ⟨_,by simp [Builtin.len_,Sem.run_bind,run_underlying hu,goInt],rfl,trivial⟩
 ·split at h <;> simp only [Option.some.injEq,Prod.mk.injEq,reduceCtorEq] at h
  rename_i hu
  obtain ⟨rfl,rfl⟩:=h
  cases hx
  exact ⟨_,by simp [Builtin.len_,Sem.run_bind,run_underlying hu,goInt],rfl,trivial⟩
 ·split at h <;> simp only [Option.some.injEq,Prod.mk.injEq,reduceCtorEq] at h
  rename_i hu
  obtain ⟨rfl,rfl⟩:=h
  exact ⟨_,by simp [Builtin.len_,Sem.run_bind,run_underlying hu,goInt],rfl,trivial⟩
theorem gv {ok : Nat → Prop} {x : Option SV} {y : Option Int} {u : Option Value} (h : zE? x = some y) (hn : x = none ↔ u = none)
  (hx:∀ s v,x=some s→u=some v→bu ρ ok w s v):(y=none∧u=none)∨∃ k i,y=some i∧u=some (.int k i):=by
 unfold zE? at h
 split at h <;> simp only [Option.some.injEq,reduceCtorEq] at h
 ·exact .inl ⟨h.symm,hn.1 rfl⟩
 ·rename_i k i
  subst h
  cases u with
  | none=>simp at hn
  | some v=>exact .inr ⟨k,i,rfl,by have:=hx _ v rfl rfl;simp only [bu,bR,ca,bt] at this;rw [this]⟩
theorem mb {isS : Bool} {len cap : Nat} {lo hi : Option Int} {ul uh : Option Value} (hl : (lo = none ∧ ul = none) ∨ ∃ k i, lo = some i ∧ ul = some (.int k i))
  (hh:(hi=none∧uh=none)∨∃ k i,hi=some i∧uh=some (.int k i)) (hlc:len≤cap)
  (h0:0≤lo.getD 0) (h1:lo.getD 0≤hi.getD len) (h2:hi.getD len≤len) (P:Program) (w:World) :
  (Instr.sliceBounds isS len cap ul uh none).run P w = .ok ((lo.getD 0).toNat,(hi.getD len).toNat,cap) w:=by
 rcases hl with ⟨rfl,rfl⟩|⟨k,i,rfl,rfl⟩ <;> rcases hh with ⟨rfl,rfl⟩|⟨k',i',rfl,rfl⟩ <;> simp only [Option.getD_none,Option.getD_some] at h0 h1 h2 ⊢
 ·simp [Instr.sliceBounds,Sem.run_bind]
 ·have e2:0≤i'∧i'≤(cap:Int):=by omega
  simp [Instr.sliceBounds,Sem.run_bind,Instr.sliceBound,asIntOf,e2]
 ·simp [Instr.sliceBounds,Sem.run_bind,Instr.sliceBound,asIntOf,h0,h1]
 ·have e1:0≤i∧i≤(i'.toNat:Int):=by omega
  have e2:0≤i'∧i'≤(cap:Int):=by omega
  simp only [Instr.sliceBounds,Sem.run_bind,Instr.sliceBound,asIntOf,Sem.run_pure,Result.andThen_ok,Sem.run_ite]
  rw [if_pos e2]
  simp only [Result.andThen_ok,Sem.run_bind,Sem.run_pure,Sem.run_ite]
  rw [if_pos e1]
  rfl
theorem Gx {t : TypeId} {x : SV} {lo hi : Option SV} {u : Value} {ul uh : Option Value} {vc : Prop} {r : SV} (h : pJ S t x lo hi = some (vc, r)) (hvc : vc)
  (hl:x.lt st.nx) (hx:bu ρ (bL E st.bx ρ w) w x u)
  (hln:lo=none↔ul=none) (hlo:∀ s v,lo=some s→ul=some v→bu ρ (bL E st.bx ρ w) w s v)
  (hhn:hi=none↔uh=none) (hhi:∀ s v,hi=some s→uh=some v→bu ρ (bL E st.bx ρ w) w s v) :
  GZ S E st ρ w (Instr.sliceAt t u ul uh none) r:=by
 unfold pJ at h
 split at h
 ·rename_i sz n f lo' hi' e hlb hhb hu
  simp only [Option.some.injEq,Prod.mk.injEq] at h
  obtain ⟨rfl,rfl⟩:=h
  obtain ⟨⟨h0,h1,h2⟩,hs⟩:=hvc
  obtain ⟨ad,c,rfl,hn,hh⟩:=hx
  cases hti:S.ti e with
  | none=>simp [hti] at hs
  | some z =>
   obtain ⟨s,b⟩:=z
   simp only [hti,Option.map_some,Option.some.injEq] at hs
   subst hs
   have hb:=mb (isS:=true) (gv hlb hln hlo) (gv hhb hhn hhi) hn h0 h1 h2 S.P w
   refine ⟨_,by simp only [Instr.sliceAt,Instr.slice,Sem.run_bind,run_underlying hu,Result.andThen_ok,hb,cn hti,Sem.run_pure];rfl,⟨_,_,rfl,by omega,fun hpos => ?_⟩,trivial⟩
   obtain ⟨bb,o,rfl,hok,hc⟩:=hh (by omega)
   rw [if_neg (by omega)]
   refine ⟨bb,o+(lo'.getD 0).toNat * s,by simp [Addr.add_lit],hok,fun i hi j hj => ?_⟩
   obtain ⟨x,hx,h1,hd⟩:=hc ((lo'.getD 0).toNat+i) (by omega) j hj
   refine ⟨x, ?_,h1,hd⟩
   rw [← hx,Nat.add_mul]
   congr 2
   omega
 ·rename_i id n hi' e hlb hhb hu
  simp only [Option.some.injEq,Prod.mk.injEq] at h
  obtain ⟨rfl,rfl⟩:=h
  obtain ⟨⟨h0,h1⟩,hs⟩:=hvc
  obtain ⟨ad,m,c,hr,hnm,hmc,hb',rfl⟩:=hx
  cases hti:S.ti e with
  | none=>simp [hti] at hs
  | some z =>
   obtain ⟨s,b⟩:=z
   have hb:=mb (isS:=true) (gv hlb hln hlo) (gv hhb hhn hhi) (Nat.le_trans hnm hmc) (by simp) (by simpa using h0) (by simpa using h1) S.P w
   refine ⟨_,by simp only [Instr.sliceAt,Instr.slice,Sem.run_bind,run_underlying hu,Result.andThen_ok,hb,cn hti,Sem.run_pure];rfl,⟨ad,m,c,hr,by omega,hmc,hb', ?_⟩,hl⟩
   have ea:ad.map (·.add 0)=ad:=by cases ad <;> simp [Addr.add]
   simp only [Option.getD_some,Option.getD_none,Int.toNat_zero,Nat.zero_mul,ea,ite_self,Nat.sub_zero]
 ·rename_i id n lo' hi' e hlb hhb hu
  simp only [Option.some.injEq,Prod.mk.injEq] at h
  obtain ⟨rfl,rfl⟩:=h
  obtain ⟨⟨h0,h1,h2⟩,hs⟩:=hvc
  obtain ⟨ad,m,c,hr,hnm,hmc,hb',rfl⟩:=hx
  cases hti:S.ti e with
  | none=>simp [hti] at hs
  | some z =>
   obtain ⟨s,b⟩:=z
   obtain ⟨gb,rfl⟩:=hb' (by omega)
   have hb:=mb (isS:=true) (gv hlb hln hlo) (gv hhb hhn hhi) (Nat.le_trans hnm hmc) (by simpa using h0) (by simp only [Option.getD_some];omega) (by simp only [Option.getD_some];omega) S.P w
   refine ⟨_,by simp only [Instr.sliceAt,Instr.slice,Sem.run_bind,run_underlying hu,Result.andThen_ok,hb,cn hti,Sem.run_pure];rfl,⟨gb,m,c,c - lo'.toNat,hr,by omega, ?_⟩,hl⟩
   simp only [Option.getD_some,Option.map_some,hti]
   rw [if_neg (by omega)]
   simp [Addr.add_lit]
 ·rename_i bs lo' hi' hlb hhb hu
  simp only [Option.some.injEq,Prod.mk.injEq] at h
  obtain ⟨rfl,rfl⟩:=h
  obtain ⟨h0,h1,h2⟩:=hvc
  cases hx
  have hb:=mb (isS:=false) (gv hlb hln hlo) (gv hhb hhn hhi) (Nat.le_refl bs.size) h0 h1 h2 S.P w
  exact ⟨_,by simp [Instr.sliceAt,Instr.slice,Sem.run_bind,run_underlying hu,hb],rfl,trivial⟩
 ·simp at h
theorem tB {ok:Nat→Prop} {x:SV} {b:Bool} {u:Value} (h:bu ρ ok w x u) (hs:x.strip = .t b) (hc:x.cond):u = .bool b:=by
 have:=jt h hc
 rw [hs] at this
 exact this
theorem IX {c x y : SV} {uc ux uy : Value} {vc : Prop} {r : SV} (h : rb c x y = some (vc, r)) (hvc : vc)
  (hc:bu ρ (bL E st.bx ρ w) w c uc) (hx:bu ρ (bL E st.bx ρ w) w x ux) (hy:bu ρ (bL E st.bx ρ w) w y uy) :
  GZ S E st ρ w (do pure (if ← asBool uc then ux else uy)) r:=by
 unfold rb at h
 split at h
 ·rename_i t m n h1 h2 h3
  simp only [Option.some.injEq,Prod.mk.injEq] at h
  obtain ⟨rfl,rfl⟩:=h
  obtain ⟨v1,v2,v3⟩:=hvc
  have e1:=tB hc h1 v1
  subst e1
  cases t with
  | true =>
   have e2:=tB hx h2 (v2 rfl)
   exact ⟨_,by simp [asBool,Sem.run_bind];rfl,by rw [e2];rfl,trivial⟩
  | false =>
   have e2:=tB hy h3 (v3 rfl)
   exact ⟨_,by simp [asBool,Sem.run_bind];rfl,by rw [e2];rfl,trivial⟩
 ·simp at h
theorem mY:∀ {l:List SV} {x:SV},aV l→x ∈ l→x.cond
 | _ :: _,_,h, .head _=>h.1
 | _ :: _,_,h, .tail _ hm=>mY h.2 hm
theorem sW {x:SV} {k:IntKind} {m:Int} {ok:Nat→Prop} {u:Value} (h:x = .v (.int k m)) (hd:bu ρ ok w x u):u = .int k m:=by subst h;exact hd
theorem ep {s:Sem Value} {r:SV} (h:GZ S E st ρ w s r):∃ v,(do pure (Next.value (← s)):Sem Next).run S.P w = .ok (.value v) w∧bu ρ (bL E st.bx ρ w) w r v∧r.lt st.nx:=by
 obtain ⟨v,hr,hd,hl⟩:=h
 exact ⟨v,by simp [Sem.run_bind,hr],hd,hl⟩
theorem AK:∀ {l:List Operand} {ps:List (Nat × Nat)},il (l.map fun x=>(st.ev S x).strip)=some ps→l.length=ps.length∧∀ j,j<ps.length→∃ x,l[j]?=some x∧(st.ev S x).strip = .b (.c (.ptr (ps.getD j (0,0)).1 (ps.getD j (0,0)).2))
 | [],ps,h=>by simp only [List.map_nil,il,Option.some.injEq] at h;subst h;exact ⟨rfl,fun j hj=>absurd hj (Nat.not_lt_zero _)⟩
 | x :: l,ps,h=>by
  simp only [List.map_cons] at h
  cases hx:(st.ev S x).strip with
  | b y =>
   rw [hx] at h
   cases y with
   | c z =>
    cases z with
    | ptr id off =>
     simp only [il] at h
     cases hp:il (l.map fun x=>(st.ev S x).strip) with
     | none=>rw [hp] at h;cases h
     | some ps2 =>
      rw [hp] at h
      simp only [Option.map_some,Option.some.injEq] at h
      subst h
      obtain ⟨h1,h2⟩:=AK hp
      refine ⟨by simp [h1],fun j hj => ?_⟩
      cases j with
      | zero=>exact ⟨x,rfl,hx⟩
      | succ j=>exact h2 j (by simpa using hj)
    | _=>simp [il] at h
   | agg=>simp [il] at h
  | _=>rw [hx] at h;simp [il] at h
theorem yW {o : Oper} {vc : Prop} {r : SV} (h : bj S st.bx (st.ev S) o.op = some (vc, r)) (hc : ∀ x ∈ o.op.operands, (st.ev S x).cond) (hvc : vc) (g : Gam S E st ρ a w) :
  ∃ v,(execOp a.eval o).run S.P w = .ok (.value v) w∧bu ρ (bL E st.bx ρ w) w r v∧r.lt st.nx:=by
 have D:∀ x,x ∈ o.op.operands→bu ρ (bL E st.bx ρ w) w (st.ev S x).strip (a.eval x):=fun x hx=>jt (g.ev x).1 (hc x hx)
 have L:∀ x,(st.ev S x).strip.lt st.nx:=fun x=>qt (g.ev x).2
 obtain ⟨dst,op,ty,pos,after,guard⟩:=o
 cases op <;> simp only [bj,reduceCtorEq] at h <;> simp only [Op.operands] at D
 case load t x=>exact ep (tZ h hvc g (D x (by simp)))
 case fieldAddr t x f =>
  split at h
  ·rename_i off sz b hf
   cases hm:mM off (st.ev S x).strip with
   | none=>simp [hm] at h
   | some y =>
    simp only [hm,Option.map_some,Option.some.injEq,Prod.mk.injEq] at h
    obtain ⟨rfl,rfl⟩:=h
    exact ep (wh hf hm hvc (L x) (D x (by simp)))
  ·simp at h
 case field t x f=>exact ep (Gs h hvc (L x) (D x (by simp)))
 case indexAddr t x i=>exact ep (vX h hvc (L x) (D x (by simp)) (D i (by simp)))
 case index t x i=>exact ep (GF h hvc (L x) (D x (by simp)) (D i (by simp)))
 case extract x i =>
  split at h
  ·rename_i vs hx
   simp only [Option.some.injEq,Prod.mk.injEq] at h
   obtain ⟨rfl,rfl⟩:=h
   exact ep (Bo hvc (hx ▸ L x) (hx ▸ D x (by simp)))
  ·simp at h
 case binOp op t x y yt=>exact ep (MD h hvc (D x (by simp)) (D y (by simp)))
 case unOp op t x=>exact ep (Td h (D x (by simp)))
 case convert s d x=>exact ep (HX h (D x (by simp)))
 case makeFunc fn first cap =>
  split at h <;> simp only [Option.some.injEq,Prod.mk.injEq,reduceCtorEq] at h
  rename_i f ps hfst hps
  obtain ⟨rfl,rfl⟩:=h
  have hf:first = #[]:=by rw [← Array.toArray_toList (xs:=first),hfst]
  subst hf
  obtain ⟨h1,h2⟩:=AK hps
  have h1':cap.size=ps.length:=by simpa using h1
  refine ⟨.func (.func f) #[] (cap.map a.eval),by simp [execOp,Instr.makeFunc],⟨_,rfl,by simpa using h1,fun j hj => ?_⟩,fun p hp => ?_⟩
  ·obtain ⟨x,hx,he⟩:=h2 j hj
   have hj':j<cap.size:=by omega
   have hxe:cap[j]=x:=by
    have:cap.toList[j]?=some x:=hx
    simpa [hj'] using this
   have hd:=D x (by rw [← hxe];simp)
   rw [he] at hd
   obtain ⟨b,o,e1,e2⟩:=hd
   exact ⟨b,o,e1,by simp [hj',hxe,e2]⟩
  ·obtain ⟨j,hj,rfl⟩:=List.getElem_of_mem hp
   obtain ⟨x,hx,he⟩:=h2 j hj
   have hl:=L x
   rw [he] at hl
   have e:ps.getD j (0,0)=ps[j]:=by simp [List.getD_eq_getElem?_getD,hj]
   rw [e] at hl
   exact hl
 case nilCheck x =>
  have hd:=D x (by simp)
  have hl:=L x
  simp only [execOp]
  split at h <;> simp only [Option.some.injEq,Prod.mk.injEq,reduceCtorEq] at h
  ·rename_i id off hx
   obtain ⟨rfl,rfl⟩:=h
   rw [hx] at hd hl
   obtain ⟨b,o,hr,he⟩:=hd
   exact ⟨_,by rw [he];rfl,⟨b,o,hr,rfl⟩,hl⟩
  ·rename_i id sz i off hx
   obtain ⟨rfl,rfl⟩:=h
   rw [hx] at hd hl
   obtain ⟨b,m,c,hr,he⟩:=hd
   exact ⟨_,by rw [he];rfl,⟨b,m,c,hr,rfl⟩,hl⟩
  ·rename_i sz gg off hx
   obtain ⟨rfl,rfl⟩:=h
   rw [hx] at hd hl
   obtain ⟨b,o,he,hok,hc⟩:=hd
   exact ⟨_,by rw [he];rfl,⟨b,o,rfl,hok,hc⟩,hl⟩
 case slice t x lo hi mx =>
  cases mx with
  | some _=>simp at h
  | none =>
   simp only at h
   refine ep (Gx h hvc (L x) (D x (by simp)) (by cases lo <;> simp) (fun s v h1 h2 => ?_) (by cases hi <;> simp) (fun s v h1 h2 => ?_))
   ·cases lo with
    | none=>simp at h1
    | some z=>simp only [Option.map_some,Option.some.injEq] at h1 h2;subst h1;subst h2;exact D z (by simp)
   ·cases hi with
    | none=>simp at h1
    | some z=>simp only [Option.map_some,Option.some.injEq] at h1 h2;subst h1;subst h2;exact D z (by simp)
 case call c =>
  obtain ⟨callee,args,at_⟩:=c
  simp only at h
  split at h
  ·rename_i _ _ _ x t h2 h3
   have ha:args = #[x]:=by rw [← Array.toArray_toList (xs:=args),h2]
   have ht:at_ = #[t]:=by rw [← Array.toArray_toList (xs:=at_),h3]
   subst ha;subst ht
   have:=OU (ty:=ty) h (D x (by simp [Call.operands]))
   obtain ⟨v,hr,hd,hl⟩:=this
   exact ⟨v,by simp [execOp,resolve,invoke,builtin,Sem.run_bind,hr],hd,hl⟩
  ·rename_i x y h2
   have ha:args = #[x,y]:=by rw [← Array.toArray_toList (xs:=args),h2]
   subst ha
   split at h <;> simp only [Option.some.injEq,Prod.mk.injEq,reduceCtorEq] at h
   rename_i k m k' n hx hy
   obtain ⟨rfl,rfl⟩:=h
   have e1:=sW hx (D x (by simp [Call.operands]))
   have e2:=sW hy (D y (by simp [Call.operands]))
   exact ⟨_,by simp [execOp,resolve,invoke,builtin,Sem.run_bind,e1,e2,Builtin.min_,Builtin.min2],rfl,trivial⟩
  ·rename_i x y h2
   have ha:args = #[x,y]:=by rw [← Array.toArray_toList (xs:=args),h2]
   subst ha
   split at h <;> simp only [Option.some.injEq,Prod.mk.injEq,reduceCtorEq] at h
   rename_i k m k' n hx hy
   obtain ⟨rfl,rfl⟩:=h
   have e1:=sW hx (D x (by simp [Call.operands]))
   have e2:=sW hy (D y (by simp [Call.operands]))
   exact ⟨_,by simp [execOp,resolve,invoke,builtin,Sem.run_bind,e1,e2,Builtin.max_,Builtin.max2],rfl,trivial⟩
  ·simp at h
theorem uY {o : Oper} {vc : Prop} {r : SV} (h : ro S st.bx (st.ev S) o.op = some (vc, r)) (hvc : vc) (g : Gam S E st ρ a w) :
  ∃ v,(execOp a.eval o).run S.P w = .ok (.value v) w∧bu ρ (bL E st.bx ρ w) w r v∧r.lt st.nx:=by
 unfold ro at h
 split at h
 ·rename_i x hx
  simp only [Option.some.injEq,Prod.mk.injEq] at h
  obtain ⟨rfl,rfl⟩:=h
  exact ⟨_,by simp only [execOp,hx];rfl,(g.ev x).1,(g.ev x).2⟩
 ·rename_i x hx
  simp only [Option.some.injEq,Prod.mk.injEq] at h
  obtain ⟨rfl,rfl⟩:=h
  exact ⟨_,by simp only [execOp,hx];rfl,(g.ev x).1,(g.ev x).2⟩
 ·rename_i c x y hx
  have:=ep (IX (S:=S) h hvc (g.ev c).1 (g.ev x).1 (g.ev y).1)
  obtain ⟨v,hr,hd,hl⟩:=this
  refine ⟨v, ?_,hd,hl⟩
  simp only [execOp,hx]
  simpa [Sem.run_bind] using hr
 ·split at h
  ·rename_i vc' r' hq
   simp only [Option.some.injEq,Prod.mk.injEq] at h
   obtain ⟨rfl,rfl⟩:=h
   exact yW hq (fun x hx=>mY hvc.1 (List.mem_map.2 ⟨x,by simpa using hx,rfl⟩)) hvc.2 g
  ·simp at h
end
end Go.SL
