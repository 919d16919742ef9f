/- Part of the proof: SlA, SlB, SlC, SlD, SlE, SlF, SlG, SlH, SlI. -/
import Derived.WalkKit
import Derived.Maps.AppendAt
set_option linter.unusedSimpArgs false
namespace Go.SL
open Go
section
inductive PV where
 | val (v:Value)
 | lst (sz n:Nat) (f:Nat→Nat→PV)
 | fn (g n:Nat) (sz:Nat→Nat) (f:Nat→Nat→PV)
 | any
inductive CV where
 | p (x:PV)
 | ptr (id off:Nat)
 | pel (id sz i off:Nat)
 | own (id n:Nat)
 | ipt (sz:Nat) (g:Nat→PV) (off:Nat)
 | clo (f:Nat) (ps:List (Nat × Nat))
 | sub (id sz lo n:Nat)
inductive BV where
 | c (x:CV)
 | agg (cs:List CV)
inductive SV where
 | b (x:BV)
 | tup (vs:List BV)
 | grd (p:Bool) (x:BV)
 | any
inductive Bx where
 | fix (cs:List CV)
 | arr (e sz n:Nat) (f:Nat→Nat→PV)
def mW:Value→Option Nat
 | .pointer (some a)=>some a.block
 | .slice (some a) _ _=>some a.block
 | _=>none
abbrev CV.any:CV := .p .any
abbrev BV.any:BV := .c (.p .any)
abbrev iN:=Nat→Value
def bq (ok:Nat→Prop) (w:World):PV→Value→Prop
 | .val v,u=>u=v
 | .lst sz n f, u => ∃ (a : Option Addr) (c : Nat), u = .slice a n c ∧ n ≤ c ∧
   (0<n→∃ b o,a=some ⟨b,o,none⟩∧ok b ∧
    ∀ i,i<n→∀ j,j<sz→∃ x,w.cell? ⟨b,o+(i * sz+j),none⟩=some x∧x.oneCell'=true∧bq ok w (f i j) x)
 | .fn g n sz f, u => ∃ vs : Array Value, u = .func (.func g) #[] vs ∧ vs.size = n ∧
   ∀ i,i<n→∃ b o,vs.getD i undef = .pointer (some ⟨b,o,none⟩)∧ok b∧∀ j,j<sz i→∃ x,w.cell? ⟨b,o+j,none⟩=some x∧x.oneCell'=true∧bq ok w (f i j) x
 | .any,_=>True
def cR (ρ:iN) (ok:Nat→Prop) (w:World):CV→Value→Prop
 | .p x,u=>bq ok w x u
 | .ptr id off,u=>∃ b o,ρ id = .pointer (some ⟨b,o,none⟩)∧u = .pointer (some ⟨b,o+off,none⟩)
 | .pel id sz i off,u=>∃ b m c,ρ id = .slice (some ⟨b,0,none⟩) m c∧u = .pointer (some ⟨b,i * sz+off,none⟩)
 | .own id n,u=>∃ a m c,ρ id = .slice a m c∧n≤m∧m≤c∧(0<m→∃ b,a=some ⟨b,0,none⟩)∧u = .slice a n c
 | .ipt sz g off, u => ∃ b o, u = .pointer (some ⟨b, o + off, none⟩) ∧ ok b ∧
   ∀ j,j<sz→∃ x,w.cell? ⟨b,o+j,none⟩=some x∧x.oneCell'=true∧bq ok w (g j) x
 | .clo f ps, u => ∃ vs : Array Value, u = .func (.func f) #[] vs ∧ vs.size = ps.length ∧
   ∀ j,j<ps.length→∃ b o,ρ (ps.getD j (0,0)).1 = .pointer (some ⟨b,o,none⟩)∧vs.getD j undef = .pointer (some ⟨b,o+(ps.getD j (0,0)).2,none⟩)
 | .sub id sz lo n,u=>∃ b m c c',ρ id = .slice (some ⟨b,0,none⟩) m c∧lo+n≤m∧u = .slice (some ⟨b,lo * sz,none⟩) n c'
def di (ρ:iN) (ok:Nat→Prop) (w:World):BV→Value→Prop
 | .c x,u=>cR ρ ok w x u
 | .agg cs,u=>∃ us:Array Value,u = .agg us∧us.size=cs.length∧(∀ j,j<us.size→(us.getD j undef).oneCell'=true)∧∀ j,cR ρ ok w (cs.getD j .any) (us.getD j undef)
def bB (ρ:iN) (ok:Nat→Prop) (w:World):SV→Value→Prop
 | .b x,u=>di ρ ok w x u
 | .tup vs,u=>∃ us:Array Value,u = .tuple us∧us.size=vs.length∧∀ j,di ρ ok w (vs.getD j .any) (us.getD j undef)
 | .grd p x,u=>(p=true→di ρ ok w x u)∧(p=false→u=undef)
 | .any,_=>True
def jC (ρ:iN) (ok:Nat→Prop) (w:World):Bx→Value→Prop
 | .fix cs, v => ∃ b o cells t, v = .pointer (some ⟨b, o, none⟩) ∧ w.heap[b]? = some (.cells cells t (0, 0)) ∧ o + cs.length ≤ cells.size ∧
   (∀ j,j<cs.length→(cells.getD (o+j) undef).oneCell'=true)∧∀ j,cR ρ ok w (cs.getD j .any) (cells.getD (o+j) undef)
 | .arr e sz n f,v=>0<sz∧∃ xs,w.ownsRow 0 e sz v n xs∧(∀ x ∈ xs,x.oneCell'=true)∧∀ i,i<n→∀ j,j<sz→bq ok w (f i j) (xs.getD (i * sz+j) undef)
def CV.lt (nx:Nat):CV→Prop
 | .ptr id _=>id<nx
 | .pel id _ _ _=>id<nx
 | .own id _=>id<nx
 | .clo _ ps=>∀ p ∈ ps,p.1<nx
 | .sub id _ _ _=>id<nx
 | _=>True
def BV.lt (nx:Nat):BV→Prop
 | .c x=>x.lt nx
 | .agg cs=>∀ c ∈ cs,CV.lt nx c
def SV.lt (nx:Nat):SV→Prop
 | .b x=>x.lt nx
 | .tup vs=>∀ v ∈ vs,BV.lt nx v
 | .grd _ x=>x.lt nx
 | .any=>True
def Bx.lt (nx:Nat):Bx→Prop
 | .fix cs=>∀ c ∈ cs,CV.lt nx c
 | .arr .. => True
theorem CV.lt_mono {a b:Nat} (h:a≤b) {x:CV} (hx:x.lt a):x.lt b:=by
 cases x with
 | clo f ps=>exact fun p hp=>Nat.lt_of_lt_of_le (hx p hp) h
 | _=>grind [lt]
theorem BV.lt_mono {a b:Nat} (h:a≤b) {x:BV} (hx:x.lt a):x.lt b:=by
 cases x with
 | c x=>exact CV.lt_mono h hx
 | agg cs=>exact fun c hc=>CV.lt_mono h (hx c hc)
theorem SV.lt_mono {a b:Nat} (h:a≤b) {x:SV} (hx:x.lt a):x.lt b:=by
 cases x with
 | b x=>exact BV.lt_mono h hx
 | tup vs=>exact fun c hc=>BV.lt_mono h (hx c hc)
 | grd p x=>exact BV.lt_mono h hx
 | any=>trivial
theorem Bx.lt_mono {a b:Nat} (h:a≤b) {x:Bx} (hx:x.lt a):x.lt b:=by
 cases x with
 | fix cs=>exact fun c hc=>CV.lt_mono h (hx c hc)
 | arr=>trivial
theorem CV.lt_getD {nx:Nat} {cs:List CV} (h:∀ c ∈ cs,CV.lt nx c) (j:Nat):CV.lt nx (cs.getD j .any):=by
 by_cases hj:j<cs.length
 ·grind
 ·rw [List.getD_eq_getElem?_getD,List.getElem?_eq_none (by omega)];trivial
theorem BV.lt_getD {nx:Nat} {cs:List BV} (h:∀ c ∈ cs,BV.lt nx c) (j:Nat):BV.lt nx (cs.getD j .any):=by
 by_cases hj:j<cs.length
 ·grind
 ·rw [List.getD_eq_getElem?_getD,List.getElem?_eq_none (by omega)];trivial
section mono
variable {ok ok':Nat→Prop} {w w':World} {ρ ρ':iN} {nx:Nat}
def iM (ok ok':Nat→Prop) (w w':World):Prop:=∀ b,ok b→ok' b∧∀ o,w'.cell? ⟨b,o,none⟩=w.cell? ⟨b,o,none⟩
def Aw (ok ok':Nat→Prop) (w w':World):Prop:=∀ b,ok b→ok' b∧∀ o x,w.cell? ⟨b,o,none⟩=some x→w'.cell? ⟨b,o,none⟩=some x
theorem iM.i (h:iM ok ok' w w'):Aw ok ok' w w':=fun b hb=>⟨(h b hb).1,fun o _ hx=>((h b hb).2 o).trans hx⟩
theorem bq.monoI (h:Aw ok ok' w w'):∀ {x:PV} {u:Value},bq ok w x u→bq ok' w' x u
 | .val _,_,hx=>hx
 | .any,_,_=>trivial
 | .lst sz n f,u,hx=>by
  obtain ⟨a,c,hu,hn,hb⟩:=hx;refine ⟨a,c,hu,hn,fun h0 => ?_⟩;obtain ⟨b,o,ha,hok,hc⟩:=hb h0;refine ⟨b,o,ha,(h b hok).1,fun i hi j hj => ?_⟩;obtain ⟨x,hx,h1,hd⟩:=hc i hi j hj;exact ⟨x,(h b hok).2 _ _ hx,h1,bq.monoI h hd⟩
 | .fn g n sz f,u,hx=>by
  obtain ⟨vs,hu,hn,hb⟩:=hx;refine ⟨vs,hu,hn,fun i hi => ?_⟩;obtain ⟨b,o,ha,hok,hc⟩:=hb i hi;refine ⟨b,o,ha,(h b hok).1,fun j hj => ?_⟩;obtain ⟨x,hx,h1,hd⟩:=hc j hj;exact ⟨x,(h b hok).2 _ _ hx,h1,bq.monoI h hd⟩
theorem cR.monoI (h:Aw ok ok' w w') (hρ:∀ id,id<nx→ρ' id=ρ id) {x:CV} {u:Value} (hl:x.lt nx) (hx:cR ρ ok w x u):cR ρ' ok' w' x u:=by
 cases x with
 | p x=>exact bq.monoI h hx
 | ptr id off=>simp only [cR,hρ id hl] at *;exact hx
 | pel id sz i off=>simp only [cR,hρ id hl] at *;exact hx
 | own id n=>simp only [cR,hρ id hl] at *;exact hx
 | ipt sz g off =>
  obtain ⟨b,o,hu,hok,hc⟩:=hx;refine ⟨b,o,hu,(h b hok).1,fun j hj => ?_⟩;obtain ⟨x,hx,h1,hd⟩:=hc j hj;exact ⟨x,(h b hok).2 _ _ hx,h1,bq.monoI h hd⟩
 | clo f ps =>
  obtain ⟨vs,hu,hs,hc⟩:=hx;refine ⟨vs,hu,hs,fun j hj => ?_⟩;obtain ⟨b,o,h1,h2⟩:=hc j hj;have hm:ps.getD j (0,0) ∈ ps:=by rw [List.getD_eq_getElem?_getD,List.getElem?_eq_getElem hj];exact List.getElem_mem hj
  exact ⟨b,o,(hρ _ (hl _ hm)).trans h1,h2⟩
 | sub id sz lo n=>simp only [cR,hρ id hl] at *;exact hx
theorem di.monoI (h:Aw ok ok' w w') (hρ:∀ id,id<nx→ρ' id=ρ id) {x:BV} {u:Value} (hl:x.lt nx) (hx:di ρ ok w x u):di ρ' ok' w' x u:=by
 cases x with
 | c x=>exact cR.monoI h hρ hl hx
 | agg cs =>
  obtain ⟨us,hu,hs,h1,hd⟩:=hx;exact ⟨us,hu,hs,h1,fun j=>cR.monoI h hρ (CV.lt_getD hl j) (hd j)⟩
theorem bB.monoI (h:Aw ok ok' w w') (hρ:∀ id,id<nx→ρ' id=ρ id) {x:SV} {u:Value} (hl:x.lt nx) (hx:bB ρ ok w x u):bB ρ' ok' w' x u:=by
 cases x with
 | b x=>exact di.monoI h hρ hl hx
 | tup vs =>
  obtain ⟨us,hu,hs,hd⟩:=hx;exact ⟨us,hu,hs,fun j=>di.monoI h hρ (BV.lt_getD hl j) (hd j)⟩
 | grd p x=>exact ⟨fun hp=>di.monoI h hρ hl (hx.1 hp),hx.2⟩
 | any=>trivial
theorem jC.monoI (h : Aw ok ok' w w') (hρ : ∀ id, id < nx → ρ' id = ρ id) {x : Bx} {v : Value} (hl : x.lt nx)
  (hb:∀ b,mW v=some b→w'.heap[b]?=w.heap[b]?) (hx:jC ρ ok w x v):jC ρ' ok' w' x v:=by
 cases x with
 | fix cs =>
  obtain ⟨b,o,cells,t,hv,hh,hs,h1,hd⟩:=hx;exact ⟨b,o,cells,t,hv,(hb b (by rw [hv];rfl)).trans hh,hs,h1,fun j=>cR.monoI h hρ (CV.lt_getD hl j) (hd j)⟩
 | arr e sz n f =>
  obtain ⟨h0,xs,hown,h1,hd⟩:=hx;refine ⟨h0,xs,⟨hown.1, ?_⟩,h1,fun i hi j hj=>bq.monoI h (hd i hi j hj)⟩;rcases hown.2 with h1|⟨g,cap,cur,hv,hg,hh,r⟩
  ·grind
  grind [maxLen,mW]
theorem bq.mono (h:iM ok ok' w w') {x:PV} {u:Value} (hx:bq ok w x u):bq ok' w' x u:=bq.monoI h.i hx
theorem cR.mono (h:iM ok ok' w w') (hρ:∀ id,id<nx→ρ' id=ρ id) {x:CV} {u:Value} (hl:x.lt nx) (hx:cR ρ ok w x u):cR ρ' ok' w' x u:=cR.monoI h.i hρ hl hx
theorem di.mono (h:iM ok ok' w w') (hρ:∀ id,id<nx→ρ' id=ρ id) {x:BV} {u:Value} (hl:x.lt nx) (hx:di ρ ok w x u):di ρ' ok' w' x u:=di.monoI h.i hρ hl hx
theorem bB.mono (h:iM ok ok' w w') (hρ:∀ id,id<nx→ρ' id=ρ id) {x:SV} {u:Value} (hl:x.lt nx) (hx:bB ρ ok w x u):bB ρ' ok' w' x u:=bB.monoI h.i hρ hl hx
theorem jC.mono (h : iM ok ok' w w') (hρ : ∀ id, id < nx → ρ' id = ρ id) {x : Bx} {v : Value} (hl : x.lt nx)
  (hb:∀ b,mW v=some b→w'.heap[b]?=w.heap[b]?) (hx:jC ρ ok w x v):jC ρ' ok' w' x v:=jC.monoI h.i hρ hl hb hx
end mono
structure St where
 fr:Nat→SV
 bx:Nat→Option Bx
 nx:Nat
 kf:Nat→SV:=fun _ => .any
structure Env where
 P:Program
 gl:Nat→Option (Nat × (Nat→PV))
 rcv:Nat→Bool:=fun _=>false
def isC:Obj→Bool
 | .cells .. => true
 | _=>false
structure Ent where
 w0:World
 ok0:Nat→Prop
 rx:Option (Nat × Nat × Nat)
 N:Nat
 kp:Nat→Value:=fun _=>undef
 df:List Deferred:=[]
 hd:Nat→Option Obj:=fun _=>none
 hn:Nat:=0
def cd (E:Ent) (bx:Nat→Option Bx) (ρ:iN) (w:World) (b:Nat):Prop :=
 b<w.heap.size∧(b<E.w0.heap.size→E.ok0 b)∧∀ id,bx id≠none→mW (ρ id)≠some b
structure Frm (E:Ent) (w:World):Prop where
 os:w.os=E.w0.os
 tape:w.tape=E.w0.tape
 output:w.output=E.w0.output
 size:E.w0.heap.size≤w.heap.size
 block:∀ k,k<E.w0.heap.size→(∀ o l,E.rx≠some (k,o,l))→w.heap[k]?=E.w0.heap[k]?
 rxb:∀ b o l,E.rx=some (b,o,l)→∃ c c0 t,w.heap[b]?=some (.cells c t (0,0))∧E.w0.heap[b]?=some (.cells c0 t (0,0))∧c.size=c0.size ∧
  ∀ j,j<o∨o+l≤j→c[j]?=c0[j]?
structure Gam (S:Env) (E:Ent) (st:St) (ρ:iN) (a:Act) (w:World):Prop where
 dfr:a.defers=E.df∧E.hn≤w.heap.size∧∀ k o,E.hd k=some o→isC o=false→w.heap[k]?=some o
 sz:a.tmps.size=E.N
 frm:Frm E w
 wfs:∀ s,(st.fr s).lt st.nx
 wfb:∀ id b,st.bx id=some b→id<st.nx∧b.lt st.nx
 bxs:∀ id b,st.bx id=some b→jC ρ (cd E st.bx ρ w) w b (ρ id)
 new:∀ id x b,st.bx id=some x→mW (ρ id)=some b→b<w.heap.size ∧
  (E.w0.heap.size≤b∨∃ o cs,ρ id = .pointer (some ⟨b,o,none⟩)∧x = .fix cs∧E.rx=some (b,o,cs.length))
 inj:∀ i j b,st.bx i≠none→st.bx j≠none→mW (ρ i)=some b→mW (ρ j)=some b→i=j
 rx0:∀ b o l,E.rx=some (b,o,l)→0<st.nx∧ρ 0 = .pointer (some ⟨b,o,none⟩)
 slt:∀ s,bB ρ (cd E st.bx ρ w) w (st.fr s) (a.tmps.getD s undef)
 glb:∀ g n f,S.gl g=some (n,f)→cd E st.bx ρ w g∧∀ j,j<n→∃ x,w.cell? ⟨g,j,none⟩=some x∧x.oneCell'=true∧bq (cd E st.bx ρ w) w (f j) x
 kept:∀ s,(st.kf s).lt st.nx∧bB ρ (cd E st.bx ρ w) w (st.kf s) (E.kp s)
def St.set (st:St) (d:Option Nat) (v:SV):St :=
 match d with
 | none=>st
 | some d => { st with fr:=fun s=>if s=d then v else st.fr s }
theorem cm {w:World} {b:Nat} {o:Obj} (h:w.heap[b]?=some o):b<w.heap.size:=(Array.getElem?_eq_some_iff.1 h).1
section gam
variable {S:Env} {E:Ent} {st:St} {ρ:iN} {a:Act} {w:World}
theorem Gam.set {d : Option Nat} {v : SV} {u : Value} (g : Gam S E st ρ a w) (hd : ∀ k, d = some k → k < E.N) (hl : v.lt st.nx)
  (hv:bB ρ (cd E st.bx ρ w) w v u):Gam S E (st.set d v) ρ (a.put d u) w:=by
 cases d with
 | none=>exact g
 | some k =>
  have hk:=hd k rfl;refine ⟨g.dfr,by simp [Act.put,g.sz],g.frm,fun s => ?_,g.wfb,g.bxs,g.new,g.inj,g.rx0,fun s => ?_,g.glb,g.kept⟩
  ·simp only [St.set];split
   ·exact hl
   ·exact g.wfs s
  ·simp only [St.set,Act.put];split
   ·rename_i h;subst h;simp only [Array.getD_eq_getD_getElem?,Array.getElem?_setIfInBounds_self];rw [if_pos (by rw [g.sz];exact hk)];exact hv
   ·rename_i h;simp only [Array.getD_eq_getD_getElem?,Array.getElem?_setIfInBounds_ne (Ne.symm h)];have:=g.slt s;simp_all
theorem Qx {w' : World} {bx : Nat → Option Bx} (hs : w.heap.size ≤ w'.heap.size) (hb : ∀ k, k < w.heap.size → w'.heap[k]? = w.heap[k]?) :
  iM (cd E bx ρ w) (cd E bx ρ w') w w':=fun b ⟨h1,h2,h3⟩ =>
 ⟨⟨Nat.lt_of_lt_of_le h1 hs,h2,h3⟩,fun _=>World.cell?_of_block (hb b h1)⟩
theorem Gam.grow {w':World} (g:Gam S E st ρ a w) (h:RowKit.Below w.heap.size w w'):Gam S E st ρ a w':=by
 have hk:iM (cd E st.bx ρ w) (cd E st.bx ρ w') w w':=Qx h.size h.block;have hρ:∀ id,id<st.nx→ρ id=ρ id:=fun _ _=>rfl
 refine ⟨⟨g.dfr.1,Nat.le_trans g.dfr.2.1 h.size,fun k o h1 h2=>(h.block k (cm (g.dfr.2.2 k o h1 h2))).trans (g.dfr.2.2 k o h1 h2)⟩,g.sz,⟨h.os.trans g.frm.os,h.tape.trans g.frm.tape,h.output.trans g.frm.output,Nat.le_trans g.frm.size h.size,fun k hk hx => ?_,fun b o l hr => ?_⟩,g.wfs,g.wfb,
  fun id b hb => ?_,fun id x b h1 h2 => ?_,g.inj,g.rx0,fun s=>bB.mono hk hρ (g.wfs s) (g.slt s),fun gg n f hg => ?_,fun s=>⟨(g.kept s).1,bB.mono hk hρ (g.kept s).1 (g.kept s).2⟩⟩
 ·exact (h.block k (Nat.lt_of_lt_of_le hk g.frm.size)).trans (g.frm.block k hk hx)
 ·obtain ⟨c,c0,t,h1,h2,h3⟩:=g.frm.rxb b o l hr;exact ⟨c,c0,t,(h.block b (cm h1)).trans h1,h2,h3⟩
 ·exact jC.mono hk hρ (g.wfb id b hb).2 (fun c hc=>h.block c (g.new id b c hb hc).1) (g.bxs id b hb)
 ·exact ⟨Nat.lt_of_lt_of_le (g.new id x b h1 h2).1 h.size,(g.new id x b h1 h2).2⟩
 ·obtain ⟨h1,h2⟩:=g.glb gg n f hg;refine ⟨(hk gg h1).1,fun j hj => ?_⟩;obtain ⟨x,hx,h3,hd⟩:=h2 j hj;exact ⟨x,((hk gg h1).2 j).trans hx,h3,bq.mono hk hd⟩
end gam
end
abbrev SV.v (x:Value):SV := .b (.c (.p (.val x)))
abbrev SV.i (x:Int):SV := .b (.c (.p (.val (.int .i64 x))))
abbrev SV.u16 (x:Int):SV := .b (.c (.p (.val (.int .u16 x))))
abbrev SV.t (x:Bool):SV := .b (.c (.p (.val (.bool x))))
abbrev CV.v (x:Value):CV := .p (.val x)
abbrev CV.i (x:Int):CV := .p (.val (.int .i64 x))
abbrev PV.i (x:Int):PV := .val (.int .i64 x)
def Env.ti (S:Env) (t:TypeId):Option (Nat × Bool) :=
 match S.P.info? t,S.P.underlying t with
 | some i,some d=>some (i.size,match d with | .struct _ | .array _ _=>true|_=>false)
 | _,_=>none
def Env.fld (S:Env) (t:TypeId) (f:Nat):Option (Nat × Nat × Bool) :=
 match S.P.underlying t with
 | some (.struct fs)=>match fs[f]? with
  | some fl=>(S.ti fl.type).map fun x=>(fl.offset,x)
  | none=>none
 | _=>none
def Env.el (S:Env) (t:TypeId):Option (Option Nat × TypeId × Nat × Bool) :=
 match S.P.underlying t with
 | some (.slice e)=>(S.ti e).map fun x=>(none,e,x)
 | some (.array n e)=>(S.ti e).map fun x=>(some n,e,x)
 | _=>none
def SV.strip:SV→SV
 | .grd _ x => .b x
 | x=>x
def SV.cond:SV→Prop
 | .grd p _=>p=true
 | _=>True
def St.ev (S:Env) (st:St):Operand→SV
 | .tmp t=>st.fr t
 | .const x => .v x
 | .global g=>match S.gl g with
  | some (n,f) => .b (.c (.ipt n f 0))
  | none => .any
 | .func f => .v (.func (.func f) #[] #[])
def fv (n:Nat) (g:Nat→PV):List CV:=(List.range n).map fun j => .p (g j)
def fw (S:Env) (t:TypeId) (bx:Nat→Option Bx):SV→Option (Prop × SV)
 | .b (.c (.ptr id off))=>match bx id,S.ti t with
  | some (.fix cs),some (sz,true)=>some (off+sz≤cs.length, .b (.agg ((cs.drop off).take sz)))
  | some (.fix cs),some (_,false)=>some (off<cs.length, .b (.c (cs.getD off .any)))
  | _,_=>none
 | .b (.c (.pel id sz i off))=>match bx id,S.ti t with
  | some (.arr _ sz' n f),some (s,true)=>some (sz=sz'∧i<n∧off+s≤sz, .b (.agg (fv s fun j=>f i (off+j))))
  | some (.arr _ sz' n f),some (_,false)=>some (sz=sz'∧i<n∧off<sz, .b (.c (.p (f i off))))
  | _,_=>none
 | .b (.c (.ipt sz g off))=>match S.ti t with
  | some (s,true)=>some (off+s≤sz, .b (.agg (fv s fun j=>g (off+j))))
  | some (_,false)=>some (off<sz, .b (.c (.p (g off))))
  | none=>none
 | _=>none
def rC (n:Nat):SV→Option SV
 | .b (.c (.ptr id off))=>some (.b (.c (.ptr id (off+n))))
 | .b (.c (.pel id sz i off))=>some (.b (.c (.pel id sz i (off+n))))
 | .b (.c (.ipt sz g off))=>some (.b (.c (.ipt sz g (off+n))))
 | _=>none
def sT (S:Env) (t:TypeId) (f:Nat):SV→Option (Prop × SV)
 | .b (.agg cs)=>match S.fld t f with
  | some (off,sz,true)=>some (off+sz≤cs.length, .b (.agg ((cs.drop off).take sz)))
  | some (off,_,false)=>some (off<cs.length, .b (.c (cs.getD off .any)))
  | none=>none
 | _=>none
def kq (S:Env) (t:TypeId):SV→SV→Option (Prop × SV)
 | .b (.c (.p (.lst sz n f))), .b (.c (.p (.val (.int _ i))))=>match S.el t with
  | some (none,_,s,_)=>some ((0≤i∧i<(n:Int))∧sz=s, .b (.c (.ipt s (f i.toNat) 0)))
  | _=>none
 | .b (.c (.own id n)), .b (.c (.p (.val (.int _ i))))=>match S.el t with
  | some (none,_,s,_)=>some (0≤i∧i<(n:Int), .b (.c (.pel id s i.toNat 0)))
  | _=>none
 | x, .b (.c (.p (.val (.int _ i))))=>match S.el t with
  | some (some len,_,s,_)=>(rC (i.toNat * s) x).map fun y=>(0≤i∧i<(len:Int),y)
  | _=>none
 | _,_=>none
def sZ (S:Env) (t:TypeId):SV→SV→Option (Prop × SV)
 | .b (.agg cs), .b (.c (.p (.val (.int _ i))))=>match S.el t with
  | some (some len,_,s,true)=>some ((0≤i∧i<(len:Int))∧(i.toNat * s+s≤cs.length), .b (.agg ((cs.drop (i.toNat * s)).take s)))
  | some (some len,_,s,false)=>some ((0≤i∧i<(len:Int))∧i.toNat * s<cs.length, .b (.c (cs.getD (i.toNat * s) .any)))
  | _=>none
 | .b (.c (.p (.val (.string b)))), .b (.c (.p (.val (.int _ i))))=>match S.P.underlying t with
  | some .string=>some (0≤i∧i<(b.size:Int), .v (.int .u8 (b.get! i.toNat).toNat))
  | _=>none
 | _,_=>none
def Su (op:BinOp) (k:IntKind) (a b:Int):Option (Prop × Value) :=
 match op with
 | .add=>some (True, .int k (k.wrap (a+b)))
 | .sub=>some (True, .int k (k.wrap (a - b)))
 | .mul=>some (True, .int k (k.wrap (a * b)))
 | .quo=>some (b≠0, .int k (k.wrap (a.tdiv b)))
 | .rem=>some (b≠0, .int k (a.tmod b))
 | .and=>some (True, .int k (k.wrap (BitVec.ofInt k.bits a &&& BitVec.ofInt k.bits b).toNat))
 | .or=>some (True, .int k (k.wrap (BitVec.ofInt k.bits a ||| BitVec.ofInt k.bits b).toNat))
 | .xor=>some (True, .int k (k.wrap (BitVec.ofInt k.bits a ^^^ BitVec.ofInt k.bits b).toNat))
 | .eql=>some (True, .bool (a == b))
 | .neq=>some (True, .bool (a != b))
 | .lss=>some (True, .bool (a<b))
 | .leq=>some (True, .bool (a≤b))
 | .gtr=>some (True, .bool (a>b))
 | .geq=>some (True, .bool (a≥b))
 | _=>none
def Hn:List (Option Bool)→Option Bool
 | []=>some true
 | some a :: r=>(Hn r).map fun b=>a && b
 | none :: _=>none
def Rc (P:Program):Nat→TypeId→List Value→List Value→Option Bool
 | 0,_,_,_=>none
 | d+1,t,xs,ys=>match P.underlying t with
  | some .bool=>match xs,ys with
   | [.bool a],[.bool b]=>some (a == b)
   | _,_=>none
  | some (.int _)=>match xs,ys with
   | [.int k a],[.int k' b]=>if k=k' then some (a == b) else none
   | _,_=>none
  | some .string=>match xs,ys with
   | [.string a],[.string b]=>some (a.toList == b.toList)
   | _,_=>none
  | some (.struct fs) => if P.stoodInHeld t = true then none else
    Hn (fs.toList.map fun f => if f.name = "_" then none else Rc P d f.type ((xs.drop f.offset).take (P.cellsOf f.type)) ((ys.drop f.offset).take (P.cellsOf f.type)))
  | some (.array n e)=>if (P.info? e).isNone=true then none else Hn ((List.range n).map fun i=>Rc P d e ((xs.drop (i * P.cellsOf e)).take (P.cellsOf e)) ((ys.drop (i * P.cellsOf e)).take (P.cellsOf e)))
  | _=>none
def Env.eqv (S:Env) (t:TypeId) (xs ys:List Value):Option Bool :=
 match S.P.underlying t with
 | some (.struct _)=>if S.P.eqGuardType S.P.depth t=true then none else Rc S.P 8 t xs ys
 | some (.array _ _)=>if S.P.eqGuardType S.P.depth t=true then none else Rc S.P 8 t xs ys
 | _=>none
def rH:List CV→Option (List Value)
 | []=>some []
 | .p (.val v) :: r=>(rH r).map fun l=>v :: l
 | _=>none
def DT (S:Env) (op:BinOp) (t:TypeId):SV→SV→Option (Prop × SV)
 | .b (.c (.p (.val (.int k a)))), .b (.c (.p (.val (.int k' b)))) =>
  match op with
  | .shl=>some (0≤b, .v (.int k (k.wrap (a * 2 ^ (min b.toNat k.bits)))))
  | .shr=>some (0≤b, .v (.int k (a.fdiv (2 ^ (min b.toNat k.bits)))))
  | op=>(Su op k a b).map fun x=>(k=k'∧x.1, .v x.2)
 | .b (.c (.p (.val (.bool a)))), .b (.c (.p (.val (.bool b)))) =>
  match op,S.P.underlying t with
  | .eql,some .bool=>some (True, .t (a == b))
  | .neq,some .bool=>some (True, .t (!(a == b)))
  | _,_=>none
 | .b (.c (.p (.val (.string a)))), .b (.c (.p (.val (.string b)))) =>
  match op with
  | .eql=>some (True, .t (a.toList == b.toList))
  | .neq=>some (True, .t (!(a.toList == b.toList)))
  | .add=>some ((a.size+b.size:Int)≤9223372036854775807, .v (.string (a ++ b)))
  | _=>none
 | .b (.agg cs), .b (.agg ds) =>
  match op,rH cs,rH ds with
  | .eql,some xs,some ys=>(S.eqv t xs ys).map fun r=>(True, .t r)
  | .neq,some xs,some ys=>(S.eqv t xs ys).map fun r=>(True, .t (!r))
  | _,_,_=>none
 | .b (.c (.p (.lst _ n _))), .b (.c (.p (.val (.slice none _ _)))) =>
  match op,S.P.underlying t with
  | .eql,some (.slice _)=>some (0<n, .t false)
  | _,_=>none
 | .b (.c (.p (.val (.slice a _ _)))), .b (.c (.p (.val (.slice none _ _)))) =>
  match op,S.P.underlying t with
  | .eql,some (.slice _)=>some (True, .t a.isNone)
  | _,_=>none
 | .b (.c (.ptr _ _)), .b (.c (.p (.val (.pointer none)))) =>
  match op,S.P.underlying t with
  | .eql,some (.pointer _)=>some (True, .t false)
  | _,_=>none
 | .b (.c (.ipt _ _ _)), .b (.c (.p (.val (.pointer none)))) =>
  match op,S.P.underlying t with
  | .eql,some (.pointer _)=>some (True, .t false)
  | _,_=>none
 | _,_=>none
def PE (op:UnOp):SV→Option (Prop × SV)
 | .b (.c (.p (.val (.bool a))))=>match op with
  | .not=>some (True, .t (!a))
  | _=>none
 | .b (.c (.p (.val (.int k n))))=>match op with
  | .neg=>some (True, .v (.int k (k.wrap (0 - n))))
  | .xor=>some (True, .v (.int k (k.wrap (BitVec.ofInt k.bits (if k.signed then -1 else k.max) ^^^ BitVec.ofInt k.bits n).toNat)))
  | _=>none
 | _=>none
def wW (S:Env) (src dst:TypeId):SV→Option (Prop × SV)
 | .b (.c (.p (.val (.int _ n))))=>match S.P.underlying src,S.P.underlying dst with
  | some _,some (.int k)=>some (True, .v (.int k (k.wrap n)))
  | _,_=>none
 | .b (.c (.p (.val (.string b))))=>match S.P.underlying src,S.P.underlying dst with
  | some .string,some .string=>some (True, .v (.string b))
  | _,_=>none
 | _=>none
def DS (S:Env) (t:TypeId):SV→Option (Prop × SV)
 | .b (.c (.p (.lst _ n _)))=>match S.P.underlying t with
  | some (.slice _)=>some (True, .i (n:Int))
  | _=>none
 | .b (.c (.own _ n))=>match S.P.underlying t with
  | some (.slice _)=>some (True, .i (n:Int))
  | _=>none
 | .b (.c (.p (.val (.string b))))=>match S.P.underlying t with
  | some .string=>some (True, .i (b.size:Int))
  | _=>none
 | .b (.c (.p (.val (.slice _ n _))))=>match S.P.underlying t with
  | some (.slice _)=>some (True, .i (n:Int))
  | _=>none
 | _=>match S.P.underlying t with
  | some (.array n _)=>some (True, .i (n:Int))
  | _=>none
def xo (c a b:SV):Option (Prop × SV) :=
 match c.strip,a.strip,b.strip with
 | .b (.c (.p (.val (.bool t)))), .b (.c (.p (.val (.bool x)))), .b (.c (.p (.val (.bool y)))) =>
  some (c.cond∧(t=true→a.cond)∧(t=false→b.cond), .t (bif t then x else y))
 | _,_,_=>none
def HR?:Option SV→Option (Option Int)
 | none=>some none
 | some (.b (.c (.p (.val (.int _ i)))))=>some (some i)
 | _=>none
def vS (S:Env) (t:TypeId) (x:SV) (lo hi:Option SV):Option (Prop × SV) :=
 match x,HR? lo,HR? hi,S.P.underlying t with
 | .b (.c (.p (.lst sz n f))),some lo,some hi,some (.slice e) =>
  some ((0≤lo.getD 0∧lo.getD 0≤hi.getD n∧hi.getD n≤n)∧(S.ti e).map (·.1)=some sz,
   .b (.c (.p (.lst sz ((hi.getD n).toNat - (lo.getD 0).toNat) fun i j=>f ((lo.getD 0).toNat+i) j))))
 | .b (.c (.own id n)),some none,some (some hi),some (.slice e)=>some ((0≤hi∧hi≤n)∧(S.ti e).isSome=true, .b (.c (.own id hi.toNat)))
 | .b (.c (.own id n)),some (some lo),some (some hi),some (.slice e)=>some ((0≤lo∧lo<hi∧hi≤n)∧(S.ti e).isSome=true, .b (.c (.sub id (((S.ti e).map (·.1)).getD 0) lo.toNat (hi.toNat - lo.toNat))))
 | .b (.c (.p (.val (.string b)))),some lo,some hi,some .string =>
  some (0≤lo.getD 0∧lo.getD 0≤hi.getD b.size∧hi.getD b.size≤b.size, .v (.string (b.extract (lo.getD 0).toNat (hi.getD b.size).toNat)))
 | _,_,_,_=>none
def bc:List SV→Prop
 | []=>True
 | x :: r=>x.cond∧bc r
def ld:List SV→Option (List (Nat × Nat))
 | []=>some []
 | .b (.c (.ptr id off)) :: r=>(ld r).map fun l=>(id,off) :: l
 | _=>none
def bK (S:Env) (bx:Nat→Option Bx) (ev:Operand→SV):Op→Option (Prop × SV)
 | .load t x=>fw S t bx (ev x).strip
 | .fieldAddr t x f=>match S.fld t f with
  | some (off,sz,_)=>(rC off (ev x).strip).map fun y=>(sz≠0,y)
  | none=>none
 | .field t x f=>sT S t f (ev x).strip
 | .indexAddr t x i=>kq S t (ev x).strip (ev i).strip
 | .index t x i=>sZ S t (ev x).strip (ev i).strip
 | .extract x i=>match (ev x).strip with
  | .tup vs=>some (i<vs.length, .b (vs.getD i .any))
  | _=>none
 | .binOp op t x y _=>DT S op t (ev x).strip (ev y).strip
 | .unOp op _ x=>PE op (ev x).strip
 | .convert s d x=>wW S s d (ev x).strip
 | .slice t x lo hi none=>vS S t (ev x).strip (lo.map fun x=>(ev x).strip) (hi.map fun x=>(ev x).strip)
 | .makeFunc fn first cap=>match fn,first.toList,ld (cap.toList.map fun x=>(ev x).strip) with
  | .func f,[],some ps=>some (True, .b (.c (.clo f ps)))
  | _,_,_=>none
 | .nilCheck x=>match (ev x).strip with
  | .b (.c (.ptr id off))=>some (True, .b (.c (.ptr id off)))
  | .b (.c (.pel id sz i off))=>some (True, .b (.c (.pel id sz i off)))
  | .b (.c (.ipt sz g off))=>some (True, .b (.c (.ipt sz g off)))
  | _=>none
 | .call c=>match c.callee,c.args.toList,c.argTypes.toList with
  | .builtin .len,[x],[t]=>DS S t (ev x).strip
  | .builtin .min,[x,y],_=>match (ev x).strip,(ev y).strip with
   | .b (.c (.p (.val (.int k a)))), .b (.c (.p (.val (.int k' b))))=>some (k=k', .v (.int k (if b<a then b else a)))
   | _,_=>none
  | .builtin .max,[x,y],_=>match (ev x).strip,(ev y).strip with
   | .b (.c (.p (.val (.int k a)))), .b (.c (.p (.val (.int k' b))))=>some (k=k', .v (.int k (if b>a then b else a)))
   | _,_=>none
  | _,_,_=>none
 | _=>none
def ro (S:Env) (bx:Nat→Option Bx) (ev:Operand→SV) (op:Op):Option (Prop × SV) :=
 match op with
 | .move x=>some (True,ev x)
 | .assign x=>some (True,ev x)
 | .pick c a b=>xo (ev c) (ev a) (ev b)
 | op=>match bK S bx ev op with
  | some (vc,r)=>some (bc (op.operands.toList.map ev)∧vc,r)
  | none=>none
section
section
variable {S:Env} {E:Ent} {st:St} {ρ:iN} {a:Act} {w:World}
theorem wu {t : TypeId} {sz : Nat} {b : Bool} (h : S.ti t = some (sz, b)) :
  ∃ i d,S.P.info? t=some i∧i.size=sz∧S.P.underlying t=some d∧b=(match d with | .struct _ | .array _ _=>true|_=>false):=by
 unfold Env.ti at h;grind
theorem th {t:TypeId} {sz:Nat} {b:Bool} (h:S.ti t=some (sz,b)) (w:World):(isAgg t).run S.P w = .ok b w:=by
 obtain ⟨i,d,hi,hs,hd,hb⟩:=wu h;unfold isAgg;rw [Sem.run_bind,run_underlying hd w];subst hb;cases d <;> rfl
theorem dP {t:TypeId} {sz:Nat} {b:Bool} (h:S.ti t=some (sz,b)) (w:World):(sizeOf t).run S.P w = .ok sz w:=by
 obtain ⟨i,d,hi,hs,hd,hb⟩:=wu h;simp [sizeOf,typeInfo,hi,hs]
theorem mu {t : TypeId} {sz : Nat} (h : S.ti t = some (sz, true)) (w : World) (b o : Nat) (f : Nat → Value)
  (hc:∀ j,j<sz→w.cell? ⟨b,o+j,none⟩=some (f j)):(loadVar t ⟨b,o,none⟩).run S.P w = .ok (.agg ((List.range sz).map f).toArray) w:=by
 simp [loadVar,Sem.run_bind,th h,dP h,run_loadCells w ⟨b,o,none⟩ sz f (fun j hj=>by rw [Addr.add_lit];grind)]
theorem me {t : TypeId} {sz : Nat} (h : S.ti t = some (sz, false)) (w : World) (b o : Nat) (x : Value)
  (hc:w.cell? ⟨b,o,none⟩=some x):(loadVar t ⟨b,o,none⟩).run S.P w = .ok x w:=by
 simp [loadVar,Sem.run_bind,th h,hc]
theorem mL {t : TypeId} {sz : Nat} (h : S.ti t = some (sz, true)) (w : World) (cs : Array Value) (off : Nat) :
  (part t cs off).run S.P w = .ok (.agg (cs.extract off (off+sz))) w:=by
 simp [part,Sem.run_bind,th h,dP h]
theorem pY {t : TypeId} {sz : Nat} (h : S.ti t = some (sz, false)) (w : World) (cs : Array Value) (off : Nat) (hl : off < cs.size) :
  (part t cs off).run S.P w = .ok (cs.getD off undef) w:=by
 simp [part,Sem.run_bind,th h,hl]
theorem wL {t : TypeId} {f off sz : Nat} {b : Bool} (h : S.fld t f = some (off, sz, b)) :
  ∃ fs fl,S.P.underlying t=some (.struct fs)∧fs[f]?=some fl∧fl.offset=off∧S.ti fl.type=some (sz,b):=by
 unfold Env.fld at h;split at h
 ·rename_i fs hu;split at h
  ·grind [Env.ti,Program.underlying]
  grind
 grind
theorem po {t e s:Nat} {b:Bool} (h:S.el t=some (none,e,s,b)):S.P.underlying t=some (.slice e)∧S.ti e=some (s,b):=by
 unfold Env.el at h;split at h
 ·rename_i e' hu;cases hq:S.ti e' with
  | none=>grind
  | some x =>
   grind
 ·simp_all
 grind
theorem Ak {t e s n:Nat} {b:Bool} (h:S.el t=some (some n,e,s,b)):S.P.underlying t=some (.array n e)∧S.ti e=some (s,b):=by
 unfold Env.el at h;split at h
 ·simp_all
 ·rename_i n' e' hu;cases hq:S.ti e' with
  | none=>grind
  | some x =>
   grind
 grind
theorem mX {ok:Nat→Prop} {x:SV} {u:Value} (h:bB ρ ok w x u) (hc:x.cond):bB ρ ok w x.strip u:=by
 cases x with
 | grd p x=>exact h.1 hc
 | _=>exact h
theorem vp {x:SV} {nx:Nat} (h:x.lt nx):x.strip.lt nx:=by cases x <;> exact h
theorem Gam.ev (g:Gam S E st ρ a w) (x:Operand):bB ρ (cd E st.bx ρ w) w (st.ev S x) (a.eval x)∧(st.ev S x).lt st.nx:=by
 cases x with
 | tmp t=>exact ⟨by have:=g.slt t;grind [St.ev,Act.eval],g.wfs t⟩
 | const v =>
  exact ⟨rfl,trivial⟩
 | global k =>
  simp only [St.ev,Act.eval];split
  ·rename_i n f hg;obtain ⟨h1,h2⟩:=g.glb k n f hg;exact ⟨⟨k,0,rfl,h1,fun j hj=>by grind⟩,trivial⟩
  grind [bB,cd,SV.lt]
 | func f=>exact ⟨rfl,trivial⟩
def PL (S:Env) (E:Ent) (st:St) (ρ:iN) (w:World) (s:Sem Value) (r:SV):Prop :=
 ∃ v,s.run S.P w = .ok v w∧bB ρ (cd E st.bx ρ w) w r v∧r.lt st.nx
theorem cr {b j : Nat} {cells : Array Value} {t : TypeId} (h : w.heap[b]? = some (.cells cells t (0, 0))) (hj : j < cells.size) :
  w.cell? ⟨b,j,none⟩=some (cells.getD j undef):=by
 simp_all [World.cell?]
theorem kH {cs:List CV} {off sz j:Nat} (_h:off+sz≤cs.length) (hj:j<sz):((cs.drop off).take sz).getD j .any=cs.getD (off+j) .any:=by grind
theorem oG {cs:List CV} {off sz j:Nat} (hj:¬ j<sz):((cs.drop off).take sz).getD j .any = .any:=by grind
theorem oR {cs:List CV} {off sz:Nat} {c:CV} (h:c ∈ (cs.drop off).take sz):c ∈ cs:=List.mem_of_mem_drop (List.mem_of_mem_take h)
theorem oU {ok : Nat → Prop} {cs : List CV} {sz : Nat} {f : Nat → Value} (hl : cs.length = sz) (h1 : ∀ j, j < sz → (f j).oneCell' = true) (h : ∀ j, j < sz → cR ρ ok w (cs.getD j .any) (f j)) :
  di ρ ok w (.agg cs) (.agg ((List.range sz).map f).toArray):=by
 refine ⟨_,rfl,by simp [hl],fun j hj => ?_,fun j => ?_⟩
 ·simp_all
 by_cases hj:j<sz
 ·simp_all
 ·rw [List.getD_eq_getElem?_getD,List.getElem?_eq_none (by omega)];trivial
theorem xU {n j:Nat} {g:Nat→PV} (h:j<n):(fv n g).getD j .any = .p (g j):=by simp [fv,h]
theorem BG {n:Nat} {g:Nat→PV}:(fv n g).length=n:=by simp [fv]
theorem Dp {n nx:Nat} {g:Nat→PV}:∀ c ∈ fv n g,CV.lt nx c:=by grind [fv,CV.lt]
theorem AM {t : TypeId} {x : SV} {u : Value} {vc : Prop} {r : SV} (h : fw S t st.bx x = some (vc, r)) (hvc : vc) (g : Gam S E st ρ a w)
  (hx:bB ρ (cd E st.bx ρ w) w x u):PL S E st ρ w (Instr.loadAt t u) r:=by
 unfold fw at h;split at h
 ·rename_i id off;obtain ⟨b,o,hr,rfl⟩:=hx;split at h
  ·rename_i cs sz hb ht;simp only [Option.some.injEq,Prod.mk.injEq] at h;obtain ⟨rfl,rfl⟩:=h;obtain ⟨b',o',cells,ty,hv,hh,hs,h1,hd⟩:=g.bxs id _ hb;rw [hr] at hv;simp only [Value.pointer.injEq,Option.some.injEq,Addr.mk.injEq,and_true] at hv;obtain ⟨rfl,rfl⟩:=hv
   refine ⟨_, by simp only [Instr.loadAt, Instr.sureAddr, Sem.run_bind, Sem.run_pure, Result.andThen_ok]
                 exact mu ht w b (o+off) (fun j=>cells.getD (o+off+j) undef) (fun j hj=>cr hh (by omega)),
    oU (by simp;omega) (fun j hj=>by rw [Nat.add_assoc];exact h1 (off+j) (by omega)) (fun j hj => ?_),fun c hc=>(g.wfb id _ hb).2 c (oR hc)⟩
   grind [kH]
  ·rename_i cs sz hb ht;simp only [Option.some.injEq,Prod.mk.injEq] at h;obtain ⟨rfl,rfl⟩:=h;obtain ⟨b',o',cells,ty,hv,hh,hs,h1,hd⟩:=g.bxs id _ hb;rw [hr] at hv;simp only [Value.pointer.injEq,Option.some.injEq,Addr.mk.injEq,and_true] at hv;obtain ⟨rfl,rfl⟩:=hv;exact ⟨_,by simp only [Instr.loadAt,Instr.sureAddr,Sem.run_bind,Sem.run_pure,Result.andThen_ok];grind [me,cr],hd off,CV.lt_getD (g.wfb id _ hb).2 off⟩
  grind
 ·rename_i id sz i off;obtain ⟨b,m,c,hr,rfl⟩:=hx;split at h
  ·rename_i e sz' n f s hb ht;simp only [Option.some.injEq,Prod.mk.injEq] at h;obtain ⟨rfl,rfl⟩:=h;obtain ⟨rfl,hi,ho⟩:=hvc;obtain ⟨h0,xs,hown,h1,hd⟩:=g.bxs id _ hb;rcases hown.2 with ⟨_,h2⟩|⟨gb,cap,cur,hv,_,hh,hn,_,hcs,htk⟩
   ·omega
   ·rw [hr] at hv;simp only [Value.slice.injEq,Option.some.injEq,Addr.mk.injEq,and_true] at hv;obtain ⟨rfl,rfl,rfl⟩:=hv;have hlt:i * sz+sz≤cur.size:=by rw [hcs,← Nat.succ_mul];exact Nat.mul_le_mul_right _ (by omega)
    have hxs:∀ j,j<sz→cur.getD (i * sz+j) undef=xs.getD (i * sz+j) undef:=fun j hj=>by
     have hq:i * sz+j<m * sz:=Nat.lt_of_lt_of_le (show i * sz+j<i * sz+sz by omega) (by rw [← Nat.succ_mul];exact Nat.mul_le_mul_right _ (by omega));rw [← htk];simp [List.getElem?_take,hq]
    refine ⟨_, by simp only [Instr.loadAt, Instr.sureAddr, Sem.run_bind, Sem.run_pure, Result.andThen_ok]
                  exact mu ht w b (i * sz+off) (fun j=>cur.getD (i * sz+off+j) undef) (fun j hj=>cr hh (by omega)),
     oU BG (fun j hj=>by
      rw [Nat.add_assoc,hxs (off+j) (by omega)];have hlen:i * sz+(off+j)<xs.length:=by
       rw [hown.1];exact Nat.lt_of_lt_of_le (show i * sz+(off+j)<i * sz+sz by omega) (by rw [← Nat.succ_mul];exact Nat.mul_le_mul_right _ (by omega))
      grind) (fun j hj => ?_),Dp⟩
    rw [xU hj,Nat.add_assoc,hxs (off+j) (by omega)];exact hd i hi (off+j) (by omega)
  ·rename_i e sz' n f s hb ht;simp only [Option.some.injEq,Prod.mk.injEq] at h;obtain ⟨rfl,rfl⟩:=h;obtain ⟨rfl,hi,ho⟩:=hvc;obtain ⟨h0,xs,hown,h1,hd⟩:=g.bxs id _ hb;rcases hown.2 with ⟨_,h2⟩|⟨gb,cap,cur,hv,_,hh,hn,_,hcs,htk⟩
   ·omega
   ·rw [hr] at hv;simp only [Value.slice.injEq,Option.some.injEq,Addr.mk.injEq,and_true] at hv;obtain ⟨rfl,rfl,rfl⟩:=hv;have hq:i * sz+off<m * sz:=Nat.lt_of_lt_of_le (show i * sz+off<i * sz+sz by omega) (by rw [← Nat.succ_mul];exact Nat.mul_le_mul_right _ (by omega));have hlt:i * sz+off<cur.size:=by rw [hcs];exact Nat.lt_of_lt_of_le hq (Nat.mul_le_mul_right _ hn)
    have hxs:cur.getD (i * sz+off) undef=xs.getD (i * sz+off) undef:=by
     rw [← htk];simp [List.getElem?_take,hq]
    refine ⟨_, by simp only [Instr.loadAt, Instr.sureAddr, Sem.run_bind, Sem.run_pure, Result.andThen_ok]
                  exact me ht w b (i * sz+off) _ (cr hh hlt), ?_,trivial⟩
    rw [hxs];exact hd i hi off ho
  grind
 ·rename_i sz gg off;obtain ⟨b,o,rfl,hok,hc⟩:=hx;split at h
  ·rename_i s ht;simp only [Option.some.injEq,Prod.mk.injEq] at h;obtain ⟨rfl,rfl⟩:=h
   refine ⟨_, by simp only [Instr.loadAt, Instr.sureAddr, Sem.run_bind, Sem.run_pure, Result.andThen_ok]
                 exact mu ht w b (o+off) (fun j=>(w.cell? ⟨b,o+off+j,none⟩).getD undef) (fun j hj=>by
                  obtain ⟨x,hx,_⟩:=hc (off+j) (by omega)
                  grind),
    oU BG (fun j hj=>by
     obtain ⟨x,hx,h1,_⟩:=hc (off+j) (by omega)
     grind) (fun j hj => ?_),Dp⟩
   obtain ⟨x,hx,_,hd⟩:=hc (off+j) (by omega);rw [xU hj,Nat.add_assoc,hx];exact hd
  ·rename_i s ht;simp only [Option.some.injEq,Prod.mk.injEq] at h;obtain ⟨rfl,rfl⟩:=h;obtain ⟨x,hx,_,hd⟩:=hc off hvc;exact ⟨x,by simp only [Instr.loadAt,Instr.sureAddr,Sem.run_bind,Sem.run_pure,Result.andThen_ok];grind [me],hd,trivial⟩
  grind
 grind
theorem Cj {ok : Nat → Prop} {x y : SV} {u : Value} {n : Nat} {nx : Nat} (h : rC n x = some y) (hx : bB ρ ok w x u) (hl : x.lt nx) :
  ∃ b o,u = .pointer (some ⟨b,o,none⟩)∧bB ρ ok w y (.pointer (some ⟨b,o+n,none⟩))∧y.lt nx:=by
 unfold rC at h;split at h <;> simp only [Option.some.injEq,reduceCtorEq] at h
 ·subst h;obtain ⟨b,o,hr,rfl⟩:=hx;exact ⟨_,_,rfl,⟨b,o,hr,by grind⟩,hl⟩
 ·subst h;obtain ⟨b,m,c,hr,rfl⟩:=hx;exact ⟨_,_,rfl,⟨b,m,c,hr,by grind⟩,hl⟩
 ·subst h;obtain ⟨b,o,rfl,hok,hc⟩:=hx;exact ⟨_,_,rfl,⟨b,o,by grind,hok,hc⟩,hl⟩
theorem Cv {t : TypeId} {f off sz : Nat} {b : Bool} {x y : SV} {u : Value} (hf : S.fld t f = some (off, sz, b)) (hy : rC off x = some y) (hvc : sz ≠ 0)
  (hl:x.lt st.nx) (hx:bB ρ (cd E st.bx ρ w) w x u):PL S E st ρ w (Instr.fieldAt t u f) y:=by
 obtain ⟨fs,fl,hu,hfl,rfl,hti⟩:=wL hf;obtain ⟨bb,o,rfl,hd,hl'⟩:=Cj hy hx hl;refine ⟨_, ?_,hd,hl'⟩;simp [Instr.fieldAt,Sem.run_bind,run_underlying hu,hfl,Instr.sureAddr,fieldPlace,dP hti,hvc,Addr.add_lit]
theorem OR {t : TypeId} {f : Nat} {x : SV} {u : Value} {vc : Prop} {r : SV} (h : sT S t f x = some (vc, r)) (hvc : vc) (hl : x.lt st.nx)
  (hx:bB ρ (cd E st.bx ρ w) w x u):PL S E st ρ w (Instr.field t u f) r:=by
 unfold sT at h;split at h
 ·rename_i cs;obtain ⟨us,rfl,hs,h1,hd⟩:=hx;split at h
  ·rename_i off sz hf;simp only [Option.some.injEq,Prod.mk.injEq] at h;obtain ⟨rfl,rfl⟩:=h;obtain ⟨fs,fl,hu,hfl,rfl,hti⟩:=wL hf;refine ⟨.agg (us.extract fl.offset (fl.offset+sz)), ?_,⟨_,rfl,by simp;omega,fun j hj => ?_,fun j => ?_⟩,fun c hc=>hl c (oR hc)⟩
   ·simp [Instr.field,Sem.run_bind,run_underlying hu,hfl,asAgg,mL hti]
   ·have hj':j<sz:=by
     have:=hj;simp at this;omega
    have e:(us.extract fl.offset (fl.offset+sz)).getD j undef=us.getD (fl.offset+j) undef:=by
     simp only [Array.getD_eq_getD_getElem?,Array.getElem?_extract];rw [if_pos (by omega)]
    grind
   ·by_cases hj:j<sz
    ·rw [kH hvc hj];have:=hd (fl.offset+j);have e:(us.extract fl.offset (fl.offset+sz)).getD j undef=us.getD (fl.offset+j) undef:=by
      simp only [Array.getD_eq_getD_getElem?,Array.getElem?_extract];rw [if_pos (by omega)]
     grind
    ·rw [oG hj];trivial
  ·rename_i off sz hf;simp only [Option.some.injEq,Prod.mk.injEq] at h;obtain ⟨rfl,rfl⟩:=h;obtain ⟨fs,fl,hu,hfl,rfl,hti⟩:=wL hf;refine ⟨_, ?_,hd fl.offset,CV.lt_getD hl _⟩;simp [Instr.field,Sem.run_bind,run_underlying hu,hfl,asAgg,pY hti w us fl.offset (by omega)]
  grind
 grind
theorem Jj {vs : List BV} {i : Nat} {u : Value} (hvc : i < vs.length) (hl : (SV.tup vs).lt st.nx) (hx : bB ρ (cd E st.bx ρ w) w (.tup vs) u) :
  PL S E st ρ w (Instr.extract u i) (.b (vs.getD i .any)):=by
 obtain ⟨us,rfl,hs,hd⟩:=hx;refine ⟨us.getD i undef, ?_,hd i,BV.lt_getD hl i⟩;simp_all [Instr.extract]
end
end
section
section
variable {S:Env} {E:Ent} {st:St} {ρ:iN} {a:Act} {w:World}
theorem GR {i:Int} {n:Nat} (h:0≤i∧i<(n:Int)):i.toNat<n:=by omega
theorem Cq {t : TypeId} {x i : SV} {u ui : Value} {vc : Prop} {r : SV} (h : kq S t x i = some (vc, r)) (hvc : vc)
  (hl:x.lt st.nx) (hx:bB ρ (cd E st.bx ρ w) w x u) (hi:bB ρ (cd E st.bx ρ w) w i ui):PL S E st ρ w (Instr.indexAt t u ui) r:=by
 unfold kq at h;split at h
 ·rename_i sz n f k i;cases hi;split at h
  ·rename_i e s b he;simp only [Option.some.injEq,Prod.mk.injEq] at h;obtain ⟨rfl,rfl⟩:=h;obtain ⟨hb,rfl⟩:=hvc;obtain ⟨hu,hti⟩:=po he;obtain ⟨ad,c,rfl,hn,hh⟩:=hx;obtain ⟨bb,o,rfl,hok,hc⟩:=hh (by omega);refine ⟨.pointer (some ⟨bb,o+i.toNat * sz,none⟩), ?_,⟨bb,o+i.toNat * sz,rfl,hok,fun j hj => ?_⟩,trivial⟩
   ·simp [Instr.indexAt,Sem.run_bind,asIntOf,run_underlying hu,hb,dP hti,Addr.add_lit]
   ·obtain ⟨x,hx,h1,hd⟩:=hc i.toNat (GR hb) j hj;grind
  grind
 ·rename_i id n k i;cases hi;split at h
  ·rename_i e s b he;simp only [Option.some.injEq,Prod.mk.injEq] at h;obtain ⟨rfl,rfl⟩:=h;obtain ⟨hu,hti⟩:=po he;obtain ⟨ad,m,c,hr,hnm,hmc,hb',rfl⟩:=hx;obtain ⟨gb,rfl⟩:=hb' (by omega);refine ⟨.pointer (some ⟨gb,i.toNat * s,none⟩), ?_,⟨gb,m,c,hr,by grind⟩,hl⟩;simp [Instr.indexAt,Sem.run_bind,asIntOf,run_underlying hu,hvc,dP hti,Addr.add_lit]
  grind
 ·rename_i k i _ _;cases hi;split at h
  ·rename_i len e s b he;obtain ⟨y,hm,hq⟩:=Option.map_eq_some_iff.1 h;simp only [Prod.mk.injEq] at hq;obtain ⟨rfl,rfl⟩:=hq;obtain ⟨hu,hti⟩:=Ak he;obtain ⟨bb,o,rfl,hd,hl'⟩:=Cj hm hx hl;refine ⟨_, ?_,hd,hl'⟩;simp [Instr.indexAt,Sem.run_bind,asIntOf,run_underlying hu,hvc,dP hti,Addr.add_lit,Instr.sureAddr]
  grind
 grind
theorem OQ {t : TypeId} {x i : SV} {u ui : Value} {vc : Prop} {r : SV} (h : sZ S t x i = some (vc, r)) (hvc : vc)
  (hl:x.lt st.nx) (hx:bB ρ (cd E st.bx ρ w) w x u) (hi:bB ρ (cd E st.bx ρ w) w i ui):PL S E st ρ w (Instr.index t u ui) r:=by
 unfold sZ at h;split at h
 ·rename_i cs k i;cases hi;obtain ⟨us,rfl,hs,h1,hd⟩:=hx;split at h
  ·rename_i len e s he;simp only [Option.some.injEq,Prod.mk.injEq] at h;obtain ⟨rfl,rfl⟩:=h;obtain ⟨hb,hle⟩:=hvc;obtain ⟨hu,hti⟩:=Ak he;refine ⟨.agg (us.extract (i.toNat * s) (i.toNat * s+s)), ?_,⟨_,rfl,by simp;omega,fun j hj => ?_,fun j => ?_⟩,fun c hc=>hl c (oR hc)⟩
   ·simp [Instr.index,Sem.run_bind,asIntOf,run_underlying hu,hb,dP hti,mL hti]
   ·have hj':j<s:=by
     have:=hj;simp at this;omega
    have e:(us.extract (i.toNat * s) (i.toNat * s+s)).getD j undef=us.getD (i.toNat * s+j) undef:=by
     simp only [Array.getD_eq_getD_getElem?,Array.getElem?_extract];rw [if_pos (by omega)]
    grind
   ·by_cases hj:j<s
    ·rw [kH hle hj];have e:(us.extract (i.toNat * s) (i.toNat * s+s)).getD j undef=us.getD (i.toNat * s+j) undef:=by
      simp only [Array.getD_eq_getD_getElem?,Array.getElem?_extract];rw [if_pos (by omega)]
     grind
    ·rw [oG hj];trivial
  ·rename_i len e s he;simp only [Option.some.injEq,Prod.mk.injEq] at h;obtain ⟨rfl,rfl⟩:=h;obtain ⟨hb,hle⟩:=hvc;obtain ⟨hu,hti⟩:=Ak he;refine ⟨_, ?_,hd (i.toNat * s),CV.lt_getD hl _⟩;simp [Instr.index,Sem.run_bind,asIntOf,run_underlying hu,hb,dP hti,pY hti w us (i.toNat * s) (by omega)]
  grind
 ·rename_i b k i;cases hi;cases hx;split at h
  ·rename_i hu;simp only [Option.some.injEq,Prod.mk.injEq] at h;obtain ⟨rfl,rfl⟩:=h;have hlt:i.toNat<b.size:=by omega
   refine ⟨_, ?_,rfl,trivial⟩;simp [Instr.index,Sem.run_bind,asIntOf,run_underlying hu,hvc.1,hlt,ByteArray.get!];rfl
  grind
 grind
theorem Vd {op : BinOp} {k : IntKind} {x y : Int} {vc : Prop} {v : Value} (h : Su op k x y = some (vc, v)) (hvc : vc) (t : TypeId) (w : World) :
  (binOp op t (.int k x) (.int k y)).run S.P w = .ok v w:=by
 unfold Su at h;split at h <;> simp only [Option.some.injEq,Prod.mk.injEq,reduceCtorEq] at h <;> obtain ⟨rfl,rfl⟩:=h <;>
  simp [binOp,Op.intArith,Op.intDiv,Op.intBits,Op.intCmp] <;> (omega)
theorem rS (op:BinOp) (t:TypeId) (x y:Operand) (k k':IntKind) (m n:Int) (w:World):(eqGuard op t x y (.int k m) (.int k' n)).run S.P w = .ok () w:=by simp_all [eqGuard]
theorem vo (op:BinOp) (t:TypeId) (x y:Operand) (m n:Bool) (w:World):(eqGuard op t x y (.bool m) (.bool n)).run S.P w = .ok () w:=by simp_all [eqGuard]
theorem nF (op:BinOp) (t:TypeId) (x y:Operand) (m n:ByteArray) (w:World):(eqGuard op t x y (.string m) (.string n)).run S.P w = .ok () w:=by simp_all [eqGuard]
theorem tN (op:BinOp) (t:TypeId) (x y:Operand) (a b:Option Addr) (n c n' c':Nat) (w:World):(eqGuard op t x y (.slice a n c) (.slice b n' c')).run S.P w = .ok () w:=by simp_all [eqGuard]
theorem yZ {P : Program} (w : World) (d : Nat) (t e : TypeId) (a : Option Addr) (n c n' c' : Nat) (h : P.underlying t = some (.slice e)) :
  (Op.equalIn (d+1) t (.slice a n c) (.slice none n' c')).run P w = .ok a.isNone w:=by
 cases a <;> simp [Op.equalIn,run_underlying h]
theorem yd (op:BinOp) (t:TypeId) (x y:Operand) (a b:Option Addr) (w:World):(eqGuard op t x y (.pointer a) (.pointer b)).run S.P w = .ok () w:=by simp_all [eqGuard]
theorem yS {P:Program} (w:World) (d:Nat) (t e:TypeId) (a:Addr) (h:P.underlying t=some (.pointer e)):(Op.equalIn (d+1) t (.pointer (some a)) (.pointer none)).run P w = .ok false w:=by simp [Op.equalIn,run_underlying h]
theorem xW {P:Program} (w:World) (t e:TypeId) (a:Addr) (h:P.underlying t=some (.pointer e)):(binOp .eql t (.pointer (some a)) (.pointer none)).run P w = .ok (.bool false) w:=by
 simp only [binOp];simp [Op.equal,Op.maxDepth,yS w 9999 t e a h]
theorem yh {P : Program} (w : World) (t e : TypeId) (a : Option Addr) (n c n' c' : Nat) (h : P.underlying t = some (.slice e)) :
  (binOp .eql t (.slice a n c) (.slice none n' c')).run P w = .ok (.bool a.isNone) w:=by
 simp only [binOp];simp [Op.equal,Op.maxDepth,yZ w 9999 t e a n c n' c' h]
theorem OS {xs:Array Value} {off n:Nat} {v:Value} (h:(xs.toList.drop off).take n=[v]):off<xs.size∧xs.getD off undef=v:=by
 have h1:((xs.toList.drop off).take n)[0]?=some v:=by rw [h];rfl
 rw [List.getElem?_take] at h1;split at h1
 ·rw [List.getElem?_drop] at h1;have hlt:off<xs.toList.length:=by
   rcases Nat.lt_or_ge off xs.toList.length with q|q
   ·exact q
   ·grind
  simp_all
 ·cases h1
theorem CY {x:Option Bool} {r:List (Option Bool)} {b:Bool} (h:Hn (x :: r)=some b):∃ a c,x=some a∧Hn r=some c∧b=(a && c):=by
 cases x with
 | none=>cases h
 | some a =>
  simp only [Hn,Option.map_eq_some_iff] at h;grind
theorem Br (xs:Array Value) (off n:Nat):(xs.extract off (off+n)).toList=(xs.toList.drop off).take n:=by simp_all
def EqP (S:Env) (d:Nat):Prop:=∀ (k:Nat) (w:World) (t:TypeId) (xs ys:Array Value) (off:Nat) (r:Bool),
 Rc S.P d t ((xs.toList.drop off).take (S.P.cellsOf t)) ((ys.toList.drop off).take (S.P.cellsOf t))=some r →
  ∃ a b,(part t xs off).run S.P w = .ok a w∧(part t ys off).run S.P w = .ok b w∧(Op.equalIn (k+d) t a b).run S.P w = .ok r w
theorem eqA {d : Nat} (IH : EqP S d) (k : Nat) (w : World) (t : TypeId) (xs ys : Array Value) (r : Bool) (hag : (∃ fs, S.P.underlying t = some (.struct fs)) ∨ ∃ n e, S.P.underlying t = some (.array n e))
  (h:Rc S.P (d+1) t xs.toList ys.toList=some r):(Op.equalIn (k+(d+1)) t (.agg xs) (.agg ys)).run S.P w = .ok r w:=by
 rcases hag with ⟨fs,hu⟩|⟨n,e,hu⟩
 ·simp only [Rc,hu] at h;split at h
  ·cases h
  ·rename_i hs;have hfs:S.P.fieldsOf t=fs:=by simp [Program.fieldsOf,hu]
   rw [show k+(d+1)=(k+d)+1 from rfl,run_equalIn_struct w (k+d) t xs ys (by grind) (by grind),hfs];generalize fs.toList=l at h ⊢;clear hfs hu
   induction l generalizing r with
   | nil =>
    simp_all [Op.eqFields,Hn]
   | cons f l ih =>
    rw [List.map_cons] at h;obtain ⟨a,c,h1,h2,rfl⟩:=CY h;split at h1
    ·cases h1
    ·rename_i hn;obtain ⟨x,y,p1,p2,p3⟩:=IH k w f.type xs ys f.offset a h1;have h3:=ih c h2;simp only [Op.eqFields,hn,ne_eq,not_false_eq_true,if_true,Sem.run_bind,p1,p2,p3,Result.andThen_ok];cases a
     ·simp
     grind
 ·simp only [Rc,hu] at h;cases hi:S.P.info? e with
  | none=>grind
  | some i =>
   rw [hi] at h;simp only [Option.isNone_some,Bool.false_eq_true,if_false] at h;rw [show k+(d+1)=(k+d)+1 from rfl,run_equalIn_array w (k+d) xs ys hu hi];generalize List.range n=l at h ⊢;clear hu
   induction l generalizing r with
   | nil =>
    simp_all [Op.eqItems,Hn]
   | cons f l ih =>
    rw [List.map_cons] at h;obtain ⟨a,c,h1,h2,rfl⟩:=CY h;obtain ⟨x,y,p1,p2,p3⟩:=IH k w e xs ys (f * S.P.cellsOf e) a h1;have h3:=ih c h2;simp only [Op.eqItems,Sem.run_bind,p1,p2,p3,Result.andThen_ok];cases a
    ·simp
    grind
theorem eqP (S:Env):∀ d,EqP S d
 | 0=>fun k w t xs ys off r h=>by grind [Rc]
 | d+1=>fun k w t xs ys off r h=>by
  cases hu:S.P.underlying t with
  | none=>simp_all [Rc]
  | some kd =>
   obtain ⟨i,hi⟩:=info_of_underlying hu;have hsz:S.P.cellsOf t=i.size:=by simp [Program.cellsOf,hi]
   have agg:(∃ fs,S.P.underlying t=some (.struct fs))∨(∃ n e,S.P.underlying t=some (.array n e))→∃ a b,(part t xs off).run S.P w = .ok a w∧(part t ys off).run S.P w = .ok b w∧(Op.equalIn (k+(d+1)) t a b).run S.P w = .ok r w:=fun hag=>by
    have hti:S.ti t=some (i.size,true):=by
     rcases hag with ⟨fs,hu⟩|⟨n,e,hu⟩ <;> simp [Env.ti,hi,hu]
    refine ⟨_,_,mL hti w xs off,mL hti w ys off,eqA (eqP S d) k w t _ _ r hag ?_⟩;grind [Br]
   have one : S.ti t = some (i.size, false) → ∀ {x y : Value}, (xs.toList.drop off).take (S.P.cellsOf t) = [x] → (ys.toList.drop off).take (S.P.cellsOf t) = [y] → (Op.equalIn (k + d + 1) t x y).run S.P w = .ok r w →
     ∃ a b,(part t xs off).run S.P w = .ok a w∧(part t ys off).run S.P w = .ok b w∧(Op.equalIn (k+(d+1)) t a b).run S.P w = .ok r w:=fun hti x y h1 h2 h3=>by
    grind [part,OS,pY]
   simp only [Rc,hu] at h;split at h
   ·grind [Env.ti,run_equalIn_bool]
   ·grind [Env.ti,run_equalIn_int]
   ·grind [Env.ti,run_equalIn_string]
   ·simp_all
   ·simp_all
   ·cases h
theorem Mn {t:TypeId} {xs ys:Array Value} {r:Bool} (h:S.eqv t xs.toList ys.toList=some r) (w:World):(Op.equalIn 10000 t (.agg xs) (.agg ys)).run S.P w = .ok r w∧S.P.eqGuardType S.P.depth t=false:=by
 unfold Env.eqv at h;split at h
 ·rename_i fs hu;split at h
  ·cases h
  ·rename_i hg;exact ⟨eqA (eqP S 7) 9992 w t xs ys r (.inl ⟨_,hu⟩) h,by grind⟩
 ·rename_i n e hu;split at h
  ·cases h
  ·rename_i hg;exact ⟨eqA (eqP S 7) 9992 w t xs ys r (.inr ⟨_,_,hu⟩) h,by grind⟩
 ·cases h
theorem qi {ok:Nat→Prop}:∀ {cs:List CV} {l:List Value},rH cs=some l→∀ {us:Array Value},us.size=cs.length→(∀ j,cR ρ ok w (cs.getD j .any) (us.getD j undef))→us.toList=l:=by
 have key:∀ {cs:List CV} {l:List Value},rH cs=some l→∀ {us:List Value},us.length=cs.length→(∀ j,cR ρ ok w (cs.getD j .any) (us.getD j undef))→us=l:=by
  intro cs
  induction cs with
  | nil =>
   grind [rH]
  | cons c cs ih =>
   intro l h us hl hd;unfold rH at h;split at h
   ·grind
   ·rename_i v r hc;simp only [List.cons.injEq] at hc;obtain ⟨rfl,rfl⟩:=hc;simp only [Option.map_eq_some_iff] at h;obtain ⟨l',h1,rfl⟩:=h;cases us with
    | nil=>cases hl
    | cons u us =>
     have h0:u=v:=hd 0;rw [h0,ih h1 (by grind) fun j=>hd (j+1)]
   ·cases h
 intro cs l h us hl hd;refine key h (by omega) fun j => ?_;simp_all
theorem WL {op : BinOp} {t : TypeId} {X Y : Operand} {x y : SV} {u v : Value} {vc : Prop} {r : SV} (h : DT S op t x y = some (vc, r)) (hvc : vc)
  (hx:bB ρ (cd E st.bx ρ w) w x u) (hy:bB ρ (cd E st.bx ρ w) w y v):PL S E st ρ w (do eqGuard op t X Y u v;binOp op t u v) r:=by
 unfold DT at h;split at h
 ·rename_i k m k' n;cases hx;cases hy;split at h
  ·simp only [Option.some.injEq,Prod.mk.injEq] at h;obtain ⟨rfl,rfl⟩:=h;refine ⟨_, ?_,rfl,trivial⟩;simp [rS,Sem.run_bind,binOp,Op.shift,Int.not_lt.2 hvc]
  ·simp only [Option.some.injEq,Prod.mk.injEq] at h;obtain ⟨rfl,rfl⟩:=h;refine ⟨_, ?_,rfl,trivial⟩;simp [rS,Sem.run_bind,binOp,Op.shift,Int.not_lt.2 hvc]
  ·cases hb:Su op k m n with
   | none=>grind
   | some z =>
    simp only [hb,Option.map_some,Option.some.injEq,Prod.mk.injEq] at h;obtain ⟨rfl,rfl⟩:=h;obtain ⟨rfl,hz⟩:=hvc;refine ⟨z.2, ?_,rfl,trivial⟩;simp [rS,Sem.run_bind,Vd (S:=S) (vc:=z.1) (v:=z.2) hb hz t w]
 ·cases hx;cases hy;split at h
  ·rename_i hu;simp only [Option.some.injEq,Prod.mk.injEq] at h;obtain ⟨rfl,rfl⟩:=h;refine ⟨_, ?_,rfl,trivial⟩;simp only [vo,Sem.run_bind,Result.andThen_ok,binOp,Op.equal,Op.maxDepth,run_equalIn_bool (P:=S.P) w 9999 t _ _ hu];rfl
  ·rename_i hu;simp only [Option.some.injEq,Prod.mk.injEq] at h;obtain ⟨rfl,rfl⟩:=h;refine ⟨_, ?_,rfl,trivial⟩;simp only [vo,Sem.run_bind,Result.andThen_ok,binOp,Op.equal,Op.maxDepth,run_equalIn_bool (P:=S.P) w 9999 t _ _ hu];rfl
  grind
 ·rename_i m n;cases hx;cases hy;split at h
  ·simp only [Option.some.injEq,Prod.mk.injEq] at h;obtain ⟨rfl,rfl⟩:=h;refine ⟨_, ?_,rfl,trivial⟩;simp [nF,Sem.run_bind,binOp,Op.stringOp]
  ·simp only [Option.some.injEq,Prod.mk.injEq] at h;obtain ⟨rfl,rfl⟩:=h;refine ⟨_, ?_,rfl,trivial⟩;simp [nF,Sem.run_bind,binOp,Op.stringOp]
  ·simp only [Option.some.injEq,Prod.mk.injEq] at h;obtain ⟨rfl,rfl⟩:=h;refine ⟨_, ?_,rfl,trivial⟩;have hm:¬ (((m.size+n.size:Nat):Int)>IntKind.i64.max):=by
    have:IntKind.i64.max=9223372036854775807:=rfl;rw [this];omega
   simp only [nF,Sem.run_bind,binOp,Op.stringOp,Result.andThen_ok];simp_all
  grind
 ·rename_i cs ds;obtain ⟨us,rfl,s1,_,d1⟩:=hx;obtain ⟨vs,rfl,s2,_,d2⟩:=hy;split at h
  ·rename_i xs ys hxs hys;simp only [Option.map_eq_some_iff,Prod.mk.injEq] at h;obtain ⟨q,hq,rfl,rfl⟩:=h;have e1:=qi hxs s1 d1;have e2:=qi hys s2 d2;subst e1;subst e2;obtain ⟨hr,hg⟩:=Mn hq w;refine ⟨_, ?_,rfl,trivial⟩;rw [Sem.run_bind,run_eqGuard_agg w _ t X Y us vs hg,Result.andThen_ok,run_eql_struct,hr];rfl
  ·rename_i xs ys hxs hys;simp only [Option.map_eq_some_iff,Prod.mk.injEq] at h;obtain ⟨q,hq,rfl,rfl⟩:=h;have e1:=qi hxs s1 d1;have e2:=qi hys s2 d2;subst e1;subst e2;obtain ⟨hr,hg⟩:=Mn hq w;refine ⟨_, ?_,rfl,trivial⟩;rw [Sem.run_bind,run_eqGuard_agg w _ t X Y us vs hg,Result.andThen_ok,run_neq_struct,hr];rfl
  ·cases h
 ·cases hy;obtain ⟨a,c,rfl,hn,hb⟩:=hx;split at h
  ·rename_i e hu;simp only [Option.some.injEq,Prod.mk.injEq] at h;obtain ⟨rfl,rfl⟩:=h;obtain ⟨b,o,rfl,_⟩:=hb hvc;refine ⟨_, ?_,rfl,trivial⟩;rw [Sem.run_bind,tN,Result.andThen_ok,yh w _ _ _ _ _ _ _ hu];rfl
  ·cases h
 ·cases hx;cases hy;split at h
  ·rename_i e hu;simp only [Option.some.injEq,Prod.mk.injEq] at h;obtain ⟨rfl,rfl⟩:=h;refine ⟨_, ?_,rfl,trivial⟩;rw [Sem.run_bind,tN,Result.andThen_ok,yh w _ _ _ _ _ _ _ hu]
  ·cases h
 ·cases hy;obtain ⟨b,o,_,rfl⟩:=hx;split at h
  ·rename_i e hu;simp only [Option.some.injEq,Prod.mk.injEq] at h;obtain ⟨rfl,rfl⟩:=h;refine ⟨_, ?_,rfl,trivial⟩;rw [Sem.run_bind,yd,Result.andThen_ok,xW w _ _ _ hu]
  ·cases h
 ·cases hy;obtain ⟨b,o,rfl,_⟩:=hx;split at h
  ·rename_i e hu;simp only [Option.some.injEq,Prod.mk.injEq] at h;obtain ⟨rfl,rfl⟩:=h;refine ⟨_, ?_,rfl,trivial⟩;rw [Sem.run_bind,yd,Result.andThen_ok,xW w _ _ _ hu]
  ·cases h
 ·cases h
theorem a3N {op : UnOp} {x : SV} {u : Value} {vc : Prop} {r : SV} (h : PE op x = some (vc, r)) (hx : bB ρ (cd E st.bx ρ w) w x u) :
  PL S E st ρ w (Op.unary op u) r:=by
 unfold PE at h;split at h
 ·cases hx;split at h <;> simp only [Option.some.injEq,Prod.mk.injEq,reduceCtorEq] at h
  obtain ⟨rfl,rfl⟩:=h;exact ⟨_,rfl,rfl,trivial⟩
 ·cases hx;split at h <;> simp only [Option.some.injEq,Prod.mk.injEq,reduceCtorEq] at h
  ·obtain ⟨rfl,rfl⟩:=h;exact ⟨_,rfl,rfl,trivial⟩
  ·obtain ⟨rfl,rfl⟩:=h;exact ⟨_,rfl,rfl,trivial⟩
 grind
theorem Ua {s d : TypeId} {x : SV} {u : Value} {vc : Prop} {r : SV} (h : wW S s d x = some (vc, r)) (hx : bB ρ (cd E st.bx ρ w) w x u) :
  PL S E st ρ w (convert s d u) r:=by
 unfold wW at h;split at h
 ·cases hx;split at h <;> simp only [Option.some.injEq,Prod.mk.injEq,reduceCtorEq] at h
  rename_i ds k hs hd;obtain ⟨rfl,rfl⟩:=h;refine ⟨_, ?_,rfl,trivial⟩;simp only [convert,Sem.run_bind,run_underlying hs,run_underlying hd,Result.andThen_ok];simp_all [Conv.intToInt]
 ·cases hx;split at h <;> simp only [Option.some.injEq,Prod.mk.injEq,reduceCtorEq] at h
  rename_i hs hd;obtain ⟨rfl,rfl⟩:=h;refine ⟨_, ?_,rfl,trivial⟩;simp [convert,Sem.run_bind,run_underlying hs,run_underlying hd]
 grind
theorem ZW {t ty : TypeId} {x : SV} {u : Value} {vc : Prop} {r : SV} (h : DS S t x = some (vc, r)) (hx : bB ρ (cd E st.bx ρ w) w x u) :
  PL S E st ρ w (Builtin.len_ #[t] ty #[u]) r:=by
 unfold DS at h;split at h
 ·split at h <;> simp only [Option.some.injEq,Prod.mk.injEq,reduceCtorEq] at h
  rename_i hu;obtain ⟨rfl,rfl⟩:=h;obtain ⟨ad,c,rfl,_⟩:=hx;exact ⟨_,by simp [Builtin.len_,Sem.run_bind,run_underlying hu,goInt],rfl,trivial⟩
 ·split at h <;> simp only [Option.some.injEq,Prod.mk.injEq,reduceCtorEq] at h
  rename_i hu;obtain ⟨rfl,rfl⟩:=h;obtain ⟨ad,m,c,_,_,_,_,rfl⟩:=hx;exact ⟨_,by simp [Builtin.len_,Sem.run_bind,run_underlying hu,goInt],rfl,trivial⟩
 ·split at h <;> simp only [Option.some.injEq,Prod.mk.injEq,reduceCtorEq] at h
  rename_i hu;obtain ⟨rfl,rfl⟩:=h;cases hx;exact ⟨_,by simp [Builtin.len_,Sem.run_bind,run_underlying hu,goInt],rfl,trivial⟩
 ·split at h <;> simp only [Option.some.injEq,Prod.mk.injEq,reduceCtorEq] at h
  rename_i hu;obtain ⟨rfl,rfl⟩:=h;cases hx;exact ⟨_,by simp [Builtin.len_,Sem.run_bind,run_underlying hu,goInt],rfl,trivial⟩
 ·split at h <;> simp only [Option.some.injEq,Prod.mk.injEq,reduceCtorEq] at h
  rename_i hu;obtain ⟨rfl,rfl⟩:=h;exact ⟨_,by simp [Builtin.len_,Sem.run_bind,run_underlying hu,goInt],rfl,trivial⟩
theorem ks {ok : Nat → Prop} {x : Option SV} {y : Option Int} {u : Option Value} (h : HR? x = some y) (hn : x = none ↔ u = none)
  (hx:∀ s v,x=some s→u=some v→bB ρ ok w s v):(y=none∧u=none)∨∃ k i,y=some i∧u=some (.int k i):=by
 unfold HR? at h;split at h <;> simp only [Option.some.injEq,reduceCtorEq] at h
 ·grind
 ·rename_i k i;subst h;cases u with
  | none=>simp at hn
  | some v=>exact .inr ⟨k,i,rfl,by have:=hx _ v rfl rfl;simp only [bB,di,cR,bq] at this;rw [this]⟩
theorem pU {isS : Bool} {len cap : Nat} {lo hi : Option Int} {ul uh : Option Value} (hl : (lo = none ∧ ul = none) ∨ ∃ k i, lo = some i ∧ ul = some (.int k i))
  (hh:(hi=none∧uh=none)∨∃ k i,hi=some i∧uh=some (.int k i)) (hlc:len≤cap)
  (h0:0≤lo.getD 0) (h1:lo.getD 0≤hi.getD len) (h2:hi.getD len≤len) (P:Program) (w:World) :
  (Instr.sliceBounds isS len cap ul uh none).run P w = .ok ((lo.getD 0).toNat,(hi.getD len).toNat,cap) w:=by
 rcases hl with ⟨rfl,rfl⟩|⟨k,i,rfl,rfl⟩ <;> rcases hh with ⟨rfl,rfl⟩|⟨k',i',rfl,rfl⟩ <;> simp only [Option.getD_none,Option.getD_some] at h0 h1 h2 ⊢
 ·simp [Instr.sliceBounds,Sem.run_bind]
 ·have e2:0≤i'∧i'≤(cap:Int):=by omega
  simp [Instr.sliceBounds,Sem.run_bind,Instr.sliceBound,asIntOf,e2]
 ·simp [Instr.sliceBounds,Sem.run_bind,Instr.sliceBound,asIntOf,h0,h1]
 ·have e1:0≤i∧i≤(i'.toNat:Int):=by omega
  have e2:0≤i'∧i'≤(cap:Int):=by omega
  simp only [Instr.sliceBounds,Sem.run_bind,Instr.sliceBound,asIntOf,Sem.run_pure,Result.andThen_ok,Sem.run_ite];grind [Result.andThen,Sem.run]
theorem Oy {t : TypeId} {x : SV} {lo hi : Option SV} {u : Value} {ul uh : Option Value} {vc : Prop} {r : SV} (h : vS S t x lo hi = some (vc, r)) (hvc : vc)
  (hl:x.lt st.nx) (hx:bB ρ (cd E st.bx ρ w) w x u)
  (hln:lo=none↔ul=none) (hlo:∀ s v,lo=some s→ul=some v→bB ρ (cd E st.bx ρ w) w s v)
  (hhn:hi=none↔uh=none) (hhi:∀ s v,hi=some s→uh=some v→bB ρ (cd E st.bx ρ w) w s v) :
  PL S E st ρ w (Instr.sliceAt t u ul uh none) r:=by
 unfold vS at h;split at h
 ·rename_i sz n f lo' hi' e hlb hhb hu;simp only [Option.some.injEq,Prod.mk.injEq] at h;obtain ⟨rfl,rfl⟩:=h;obtain ⟨⟨h0,h1,h2⟩,hs⟩:=hvc;obtain ⟨ad,c,rfl,hn,hh⟩:=hx;cases hti:S.ti e with
  | none=>grind
  | some z =>
   obtain ⟨s,b⟩:=z;simp only [hti,Option.map_some,Option.some.injEq] at hs;subst hs;have hb:=pU (isS:=true) (ks hlb hln hlo) (ks hhb hhn hhi) hn h0 h1 h2 S.P w;refine ⟨_,by simp only [Instr.sliceAt,Instr.slice,Sem.run_bind,run_underlying hu,Result.andThen_ok,hb,dP hti,Sem.run_pure];rfl,⟨_,_,rfl,by omega,fun hpos => ?_⟩,trivial⟩;obtain ⟨bb,o,rfl,hok,hc⟩:=hh (by omega);rw [if_neg (by omega)];refine ⟨bb,o+(lo'.getD 0).toNat * s,by simp [Addr.add_lit],hok,fun i hi j hj => ?_⟩;obtain ⟨x,hx,h1,hd⟩:=hc ((lo'.getD 0).toNat+i) (by omega) j hj;grind
 ·rename_i id n hi' e hlb hhb hu;simp only [Option.some.injEq,Prod.mk.injEq] at h;obtain ⟨rfl,rfl⟩:=h;obtain ⟨⟨h0,h1⟩,hs⟩:=hvc;obtain ⟨ad,m,c,hr,hnm,hmc,hb',rfl⟩:=hx;cases hti:S.ti e with
  | none=>grind
  | some z =>
   obtain ⟨s,b⟩:=z;have hb:=pU (isS:=true) (ks hlb hln hlo) (ks hhb hhn hhi) (Nat.le_trans hnm hmc) (by simp) (by grind) (by grind) S.P w;refine ⟨_,by simp only [Instr.sliceAt,Instr.slice,Sem.run_bind,run_underlying hu,Result.andThen_ok,hb,dP hti,Sem.run_pure];rfl,⟨ad,m,c,hr,by omega,hmc,hb', ?_⟩,hl⟩;simp_all [Addr.add]
 ·rename_i id n lo' hi' e hlb hhb hu;simp only [Option.some.injEq,Prod.mk.injEq] at h;obtain ⟨rfl,rfl⟩:=h;obtain ⟨⟨h0,h1,h2⟩,hs⟩:=hvc;obtain ⟨ad,m,c,hr,hnm,hmc,hb',rfl⟩:=hx;cases hti:S.ti e with
  | none=>grind
  | some z =>
   obtain ⟨s,b⟩:=z;obtain ⟨gb,rfl⟩:=hb' (by omega);have hb:=pU (isS:=true) (ks hlb hln hlo) (ks hhb hhn hhi) (Nat.le_trans hnm hmc) (by grind) (by grind) (by grind) S.P w;refine ⟨_,by simp only [Instr.sliceAt,Instr.slice,Sem.run_bind,run_underlying hu,Result.andThen_ok,hb,dP hti,Sem.run_pure];rfl,⟨gb,m,c,c - lo'.toNat,hr,by omega, ?_⟩,hl⟩;grind [Addr.add,Addr.add_lit]
 ·rename_i bs lo' hi' hlb hhb hu;simp only [Option.some.injEq,Prod.mk.injEq] at h;obtain ⟨rfl,rfl⟩:=h;obtain ⟨h0,h1,h2⟩:=hvc;cases hx;have hb:=pU (isS:=false) (ks hlb hln hlo) (ks hhb hhn hhi) (Nat.le_refl bs.size) h0 h1 h2 S.P w;exact ⟨_,by simp [Instr.sliceAt,Instr.slice,Sem.run_bind,run_underlying hu,hb],rfl,trivial⟩
 grind
theorem AC {ok:Nat→Prop} {x:SV} {b:Bool} {u:Value} (h:bB ρ ok w x u) (hs:x.strip = .t b) (hc:x.cond):u = .bool b:=by
 have:=mX h hc;rw [hs] at this;exact this
theorem RA {c x y : SV} {uc ux uy : Value} {vc : Prop} {r : SV} (h : xo c x y = some (vc, r)) (hvc : vc)
  (hc:bB ρ (cd E st.bx ρ w) w c uc) (hx:bB ρ (cd E st.bx ρ w) w x ux) (hy:bB ρ (cd E st.bx ρ w) w y uy) :
  PL S E st ρ w (do pure (if ← asBool uc then ux else uy)) r:=by
 unfold xo at h;split at h
 ·rename_i t m n h1 h2 h3;simp only [Option.some.injEq,Prod.mk.injEq] at h;obtain ⟨rfl,rfl⟩:=h;obtain ⟨v1,v2,v3⟩:=hvc;have e1:=AC hc h1 v1;subst e1;cases t with
  | true =>
   have e2:=AC hx h2 (v2 rfl);exact ⟨_,by simp [asBool,Sem.run_bind];rfl,by rw [e2];rfl,trivial⟩
  | false =>
   have e2:=AC hy h3 (v3 rfl);exact ⟨_,by simp [asBool,Sem.run_bind];rfl,by rw [e2];rfl,trivial⟩
 grind
theorem sF:∀ {l:List SV} {x:SV},bc l→x ∈ l→x.cond
 | _ :: _,_,h, .head _=>h.1
 | _ :: _,_,h, .tail _ hm=>sF h.2 hm
theorem zc {x:SV} {k:IntKind} {m:Int} {ok:Nat→Prop} {u:Value} (h:x = .v (.int k m)) (hd:bB ρ ok w x u):u = .int k m:=by subst h;exact hd
theorem gT {s:Sem Value} {r:SV} (h:PL S E st ρ w s r):∃ v,(do pure (Next.value (← s)):Sem Next).run S.P w = .ok (.value v) w∧bB ρ (cd E st.bx ρ w) w r v∧r.lt st.nx:=by
 obtain ⟨v,hr,hd,hl⟩:=h;simp_all
theorem Jr:∀ {l:List Operand} {ps:List (Nat × Nat)},ld (l.map fun x=>(st.ev S x).strip)=some ps→l.length=ps.length∧∀ j,j<ps.length→∃ x,l[j]?=some x∧(st.ev S x).strip = .b (.c (.ptr (ps.getD j (0,0)).1 (ps.getD j (0,0)).2))
 | [],ps,h=>by grind [ld]
 | x :: l,ps,h=>by
  simp only [List.map_cons] at h;cases hx:(st.ev S x).strip with
  | b y =>
   rw [hx] at h;cases y with
   | c z =>
    cases z with
    | ptr id off =>
     simp only [ld] at h;cases hp:ld (l.map fun x=>(st.ev S x).strip) with
     | none=>grind
     | some ps2 =>
      rw [hp] at h;simp only [Option.map_some,Option.some.injEq] at h;subst h;obtain ⟨h1,h2⟩:=Jr hp;grind
    | _=>grind [ld]
   | agg=>grind [ld]
  | _=>grind [ld]
theorem Fz {o : Oper} {vc : Prop} {r : SV} (h : bK S st.bx (st.ev S) o.op = some (vc, r)) (hc : ∀ x ∈ o.op.operands, (st.ev S x).cond) (hvc : vc) (g : Gam S E st ρ a w) :
  ∃ v,(execOp a.eval o).run S.P w = .ok (.value v) w∧bB ρ (cd E st.bx ρ w) w r v∧r.lt st.nx:=by
 have D:∀ x,x ∈ o.op.operands→bB ρ (cd E st.bx ρ w) w (st.ev S x).strip (a.eval x):=fun x hx=>mX (g.ev x).1 (hc x hx);have L:∀ x,(st.ev S x).strip.lt st.nx:=fun x=>vp (g.ev x).2;obtain ⟨dst,op,ty,pos,after,guard⟩:=o;cases op <;> simp only [bK,reduceCtorEq] at h <;> simp only [Op.operands] at D
 case load t x=>exact gT (AM h hvc g (D x (by simp)))
 case fieldAddr t x f =>
  split at h
  ·rename_i off sz b hf;cases hm:rC off (st.ev S x).strip with
   | none=>grind
   | some y =>
    simp only [hm,Option.map_some,Option.some.injEq,Prod.mk.injEq] at h;obtain ⟨rfl,rfl⟩:=h;exact gT (Cv hf hm hvc (L x) (D x (by simp)))
  grind
 case field t x f=>exact gT (OR h hvc (L x) (D x (by simp)))
 case indexAddr t x i=>exact gT (Cq h hvc (L x) (D x (by simp)) (D i (by simp)))
 case index t x i=>exact gT (OQ h hvc (L x) (D x (by simp)) (D i (by simp)))
 case extract x i =>
  split at h
  ·rename_i vs hx;simp only [Option.some.injEq,Prod.mk.injEq] at h;obtain ⟨rfl,rfl⟩:=h;exact gT (Jj hvc (hx ▸ L x) (hx ▸ D x (by simp)))
  grind
 case binOp op t x y yt=>exact gT (WL h hvc (D x (by simp)) (D y (by simp)))
 case unOp op t x=>exact gT (a3N h (D x (by simp)))
 case convert s d x=>exact gT (Ua h (D x (by simp)))
 case makeFunc fn first cap =>
  split at h <;> simp only [Option.some.injEq,Prod.mk.injEq,reduceCtorEq] at h
  rename_i f ps hfst hps;obtain ⟨rfl,rfl⟩:=h;have hf:first = #[]:=by rw [← Array.toArray_toList (xs:=first),hfst]
  subst hf;obtain ⟨h1,h2⟩:=Jr hps;have h1':cap.size=ps.length:=by simpa using h1
  refine ⟨.func (.func f) #[] (cap.map a.eval),by simp [execOp,Instr.makeFunc],⟨_,rfl,by grind,fun j hj => ?_⟩,fun p hp => ?_⟩
  ·obtain ⟨x,hx,he⟩:=h2 j hj;have hj':j<cap.size:=by omega
   have hxe:cap[j]=x:=by
    have:cap.toList[j]?=some x:=hx;simpa [hj'] using this
   have hd:=D x (by grind);rw [he] at hd;obtain ⟨b,o,e1,e2⟩:=hd;simp_all
  ·obtain ⟨j,hj,rfl⟩:=List.getElem_of_mem hp;obtain ⟨x,hx,he⟩:=h2 j hj;have hl:=L x;rw [he] at hl;have e:ps.getD j (0,0)=ps[j]:=by simp [List.getD_eq_getElem?_getD,hj]
   rw [e] at hl;exact hl
 case nilCheck x =>
  have hd:=D x (by simp);have hl:=L x;simp only [execOp];split at h <;> simp only [Option.some.injEq,Prod.mk.injEq,reduceCtorEq] at h
  ·rename_i id off hx;obtain ⟨rfl,rfl⟩:=h;rw [hx] at hd hl;obtain ⟨b,o,hr,he⟩:=hd;simp_all
  ·rename_i id sz i off hx;obtain ⟨rfl,rfl⟩:=h;rw [hx] at hd hl;obtain ⟨b,m,c,hr,he⟩:=hd;simp_all
  ·rename_i sz gg off hx;obtain ⟨rfl,rfl⟩:=h;rw [hx] at hd hl;obtain ⟨b,o,he,hok,hc⟩:=hd;simp_all
 case slice t x lo hi mx =>
  cases mx with
  | some _=>simp at h
  | none =>
   simp only at h;refine gT (Oy h hvc (L x) (D x (by simp)) (by simp_all) (fun s v h1 h2 => ?_) (by simp_all) (fun s v h1 h2 => ?_))
   ·cases lo with
    | none=>simp at h1
    | some z=>grind
   ·cases hi with
    | none=>simp at h1
    | some z=>grind
 case call c =>
  obtain ⟨callee,args,at_⟩:=c;simp only at h;split at h
  ·rename_i _ _ _ x t h2 h3;have ha:args = #[x]:=by rw [← Array.toArray_toList (xs:=args),h2]
   have ht:at_ = #[t]:=by rw [← Array.toArray_toList (xs:=at_),h3]
   subst ha;subst ht;have:=ZW (ty:=ty) h (D x (by simp [Call.operands]));obtain ⟨v,hr,hd,hl⟩:=this;exact ⟨v,by simp [execOp,resolve,invoke,builtin,Sem.run_bind,hr],hd,hl⟩
  ·rename_i x y h2;have ha:args = #[x,y]:=by rw [← Array.toArray_toList (xs:=args),h2]
   subst ha;split at h <;> simp only [Option.some.injEq,Prod.mk.injEq,reduceCtorEq] at h
   rename_i k m k' n hx hy;obtain ⟨rfl,rfl⟩:=h;have e1:=zc hx (D x (by simp [Call.operands]));have e2:=zc hy (D y (by simp [Call.operands]));exact ⟨_,by simp [execOp,resolve,invoke,builtin,Sem.run_bind,e1,e2,Builtin.min_,Builtin.min2],rfl,trivial⟩
  ·rename_i x y h2;have ha:args = #[x,y]:=by rw [← Array.toArray_toList (xs:=args),h2]
   subst ha;split at h <;> simp only [Option.some.injEq,Prod.mk.injEq,reduceCtorEq] at h
   rename_i k m k' n hx hy;obtain ⟨rfl,rfl⟩:=h;have e1:=zc hx (D x (by simp [Call.operands]));have e2:=zc hy (D y (by simp [Call.operands]));exact ⟨_,by simp [execOp,resolve,invoke,builtin,Sem.run_bind,e1,e2,Builtin.max_,Builtin.max2],rfl,trivial⟩
  grind
theorem AF {o : Oper} {vc : Prop} {r : SV} (h : ro S st.bx (st.ev S) o.op = some (vc, r)) (hvc : vc) (g : Gam S E st ρ a w) :
  ∃ v,(execOp a.eval o).run S.P w = .ok (.value v) w∧bB ρ (cd E st.bx ρ w) w r v∧r.lt st.nx:=by
 unfold ro at h;split at h
 ·rename_i x hx;simp only [Option.some.injEq,Prod.mk.injEq] at h;obtain ⟨rfl,rfl⟩:=h;exact ⟨_,by simp_all [execOp],(g.ev x).1,(g.ev x).2⟩
 ·rename_i x hx;simp only [Option.some.injEq,Prod.mk.injEq] at h;obtain ⟨rfl,rfl⟩:=h;exact ⟨_,by simp_all [execOp],(g.ev x).1,(g.ev x).2⟩
 ·rename_i c x y hx;have:=gT (RA (S:=S) h hvc (g.ev c).1 (g.ev x).1 (g.ev y).1);simp_all [Sem.run,execOp]
 ·split at h
  ·grind [bc,Fz,sF]
  grind
end
end
section
def St.newBox (st:St) (x:Bx):St := { st with bx:=fun i=>if i=st.nx then some x else st.bx i,nx:=st.nx+1 }
def St.newBoxO (st:St) (x:Option Bx):St := { st with bx:=fun i=>if i=st.nx then x else st.bx i,nx:=st.nx+1 }
theorem Oq {st:St} {x:Bx}:st.newBoxO (some x)=st.newBox x:=rfl
def St.setBox (st:St) (id:Nat) (x:Bx):St := { st with bx:=fun i=>if i=id then some x else st.bx i }
def St.delBox (st:St) (id:Nat):St := { st with bx:=fun i=>if i=id then none else st.bx i }
def iN.upd (ρ:iN) (id:Nat) (v:Value):iN:=fun i=>if i=id then v else ρ i
section
variable {S:Env} {E:Ent} {st:St} {ρ:iN} {a:Act} {w:World}
theorem Gam.newBoxN {w' : World} (g : Gam S E st ρ a w) (hB : RowKit.Below w.heap.size w w') (x : Bx) (v0 : Value) (hx : x.lt st.nx)
  (hblk:∀ b,mW v0=some b→w.heap.size≤b∧b<w'.heap.size)
  (hd:∀ ok',iM (cd E st.bx ρ w) ok' w w'→(∀ b,w.heap.size≤b→b<w'.heap.size→mW v0≠some b→ok' b)→jC (ρ.upd st.nx v0) ok' w' x v0):Gam S E (st.newBox x) (ρ.upd st.nx v0) a w':=by
 have hρ:∀ id,id<st.nx→(ρ.upd st.nx v0) id=ρ id:=fun id h=>by simp only [iN.upd];rw [if_neg (by omega)]
 have hlt:∀ id,st.bx id≠none→id<st.nx:=fun id h=>by
  cases hb:st.bx id with
  | none=>exact absurd hb h
  | some b=>exact (g.wfb id b hb).1
 have hk:iM (cd E st.bx ρ w) (cd E (st.newBox x).bx (ρ.upd st.nx v0) w') w w':=fun b ⟨h1,h2,h3⟩=>by
  refine ⟨⟨Nat.lt_of_lt_of_le h1 hB.size,h2,fun id hid => ?_⟩,fun _=>World.cell?_of_block (hB.block b h1)⟩;by_cases he:id=st.nx
  ·subst he;simp only [iN.upd,if_true];intro hb;have:=(hblk b hb).1;omega
  ·simp only [St.newBox,he,if_false] at hid;rw [hρ id (hlt id hid)];exact h3 id hid
 refine ⟨⟨g.dfr.1,Nat.le_trans g.dfr.2.1 hB.size,fun k o h1 h2=>(hB.block k (cm (g.dfr.2.2 k o h1 h2))).trans (g.dfr.2.2 k o h1 h2)⟩,g.sz,⟨hB.os.trans g.frm.os,hB.tape.trans g.frm.tape,hB.output.trans g.frm.output,Nat.le_trans g.frm.size hB.size,fun k hk hx => ?_,fun b o l hr => ?_⟩,
  fun s=>SV.lt_mono (Nat.le_succ _) (g.wfs s),fun id b hb => ?_,fun id b hb => ?_,fun id y b h1 h2 => ?_,fun i j b h1 h2 h3 h4 => ?_,
  fun b o l hr=>⟨Nat.lt_succ_of_lt (g.rx0 b o l hr).1,(hρ 0 (g.rx0 b o l hr).1).trans (g.rx0 b o l hr).2⟩,fun s=>bB.mono hk hρ (g.wfs s) (g.slt s),fun gg n f hg => ?_,fun s=>⟨SV.lt_mono (Nat.le_succ _) (g.kept s).1,bB.mono hk hρ (g.kept s).1 (g.kept s).2⟩⟩
 ·exact (hB.block k (Nat.lt_of_lt_of_le hk g.frm.size)).trans (g.frm.block k hk hx)
 ·obtain ⟨c,c0,t,h1,h2,h3⟩:=g.frm.rxb b o l hr;exact ⟨c,c0,t,(hB.block b (cm h1)).trans h1,h2,h3⟩
 ·simp only [St.newBox] at hb;split at hb
  ·simp only [Option.some.injEq] at hb;subst hb;subst_vars;exact ⟨Nat.lt_succ_self _,Bx.lt_mono (Nat.le_succ _) hx⟩
  ·exact ⟨Nat.lt_succ_of_lt (g.wfb id b hb).1,Bx.lt_mono (Nat.le_succ _) (g.wfb id b hb).2⟩
 ·by_cases he:id=st.nx
  ·subst he;simp only [St.newBox,if_true,Option.some.injEq] at hb;subst hb;simp only [iN.upd,if_true];refine hd _ hk fun b q1 q2 q3=>⟨q2,fun q=>absurd q (by have:=g.frm.size;omega),fun id hid => ?_⟩
   by_cases he:id=st.nx
   ·subst he;simp only [iN.upd,if_true];exact q3
   ·simp only [St.newBox,he,if_false] at hid;rw [hρ id (hlt id hid)];intro hb;cases hq:st.bx id with
    | none=>exact hid hq
    | some y =>
     have:=(g.new id y b hq hb).1;omega
  ·simp only [St.newBox,he,if_false] at hb;rw [hρ id (g.wfb id b hb).1];exact jC.mono hk hρ (g.wfb id b hb).2 (fun c hc=>hB.block c (g.new id b c hb hc).1) (g.bxs id b hb)
 ·by_cases he:id=st.nx
  ·subst he;simp only [iN.upd,if_true] at h2;have:=hblk b h2;exact ⟨this.2, .inl (Nat.le_trans g.frm.size this.1)⟩
  ·simp only [St.newBox,he,if_false] at h1;rw [hρ id (g.wfb id y h1).1] at h2;have:=g.new id y b h1 h2;rw [hρ id (g.wfb id y h1).1];exact ⟨Nat.lt_of_lt_of_le this.1 hB.size,this.2⟩
 ·by_cases hi:i=st.nx <;> by_cases hj:j=st.nx
  ·rw [hi,hj]
  ·subst hi;simp only [St.newBox,hj,if_false] at h2;cases hb:st.bx j with
   | none=>exact absurd hb h2
   | some y =>
    rw [hρ j (hlt j h2)] at h4;have h5:=(g.new j y b hb h4).1;simp only [iN.upd,if_true] at h3;have:=(hblk b h3).1;omega
  ·subst hj;simp only [St.newBox,hi,if_false] at h1;cases hb:st.bx i with
   | none=>exact absurd hb h1
   | some y =>
    rw [hρ i (hlt i h1)] at h3;have h5:=(g.new i y b hb h3).1;simp only [iN.upd,if_true] at h4;have:=(hblk b h4).1;omega
  ·simp only [St.newBox,hi,hj,if_false] at h1 h2;rw [hρ i (hlt i h1)] at h3;rw [hρ j (hlt j h2)] at h4;exact g.inj i j b h1 h2 h3 h4
 ·obtain ⟨h1,h2⟩:=g.glb gg n f hg;refine ⟨(hk gg h1).1,fun j hj => ?_⟩;obtain ⟨x,hx,h3,hd⟩:=h2 j hj;exact ⟨x,((hk gg h1).2 j).trans hx,h3,bq.mono hk hd⟩
theorem Gam.newBox {w' : World} (g : Gam S E st ρ a w) (hB : RowKit.Below w.heap.size w w') (x : Bx) (v0 : Value) (hx : x.lt st.nx)
  (hblk:∀ b,mW v0=some b→w.heap.size≤b∧b<w'.heap.size)
  (hd:∀ ok',iM (cd E st.bx ρ w) ok' w w'→jC (ρ.upd st.nx v0) ok' w' x v0):Gam S E (st.newBox x) (ρ.upd st.nx v0) a w' :=
 g.newBoxN hB x v0 hx hblk fun ok' h _=>hd ok' h
theorem Gam.delBox (g:Gam S E st ρ a w) (id:Nat):Gam S E (st.delBox id) ρ a w:=by
 have hsub:∀ i y,(st.delBox id).bx i=some y→st.bx i=some y:=fun i y h=>by
  simp only [St.delBox] at h;split at h
  ·simp at h
  ·exact h
 have hsub':∀ i,(st.delBox id).bx i≠none→st.bx i≠none:=fun i h=>by
  simp only [St.delBox] at h;split at h
  ·simp at h
  ·exact h
 have hk:iM (cd E st.bx ρ w) (cd E (st.delBox id).bx ρ w) w w:=fun b ⟨h1,h2,h3⟩=>⟨⟨h1,h2,fun i hi=>h3 i (hsub' i hi)⟩,fun _=>rfl⟩
 have hρ:∀ id,id<st.nx→ρ id=ρ id:=fun _ _=>rfl
 refine ⟨g.dfr,g.sz,g.frm,g.wfs,fun i b hb=>g.wfb i b (hsub i b hb),fun i b hb=>jC.mono hk hρ (g.wfb i b (hsub i b hb)).2 (fun _ _=>rfl) (g.bxs i b (hsub i b hb)),
  fun i y b h1 h2=>g.new i y b (hsub i y h1) h2,fun i j b h1 h2=>g.inj i j b (hsub' i h1) (hsub' j h2),g.rx0,fun s=>bB.mono hk hρ (g.wfs s) (g.slt s),fun gg n f hg => ?_,fun s=>⟨(g.kept s).1,bB.mono hk hρ (g.kept s).1 (g.kept s).2⟩⟩
 obtain ⟨h1,h2⟩:=g.glb gg n f hg;refine ⟨(hk gg h1).1,fun j hj => ?_⟩;obtain ⟨x,hx,h3,hd⟩:=h2 j hj;exact ⟨x,hx,h3,bq.mono hk hd⟩
theorem Gam.setBox {w' : World} {id : Nat} {x x' : Bx} {b : Nat} (g : Gam S E st ρ a w) (hb : st.bx id = some x) (hρb : mW (ρ id) = some b)
  (hos:w'.os=w.os) (htape:w'.tape=w.tape) (hout:w'.output=w.output) (hsize:w.heap.size≤w'.heap.size) (hoth:∀ k,k<w.heap.size→k≠b→w'.heap[k]?=w.heap[k]?)
  (hx:x'.lt st.nx)
  (hshape:(∃ cs cs',x = .fix cs∧x' = .fix cs'∧cs'.length=cs.length)∨∃ e sz n f f',x = .arr e sz n f∧x' = .arr e sz n f')
  (hcells:∃ c c' t,w.heap[b]?=some (.cells c t (0,0))∧w'.heap[b]?=some (.cells c' t (0,0))∧c'.size=c.size ∧
   ∀ o cs,ρ id = .pointer (some ⟨b,o,none⟩)→x = .fix cs→∀ j,j<o∨o+cs.length≤j→c'[j]?=c[j]?)
  (hd:iM (cd E st.bx ρ w) (cd E (st.setBox id x').bx ρ w') w w'→jC ρ (cd E (st.setBox id x').bx ρ w') w' x' (ρ id)):Gam S E (st.setBox id x') ρ a w':=by
 have hne:∀ i,(st.setBox id x').bx i≠none→st.bx i≠none:=fun i h=>by
  simp only [St.setBox] at h;split at h
  ·rename_i he;subst he;rw [hb];simp
  ·exact h
 have hk:iM (cd E st.bx ρ w) (cd E (st.setBox id x').bx ρ w') w w':=fun k ⟨h1,h2,h3⟩=>by
  refine ⟨⟨by omega,h2,fun i hi=>h3 i (hne i hi)⟩,fun _=>World.cell?_of_block (hoth k h1 ?_)⟩;rintro rfl;exact h3 id (by rw [hb];simp) hρb
 have hρ:∀ id,id<st.nx→ρ id=ρ id:=fun _ _=>rfl;obtain ⟨c,c',t,hc,hc',hcs,hout'⟩:=hcells
 refine ⟨⟨g.dfr.1,Nat.le_trans g.dfr.2.1 hsize,fun k o h1 h2=>(hoth k (cm (g.dfr.2.2 k o h1 h2)) (fun e=>by have:=g.dfr.2.2 k o h1 h2;rw [e,hc] at this;cases this;cases h2)).trans (g.dfr.2.2 k o h1 h2)⟩,g.sz,⟨hos.trans g.frm.os,htape.trans g.frm.tape,hout.trans g.frm.output,Nat.le_trans g.frm.size hsize,fun k hk hx => ?_,fun b1 o l hr => ?_⟩,
  g.wfs,fun i y hy => ?_,fun i y hy => ?_,fun i y b1 h1 h2 => ?_,fun i j b1 h1 h2=>g.inj i j b1 (hne i h1) (hne j h2),g.rx0,
  fun s=>bB.mono hk hρ (g.wfs s) (g.slt s),fun gg n f hg => ?_,fun s=>⟨(g.kept s).1,bB.mono hk hρ (g.kept s).1 (g.kept s).2⟩⟩
 ·refine (hoth k (Nat.lt_of_lt_of_le hk g.frm.size) ?_).trans (g.frm.block k hk hx);rintro rfl;rcases (g.new id x k hb hρb).2 with h|⟨o,cs,h1,h2,h3⟩
  ·omega
  ·exact hx _ _ h3
 ·obtain ⟨d,d0,t1,h1,h2,h3,h4⟩:=g.frm.rxb b1 o l hr;by_cases he:b1=b
  ·subst he;rw [hc] at h1;simp only [Option.some.injEq,Obj.cells.injEq,and_true] at h1;obtain ⟨rfl,rfl⟩:=h1;refine ⟨c',d0,t,hc',h2,hcs.trans h3,fun j hj => ?_⟩;rcases (g.new id x b1 hb hρb).2 with h|⟨o',cs,e1,e2,e3⟩
   ·have:=cm h2;omega
   ·rw [hr] at e3;simp only [Option.some.injEq,Prod.mk.injEq,true_and] at e3;obtain ⟨rfl,rfl⟩:=e3;exact (hout' _ _ e1 e2 j hj).trans (h4 j hj)
  ·exact ⟨d,d0,t1,(hoth b1 (cm h1) he).trans h1,h2,h3,h4⟩
 ·simp only [St.setBox] at hy;split at hy
  ·rename_i he;subst he;simp only [Option.some.injEq] at hy;subst hy;exact ⟨(g.wfb i x hb).1,hx⟩
  ·exact g.wfb i y hy
 ·by_cases he:i=id
  ·subst he;simp only [St.setBox,if_true,Option.some.injEq] at hy;subst hy;exact hd hk
  ·simp only [St.setBox,he,if_false] at hy;refine jC.mono hk hρ (g.wfb i y hy).2 (fun k hkb=>hoth k (g.new i y k hy hkb).1 ?_) (g.bxs i y hy);rintro rfl;exact he (g.inj i id k (by rw [hy];simp) (by rw [hb];simp) hkb hρb)
 ·by_cases he:i=id
  ·subst he;simp only [St.setBox,if_true,Option.some.injEq] at h1;subst h1;obtain ⟨h3,h4⟩:=g.new i x b1 hb h2;refine ⟨by omega, ?_⟩;rcases h4 with h4|⟨o,cs,e1,e2,e3⟩
   ·exact .inl h4
   ·rcases hshape with ⟨cs1,cs2,f1,f2,f3⟩|⟨_,_,_,_,_,f1,_⟩
    ·subst e2;simp only [Bx.fix.injEq] at f1;subst f1;exact .inr ⟨o,cs2,e1,f2,by rw [f3];exact e3⟩
    ·rw [f1] at e2;cases e2
  ·simp only [St.setBox,he,if_false] at h1;obtain ⟨h3,h4⟩:=g.new i y b1 h1 h2;exact ⟨by omega,h4⟩
 ·obtain ⟨h1,h2⟩:=g.glb gg n f hg;refine ⟨(hk gg h1).1,fun j hj => ?_⟩;obtain ⟨x,hx,h3,hd⟩:=h2 j hj;exact ⟨x,((hk gg h1).2 j).trans hx,h3,bq.mono hk hd⟩
theorem Gam.moveBox {w' : World} {id e s n : Nat} {f : Nat → Nat → PV} (g : Gam S E st ρ a w) (hb : st.bx id = some (.arr e s n f)) (hg : w.grownBy w' (mW (ρ id))) (x : Bx) (v0 : Value) (hx : x.lt st.nx)
  (hblk:∀ b,mW v0=some b→(mW (ρ id)=some b∨w.heap.size≤b)∧b<w'.heap.size)
  (hd:∀ ok',iM (cd E st.bx ρ w) ok' w w'→jC (ρ.upd st.nx v0) ok' w' x v0):Gam S E ((st.delBox id).newBox x) (ρ.upd st.nx v0) a w':=by
 have hρ:∀ id,id<st.nx→(ρ.upd st.nx v0) id=ρ id:=fun id h=>by simp only [iN.upd];rw [if_neg (by omega)]
 have hbx:∀ i,((st.delBox id).newBox x).bx i=if i=st.nx then some x else if i=id then none else st.bx i:=fun i=>rfl;have hold:∀ i y,st.bx i=some y→i<st.nx:=fun i y h=>(g.wfb i y h).1;have hsome:∀ i,st.bx i≠none→∃ y,st.bx i=some y:=fun i h=>by
  cases hi:st.bx i with
  | none=>exact absurd hi h
  | some y=>exact ⟨y,rfl⟩
 have hk:iM (cd E st.bx ρ w) (cd E ((st.delBox id).newBox x).bx (ρ.upd st.nx v0) w') w w':=fun b ⟨h1,h2,h3⟩=>by
  have hne:mW (ρ id)≠some b:=h3 id (by rw [hb];simp);refine ⟨⟨Nat.lt_of_lt_of_le h1 hg.size,h2,fun i hi => ?_⟩,fun _=>World.cell?_of_block (hg.block b h1 (fun e=>hne e.symm))⟩;rw [hbx] at hi;by_cases he:i=st.nx
  ·subst he;simp only [iN.upd,if_true];intro hv;rcases (hblk b hv).1 with h|h
   ·exact hne h
   ·omega
  ·rw [if_neg he] at hi;by_cases hi2:i=id
   ·rw [if_pos hi2] at hi;exact absurd rfl hi
   ·rw [if_neg hi2] at hi;obtain ⟨y,hy⟩:=hsome i hi;rw [hρ i (hold i y hy)];exact h3 i hi
 have hnew:∀ b,mW (ρ id)=some b→E.w0.heap.size≤b:=fun b hbb=>by
  rcases (g.new id _ b hb hbb).2 with h|⟨_,_,_,h,_⟩
  ·exact h
  ·cases h
 have hcl:∀ k o,mW (ρ id)=some k→w.heap[k]?=some o→isC o=false→False:=fun k o h1 h2 h3=>by
  obtain ⟨_,xs,hown,_⟩:=g.bxs id _ hb;rcases hown.2 with ⟨e1,_⟩|⟨q,cap,cur,e1,_,hh,_⟩
  ·rw [e1] at h1;cases h1
  ·rw [e1] at h1;cases h1;rw [h2] at hh;cases hh;cases h3
 refine ⟨⟨g.dfr.1,Nat.le_trans g.dfr.2.1 hg.size,fun k o h1 h2=>(hg.block k (cm (g.dfr.2.2 k o h1 h2)) (fun e=>hcl k o e.symm (g.dfr.2.2 k o h1 h2) h2)).trans (g.dfr.2.2 k o h1 h2)⟩,g.sz,⟨hg.os.trans g.frm.os,hg.tape.trans g.frm.tape,hg.output.trans g.frm.output,Nat.le_trans g.frm.size hg.size,fun k hk hx => ?_,fun b o l hr => ?_⟩,
  fun s=>SV.lt_mono (Nat.le_succ _) (g.wfs s),fun i b hib => ?_,fun i b hib => ?_,fun i y b h1 h2 => ?_,fun i j b h1 h2 h3 h4 => ?_,
  fun b o l hr=>⟨Nat.lt_succ_of_lt (g.rx0 b o l hr).1,(hρ 0 (g.rx0 b o l hr).1).trans (g.rx0 b o l hr).2⟩,fun s=>bB.mono hk hρ (g.wfs s) (g.slt s),fun gg n f hg' => ?_,fun s=>⟨SV.lt_mono (Nat.le_succ _) (g.kept s).1,bB.mono hk hρ (g.kept s).1 (g.kept s).2⟩⟩
 ·exact (hg.block k (Nat.lt_of_lt_of_le hk g.frm.size) (fun e=>by have:=hnew k e.symm;omega)).trans (g.frm.block k hk hx)
 ·obtain ⟨c,c0,t,h1,h2,h3⟩:=g.frm.rxb b o l hr;exact ⟨c,c0,t,(hg.block b (cm h1) (fun e=>by have:=hnew b e.symm;have:=cm h2;omega)).trans h1,h2,h3⟩
 ·rw [hbx] at hib;show i<st.nx+1∧b.lt (st.nx+1);split at hib
  ·simp only [Option.some.injEq] at hib;subst hib;subst_vars;exact ⟨Nat.lt_succ_self _,Bx.lt_mono (Nat.le_succ _) hx⟩
  ·split at hib
   ·simp at hib
   ·exact ⟨Nat.lt_succ_of_lt (g.wfb i b hib).1,Bx.lt_mono (Nat.le_succ _) (g.wfb i b hib).2⟩
 ·rw [hbx] at hib;by_cases he:i=st.nx
  ·subst he;rw [if_pos rfl] at hib;simp only [Option.some.injEq] at hib;subst hib;simp only [iN.upd,if_true];exact hd _ hk
  ·rw [if_neg he] at hib;by_cases hi2:i=id
   ·rw [if_pos hi2] at hib;cases hib
   ·rw [if_neg hi2] at hib;rw [hρ i (hold i b hib)];refine jC.mono hk hρ (g.wfb i b hib).2 (fun c hc=>hg.block c (g.new i b c hib hc).1 (fun e => ?_)) (g.bxs i b hib);exact hi2 (g.inj i id c (by rw [hib];simp) (by rw [hb];simp) hc e.symm)
 ·rw [hbx] at h1;by_cases he:i=st.nx
  ·subst he;simp only [iN.upd,if_true] at h2;obtain ⟨h3,h4⟩:=hblk b h2;refine ⟨h4, .inl ?_⟩;rcases h3 with h3|h3
   ·exact hnew b h3
   ·exact Nat.le_trans g.frm.size h3
  ·rw [if_neg he] at h1;by_cases hi2:i=id
   ·rw [if_pos hi2] at h1;cases h1
   ·rw [if_neg hi2] at h1;rw [hρ i (hold i y h1)] at h2 ⊢;have:=g.new i y b h1 h2;exact ⟨Nat.lt_of_lt_of_le this.1 hg.size,this.2⟩
 ·rw [hbx] at h1 h2;have key:∀ i,i≠st.nx→(if i=st.nx then some x else if i=id then none else st.bx i)≠none→i≠id∧st.bx i≠none:=fun i hi h=>by
   rw [if_neg hi] at h;by_cases h':i=id
   ·rw [if_pos h'] at h;exact absurd rfl h
   ·rw [if_neg h'] at h;exact ⟨h',h⟩
  have cross:∀ i b,i≠st.nx→(if i=st.nx then some x else if i=id then none else st.bx i)≠none→mW (ρ.upd st.nx v0 i)=some b→mW v0=some b→False:=fun i b hi h e1 e2=>by
   obtain ⟨h5,h6⟩:=key i hi h;obtain ⟨y,hy⟩:=hsome i h6;rw [hρ i (hold i y hy)] at e1;rcases (hblk b e2).1 with h7|h7
   ·exact h5 (g.inj i id b h6 (by rw [hb];simp) e1 h7)
   ·have:=(g.new i y b hy e1).1;omega
  by_cases hi:i=st.nx <;> by_cases hj:j=st.nx
  ·rw [hi,hj]
  ·subst hi;exact (cross j b hj h2 h4 (by simpa [iN.upd] using h3)).elim
  ·subst hj;exact (cross i b hi h1 h3 (by simpa [iN.upd] using h4)).elim
  ·obtain ⟨h5,h6⟩:=key i hi h1;obtain ⟨h7,h8⟩:=key j hj h2;obtain ⟨y,hy⟩:=hsome i h6;obtain ⟨z,hz⟩:=hsome j h8;rw [hρ i (hold i y hy)] at h3;rw [hρ j (hold j z hz)] at h4;exact g.inj i j b h6 h8 h3 h4
 ·obtain ⟨h1,h2⟩:=g.glb gg n f hg';refine ⟨(hk gg h1).1,fun j hj => ?_⟩;obtain ⟨x,hx,h3,hd⟩:=h2 j hj;exact ⟨x,((hk gg h1).2 j).trans hx,h3,bq.mono hk hd⟩
end
end
def CV.one:CV→Prop
 | .p (.val v)=>v.oneCell'=true
 | .p .any=>False
 | _=>True
def CV.toP:CV→PV
 | .p x=>x
 | _ => .any
def BV.cells:BV→List CV
 | .c x=>[x]
 | .agg cs=>cs
def BV.one:BV→Prop
 | .c x=>x.one
 | .agg _=>True
def CV.ofV (v:Value):CV := .p (.val v)
def mN (cs:List CV) (off:Nat) (xs:List CV):List CV:=cs.take off ++ xs ++ cs.drop (off+xs.length)
def Env.zero (S:Env) (t:TypeId):Option (List Value) :=
 match (S.P.info? t).bind (·.zero) with
 | some z=>if z.cells.toList.all (·.oneCell') then some z.cells.toList else none
 | none=>none
def Env.bld (S:Env) (t:TypeId):Option (Option (List (Nat × Nat)) × Nat) :=
 match S.P.underlying t with
 | some (.array _ e)=>(S.P.info? e).map fun i=>(none,i.size)
 | some (.struct fs)=>(fs.toList.mapM fun f=>(S.P.info? f.type).map fun i=>(f.offset,i.size)).map fun l=>(some l,0)
 | _=>none
def tq:Option (List (Nat × Nat)) × Nat→Nat→Option (Nat × Nat)
 | (some l,_),i=>l[i]?
 | (none,s),i=>some (i * s,s)
def kR (place:Nat→Option (Nat × Nat)) (ev:Operand→SV):List (Nat × Operand)→List CV→Option (Prop × List CV)
 | [],cs=>some (True,cs)
 | (i,x) :: rest,cs =>
  match place i,(ev x).strip with
  | some (off,sz), .b v=>match kR place ev rest (mN cs off v.cells) with
   | some (p,r)=>some ((v.cells.length=sz∧off+sz≤cs.length∧v.one)∧p,r)
   | none=>none
  | _,_=>none
def yE (bx:Nat→Option Bx):SV→Option (Prop × Nat × Nat × (Nat→Nat→PV))
 | .b (.c (.p (.lst sz n f)))=>some (True,sz,n,f)
 | .b (.c (.own id n))=>match bx id with
  | some (.arr _ sz n' f)=>some (n≤n',sz,n,f)
  | _=>none
 | _=>none
def dV (n:Nat) (f g:Nat→Nat→PV) (i j:Nat):PV:=if i<n then f i j else g (i - n) j
structure Upd (b o l:Nat) (w w':World):Prop where
 os:w'.os=w.os
 tape:w'.tape=w.tape
 output:w'.output=w.output
 size:w.heap.size≤w'.heap.size
 block:∀ k,k<w.heap.size→k≠b→w'.heap[k]?=w.heap[k]?
 own:∃ c c' t,w.heap[b]?=some (.cells c t (0,0))∧w'.heap[b]?=some (.cells c' t (0,0))∧c'.size=c.size∧∀ j,j<o∨o+l≤j→c'[j]?=c[j]?
def oP (S:Env) (ok:Nat→Prop) (w:World):Prop :=
 ∀ g n f,S.gl g=some (n,f)→ok g∧∀ j,j<n→∃ x,w.cell? ⟨g,j,none⟩=some x∧x.oneCell'=true∧bq ok w (f j) x
def RK (ok:Nat→Prop) (w w':World) (b:Nat):Prop:=b<w'.heap.size∧(b<w.heap.size→ok b)
def dd:iN:=fun _ => .nilFunc
def JE (S : Env) (f : FuncId) : Prop := ∃ fn, S.P.funcs[f]? = some fn ∧ (fn.name == "runtime.NumGoroutine") = false ∧ fn.body.isNone = false
def aB (S:Env) (f:FuncId) (args:List BV) (R:SV→Prop):Prop :=
 JE S f∧∀ (ok:Nat→Prop) (w:World) (vs:Array Value),(∀ b,ok b→b<w.heap.size)→oP S ok w →
  vs.size=args.length→(∀ j,di dd ok w (args.getD j .any) (vs.getD j undef)) →
  Calls S.P f vs w fun e w'=>∃ v r,e = .returned v∧R r∧SV.lt 0 r∧RowKit.Below w.heap.size w w'∧bB dd (RK ok w w') w' r v
def HT (S:Env) (f:FuncId) (args:List BV) (X:SV):Prop :=
 SV.lt 0 X∧∀ (ok:Nat→Prop) (w:World) (vs:Array Value),vs.size=args.length→(∀ j,di dd ok w (args.getD j .any) (vs.getD j undef))→∃ v,(callFunc f vs).run S.P w = .ok (.value v) w∧bB dd ok w X v
def a5u (S:Env) (f:FuncId) (cs:List PV) (args:List BV) (R:SV→List PV→Prop):Prop :=
 JE S f∧∀ (ok:Nat→Prop) (w:World) (vs:Array Value) (b o:Nat) (cells:Array Value) (t:TypeId),(∀ b,ok b→b<w.heap.size)→oP S ok w →
  w.heap[b]?=some (.cells cells t (0,0))→o+cs.length≤cells.size→¬ ok b→(∀ j,j<cs.length→(cells.getD (o+j) undef).oneCell'=true) →
  (∀ j,bq ok w (cs.getD j .any) (cells.getD (o+j) undef)) →
  vs.size=args.length→(∀ j,di dd ok w (args.getD j .any) (vs.getD j undef)) →
  Calls S.P f (#[.pointer (some ⟨b,o,none⟩)] ++ vs) w fun e w'=>∃ v r cs' c',e = .returned v∧R r cs'∧SV.lt 0 r∧cs'.length=cs.length∧Upd b o cs.length w w' ∧
   w'.heap[b]?=some (.cells c' t (0,0))∧(∀ j,j<cs.length→(c'.getD (o+j) undef).oneCell'=true) ∧
   (∀ j,bq (fun k=>RK ok w w' k∧k≠b) w' (cs'.getD j .any) (c'.getD (o+j) undef))∧bB dd (fun k=>RK ok w w' k∧k≠b) w' r v
def PV.le (x y:PV):Prop:=∀ ok w u,bq ok w x u→bq ok w y u
def BV.le (x y:BV):Prop:=∀ ρ ok w u,di ρ ok w x u→di ρ ok w y u
def ju:List BV→List BV→Prop
 | [],[]=>True
 | x :: r,y :: s=>BV.le x y∧ju r s
 | _,_=>False
def CV.flat:CV→Prop
 | .p (.val _)=>True
 | _=>False
def BV.flat:BV→Prop
 | .c x=>x.flat
 | .agg cs=>∀ c ∈ cs,CV.flat c
def SV.flat:SV→Prop
 | .b x=>x.flat
 | .tup vs=>∀ v ∈ vs,BV.flat v
 | _=>False
def iV (bx:Nat→Option Bx):CV→CV
 | .own id n=>match bx id with
  | some (.arr _ sz n' f)=>if n≤n' then .p (.lst sz n f) else .own id n
  | _ => .own id n
 | x=>x
def LO (bx:Nat→Option Bx):BV→BV
 | .c x => .c (iV bx x)
 | .agg cs => .agg (cs.map (iV bx))
def qD (bx:Nat→Option Bx):CV→CV
 | .ptr id off=>match bx id with
  | some (.fix cs)=>if off≤cs.length then .ipt (cs.length - off) (fun j=>(iV bx (cs.getD (off+j) .any)).toP) 0 else .ptr id off
  | _ => .ptr id off
 | .pel id sz i off=>match bx id with
  | some (.arr _ s n f)=>if sz=s∧i<n then .ipt sz (f i) off else .pel id sz i off
  | _ => .pel id sz i off
 | x=>iV bx x
def gq (bx:Nat→Option Bx):BV→BV
 | .c x => .c (qD bx x)
 | .agg cs => .agg (cs.map (qD bx))
def fS:SV→BV
 | .b x=>x
 | .grd _ x=>x
 | _ => .any
def gC (S:Env) (f:FuncId) (args:List BV) (e sz n:Nat) (g:Nat→Nat→PV):Prop :=
 JE S f∧∀ (ok:Nat→Prop) (w:World) (vs:Array Value),(∀ b,ok b→b<w.heap.size)→oP S ok w →
  vs.size=args.length→(∀ j,di dd ok w (args.getD j .any) (vs.getD j undef)) →
  Calls S.P f vs w fun ex w'=>∃ v xs,ex = .returned v∧RowKit.Below w.heap.size w w'∧0<sz∧w'.ownsRow w.heap.size e sz v n xs∧(∀ x ∈ xs,x.oneCell'=true) ∧
   ∀ i,i<n→∀ j,j<sz→bq (fun _=>False) w' (g i j) (xs.getD (i * sz+j) undef)
def tA:SV→Option (FuncId × List BV)
 | .b (.c (.clo f ps))=>some (f,ps.map fun p => .c (.ptr p.1 p.2))
 | .b (.c (.p (.fn f n sz g)))=>some (f,(List.range n).map fun i => .c (.ipt (sz i) (g i) 0))
 | .b (.c (.p (.val (.func (.func f) a b))))=>if a = #[]∧b = #[] then some (f,[]) else none
 | _=>none
def lj (S:Env) (bx:Nat→Option Bx) (nx:Nat) (f:FuncId) (args:List BV) (X:SV) (bx':Nat→Option Bx) (nx':Nat):Prop :=
 JE S f∧∀ (E:Ent) (st:St) (ρ:iN) (a:Act) (w:World) (vs:Array Value),st.bx=bx→st.nx=nx→Gam S E st ρ a w→vs.size=args.length →
  (∀ j,di ρ (cd E st.bx ρ w) w (args.getD j .any) (vs.getD j undef)) →
  Calls S.P f vs w fun e w'=>∃ v ρ',e = .returned v∧bB ρ' (cd E bx' ρ' w') w' X v∧X.lt nx'∧Gam S E ⟨st.fr,bx',nx',st.kf⟩ ρ' a w'
inductive CallP (S:Env) (st:St) (f:FuncId) (args:List BV) (K:SV→St→Prop):Prop where
 | pure (args':List BV) (X:SV) (h:aB S f args' (fun r=>r=X)) (ha:ju args args') (hl:∀ x ∈ args',BV.lt 0 x) (hk:K X st)
 | lend (args':List BV) (X:SV) (h:aB S f args' (fun r=>r=X)) (ha:ju (args.map (gq st.bx)) args') (hl:∀ x ∈ args',BV.lt 0 x) (hf:X.flat) (hk:K X st) (hp:S.rcv (f+1000000)=false)
 | recv (id off : Nat) (cs0 : List CV) (cs : List PV) (rest args' : List BV) (X : SV) (Y : List PV) (h : a5u S f cs args' (fun r cs' => r = X ∧ cs' = Y)) (he : args = .c (.ptr id off) :: rest)
   (hb:st.bx id=some (.fix cs0)) (hoff:off+cs.length≤cs0.length) (hcs:(cs0.drop off).take cs.length=cs.map CV.p)
   (ha:ju rest args') (hl:∀ x ∈ args',BV.lt 0 x) (hr:S.rcv f=true) (hy:Y.length=cs.length) (hk:K X (st.setBox id (.fix (mN cs0 off (Y.map CV.p)))))
 | recvEl (id sz i e n : Nat) (g : Nat → Nat → PV) (cs : List PV) (rest args' : List BV) (X : SV) (Y : List PV) (h : a5u S f cs args' (fun r cs' => r = X ∧ cs' = Y)) (he : args = .c (.pel id sz i 0) :: rest)
   (hb:st.bx id=some (.arr e sz n g)) (hi:i<n) (hsz:cs.length=sz) (hcs:∀ j,j<sz→cs.getD j .any=g i j)
   (ha:ju rest args') (hl:∀ x ∈ args',BV.lt 0 x) (hr:S.rcv f=true) (hy:Y.length=sz) (hk:K X (st.setBox id (.arr e sz n fun i' j=>if i'=i then Y.getD j .any else g i' j)))
 | inl (X:SV) (bx':Nat→Option Bx) (nx':Nat) (h:lj S st.bx st.nx f args X bx' nx') (hr:S.rcv f=true) (hw:∀ i,nx'≤i→bx' i=none) (hk:K X ⟨st.fr,bx',nx',st.kf⟩) (hn:st.nx≤nx')
 | own (args' : List BV) (e sz n : Nat) (g : Nat → Nat → PV) (h : gC S f args' e sz n g) (ha : ju (args.map (gq st.bx)) args') (hl : ∀ x ∈ args', BV.lt 0 x) (hr : S.rcv (f + 2000000) = true)
   (hk:K (.b (.c (.own st.nx n))) (st.newBox (.arr e sz n g)))
 | ext (args':List BV) (X:SV) (h:HT S f args' X) (ha:ju args args') (hl:∀ x ∈ args',BV.lt 0 x) (hk:K X st)
def a1x (t:TypeId):Operand→Nat
 | .tmp a=>4000000+1000 * t+a
 | _=>4000000
def Env.frz (S:Env) (t:TypeId) (x:Operand):Bool:=S.rcv (a1x t x)
def mkV (b:Bool) (nx s n:Nat) (z:List Value):SV:=bif b then .b (.c (.p (.lst s n fun _ j => .val (z.getD j undef)))) else .b (.c (.own nx n))
def mkB (b:Bool) (e s n:Nat) (z:List Value):Option Bx:=bif b then none else some (.arr e s n fun _ j => .val (z.getD j undef))
theorem a5m {nx s n:Nat} {z:List Value}:mkV false nx s n z = .b (.c (.own nx n)):=rfl
theorem a5t {nx s n:Nat} {z:List Value}:mkV true nx s n z = .b (.c (.p (.lst s n fun _ j => .val (z.getD j undef)))):=rfl
theorem a6v {e s n:Nat} {z:List Value}:mkB false e s n z=some (.arr e s n fun _ j => .val (z.getD j undef)):=rfl
theorem a4O {e s n:Nat} {z:List Value}:mkB true e s n z=none:=rfl
def fp (S:Env) (st:St) (ev:Operand→SV) (op:Op) (K:SV→St→Prop):Prop :=
 match op with
 | .build t parts=>match S.bld t,S.zero t with
  | some pl,some z=>match kR (tq pl) ev parts.toList (z.map CV.ofV) with
   | some (vc,cs)=>vc∧K (.b (.agg cs)) st
   | none=>False
  | _,_=>False
 | .alloc t=>match S.zero t with
  | some z=>K (.b (.c (.ptr st.nx 0))) (st.newBox (.fix (z.map CV.ofV)))
  | none=>False
 | .box _ x=>match (ev x).strip with
  | .b v=>v.one∧K (.b (.c (.ptr st.nx 0))) (st.newBox (.fix v.cells))
  | _=>False
 | .buildSlice t len parts=>match S.el t with
  | some (none,e,s,_)=>match S.zero e with
   | some z=>match kR (fun i=>some (i * s,s)) ev parts.toList (((List.range (len * s)).map fun i=>CV.ofV (z.getD (i % z.length) undef))) with
    | some (vc,cs)=>(vc∧0<s∧z.length=s∧len * s≤16777216∧0≤len)∧K (.b (.c (.own st.nx len))) (st.newBox (.arr e s len fun i j=>(cs.getD (i * s+j) .any).toP))
    | none=>False
   | none=>False
  | _=>False
 | .store t p x=>match (ev p).strip,(ev x).strip,S.ti t with
  | .b (.c (.ptr id off)), .b v,some (sz,_)=>match st.bx id with
   | some (.fix cs)=>(v.cells.length=sz∧off+sz≤cs.length∧v.one)∧K .any (st.setBox id (.fix (mN cs off v.cells)))
   | _=>False
  | .b (.c (.pel id s i off)), .b v,some (sz,_)=>match st.bx id with
   | some (.arr e s' n f) => (s = s' ∧ i < n ∧ off + sz ≤ s ∧ v.cells.length = sz ∧ v.one ∧ v.lt 0) ∧
     K .any (st.setBox id (.arr e s' n fun i' j=>if i'=i then (if off≤j∧j<off+sz then (v.cells.getD (j - off) .any).toP else f i j) else f i' j))
   | _=>False
  | _,_,_=>False
 | .makeSlice t l c=>match (ev l).strip,(ev c).strip,S.el t with
  | .b (.c (.p (.val (.int _ l')))), .b (.c (.p (.val (.int _ c')))),some (none,e,s,_)=>match S.zero e,S.P.info? e with
   | some z, some i => (0 ≤ l' ∧ l' ≤ c' ∧ (i.bytes : Int) * c' ≤ 281474976710656 ∧ c' ≤ 9223372036854775807 ∧ 0 < s ∧ z.length = s) ∧
     K (mkV (S.frz t l) st.nx s l'.toNat z) (st.newBoxO (mkB (S.frz t l) e s l'.toNat z))
   | _,_=>False
  | _,_,_=>False
 | .call c=>match c.callee,c.args.toList,c.argTypes.toList with
  | .builtin .append,[x,y],[t,t']=>match S.el t,yE st.bx (ev y).strip with
   | some (none,e,s,_),some (vc,sz,m,g)=>match S.P.info? e,S.zero e,(ev x).strip with
    | some i,some z, .b (.c (.p (.val (.slice none 0 0)))) =>
     (vc∧t=t'∧(sz=s∨m=0)∧0<s∧z.length=s∧m * i.bytes≤140737488355328∧m≤maxLen)∧K (.b (.c (.own st.nx m))) (st.newBox (.arr e s m g))
    | some i,some z, .b (.c (.own id n))=>match st.bx id with
     | some (.arr e' s' n' f) =>
      (vc∧t=t'∧e=e'∧s=s'∧n≤n'∧(sz=s∨m=0)∧0<s∧z.length=s∧(n+m) * i.bytes≤140737488355328∧n+m≤maxLen) ∧
       K (.b (.c (.own st.nx (n+m)))) ((st.delBox id).newBox (.arr e s (n+m) (dV n f g)))
     | _=>False
    | _,_,_=>False
   | _,_=>False
  | .builtin .copy,[x,y],[t,_]=>match S.el t,(ev x).strip,(ev y).strip with
   | some (none,_,s,_), .b (.c (.sub id s1 lo n)), .b (.c (.p (.lst sz m g)))=>match st.bx id with
    | some (.arr e' s2 n' f)=>(s1=s∧s2=s∧sz=s∧n≤m∧lo+n≤n'∧0<n)∧K (.b (.c (.p (.val (.int .i64 n))))) (st.setBox id (.arr e' s2 n' fun i j=>if lo≤i∧i<lo+n then g (i - lo) j else f i j))
    | _=>False
   | _,_,_=>False
  | .value (.func f),args,_=>CallP S st f (args.map fun x=>fS (ev x)) K
  | .value (.tmp t),args,_=>match tA (ev (.tmp t)).strip with
   | some (f,xs)=>CallP S st f (args.map (fun x=>fS (ev x)) ++ xs) K
   | none=>False
  | _,_,_=>False
 | _=>False
def lO (S:Env) (st:St) (o:Oper) (K:St→Prop):Prop :=
 match ro S st.bx (st.ev S) o.op with
 | some (vc,r)=>vc∧K (st.set o.dst r)
 | none=>bc (o.op.operands.toList.map (st.ev S))∧fp S st (st.ev S) o.op fun r st'=>K (st'.set o.dst r)
def mz (st:St) (d:Option Nat) (want:Bool):Option Bool :=
 match d with
 | some d=>match st.fr d with
  | .b (.c (.p (.val (.bool t))))=>some (t == want)
  | .grd p (.c (.p (.val (.bool t))))=>some (p && (t == want))
  | _=>none
 | none=>none
def gh (S:Env) (ops:Array Oper) (st:St) (o:Oper) (K:St→Prop):Prop :=
 match o.guard with
 | none=>lO S st o K
 | some (j,want)=>match mz st ((ops[j]?).bind (·.dst)) want with
  | some g=>match ro S st.bx (st.ev S) o.op with
   | some (vc, .b r)=>r.lt st.nx∧(g=true→vc)∧K (st.set o.dst (.grd g r))
   | some (vc, .grd p r)=>r.lt st.nx∧(g=true→vc∧p=true)∧K (st.set o.dst (.grd g r))
   | _ => ((g = true → lO S st o K) ∧ (g = false → K (st.set o.dst .any))) ∨
     ∃ x:BV,x.lt st.nx∧(g=true→lO S st o fun s=>s=st.set o.dst (.b x))∧K (st.set o.dst (.grd g x))
  | none=>False
def bj (S:Env) (ops:Array Oper):List Oper→St→(St→Prop)→Prop
 | [],st,K=>K st
 | o :: rest,st,K=>gh S ops st o fun st'=>bj S ops rest st' K
section
section
variable {S:Env} {E:Ent} {st:St} {ρ:iN} {a:Act} {w:World} {ok:Nat→Prop}
theorem OI {u:Value} (h:u.oneCell'=true):u.cells = #[u]:=by cases u <;> first|rfl|grind [Value.oneCell']
theorem Wr {x:CV} {u:Value} (h:x.one) (hx:cR ρ ok w x u):u.oneCell'=true:=by
 cases x with
 | p x =>
  cases x with
  | val v=>cases hx;exact h
  | lst sz n f=>obtain ⟨_,_,rfl,_⟩:=hx;rfl
  | fn g n sz f=>obtain ⟨_,rfl,_⟩:=hx;rfl
  | any=>exact h.elim
 | ptr id off=>grind [cR,Value.oneCell']
 | pel id sz i off=>grind [cR,Value.oneCell']
 | own id n=>grind [cR,Value.oneCell']
 | ipt sz g off=>obtain ⟨_,_,rfl,_⟩:=hx;rfl
 | clo f ps=>obtain ⟨vs,rfl,_⟩:=hx;rfl
 | sub id sz lo n=>grind [cR,Value.oneCell']
theorem tv {v : BV} {u : Value} (h : v.one) (hx : di ρ ok w v u) :
  u.cells.size=v.cells.length∧(∀ j,j<u.cells.size→(u.cells.getD j undef).oneCell'=true)∧∀ j,cR ρ ok w (v.cells.getD j .any) (u.cells.getD j undef):=by
 cases v with
 | c x =>
  have h1:=Wr h hx;rw [OI h1];refine ⟨rfl,fun j hj => ?_,fun j => ?_⟩
  ·simp_all
  ·cases j with
   | zero=>exact hx
   | succ j=>simp [BV.cells,cR,bq]
 | agg cs =>
  obtain ⟨us,rfl,hs,h1,hd⟩:=hx;exact ⟨hs,h1,hd⟩
theorem CR (off : Nat) : ∀ (l : List Value) (n : Nat) (cells : Array Value), off + n + l.length ≤ cells.size →
  ((l.zipIdx n).foldl (fun cs x=>cs.setIfInBounds (off+x.2) x.1) cells).size=cells.size ∧
  ∀ k,((l.zipIdx n).foldl (fun cs x=>cs.setIfInBounds (off+x.2) x.1) cells)[k]?=if off+n≤k∧k<off+n+l.length then l[k - (off+n)]? else cells[k]?
 | [],n,cells,_=>⟨rfl,fun k=>by simp;omega⟩
 | x :: l,n,cells,h=>by
  simp only [List.length_cons] at h;obtain ⟨h1,h2⟩:=CR off l (n+1) (cells.setIfInBounds (off+n) x) (by simp;omega);simp only [List.zipIdx_cons,List.foldl_cons];grind
theorem vu {cs xs:List CV} {off:Nat} (h:off+xs.length≤cs.length):(mN cs off xs).length=cs.length:=by grind [mN]
theorem wS {cs xs : List CV} {off : Nat} (h : off + xs.length ≤ cs.length) (k : Nat) :
  (mN cs off xs).getD k .any=if off≤k∧k<off+xs.length then xs.getD (k - off) .any else cs.getD k .any:=by
 simp only [mN,List.getD_eq_getElem?_getD,List.append_assoc];grind
theorem BR {cs xs:List CV} {off:Nat} {c:CV} (h:c ∈ mN cs off xs):c ∈ cs∨c ∈ xs:=by grind [mN]
theorem bC? {α:Type} {c:Array α} {k:Nat} {d:α}:c.getD k d=(c[k]?).getD d:=Array.getD_eq_getD_getElem?
theorem vD {v:BV} {nx:Nat} (h:v.lt nx):∀ c ∈ v.cells,CV.lt nx c:=by
 cases v with
 | c x=>grind [BV.cells,BV.lt,CV.lt]
 | agg cs=>exact h
theorem Ah {place : Nat → Option (Nat × Nat)} {ev : Operand → SV} {av : Operand → Value} {nx : Nat} : ∀ {parts : List (Nat × Operand)} {cs : List CV} {vc : Prop} {cs' : List CV} {cells : Array Value},
  kR place ev parts cs=some (vc,cs')→vc→(∀ p ∈ parts,bB ρ ok w (ev p.2).strip (av p.2)∧(ev p.2).strip.lt nx) →
  cells.size=cs.length→(∀ j,j<cells.size→(cells.getD j undef).oneCell'=true)→(∀ j,cR ρ ok w (cs.getD j .any) (cells.getD j undef))→(∀ c ∈ cs,CV.lt nx c) →
  ∃ cells',Instr.fill place cells (parts.map fun p=>(p.1,av p.2))=some cells'∧cells'.size=cs'.length∧cs'.length=cs.length ∧
   (∀ j,j<cells'.size→(cells'.getD j undef).oneCell'=true)∧(∀ j,cR ρ ok w (cs'.getD j .any) (cells'.getD j undef))∧(∀ c ∈ cs',CV.lt nx c)
 | [],cs,vc,cs',cells,h,_,_,hs,h1,hd,hl=>by
  simp only [kR,Option.some.injEq,Prod.mk.injEq] at h;obtain ⟨_,rfl⟩:=h;exact ⟨cells,rfl,hs,rfl,h1,hd,hl⟩
 | (i,x) :: rest,cs,vc,cs',cells,h,hvc,hev,hs,h1,hd,hl=>by
  simp only [kR] at h;split at h
  ·rename_i off sz v hp hx;split at h
   ·rename_i p r hr;simp only [Option.some.injEq,Prod.mk.injEq] at h;obtain ⟨rfl,rfl⟩:=h;obtain ⟨⟨v1,v2,v3⟩,hp'⟩:=hvc;have hx':=hev (i,x) (List.mem_cons_self ..);simp only at hx';rw [hx] at hx';obtain ⟨c1,c2,c3⟩:=tv v3 hx'.1;have hle:off+v.cells.length≤cs.length:=by omega
    have hput:=CR off (av x).cells.toList 0 cells (by simp;omega);have hlen:(av x).cells.toList.length=v.cells.length:=by simpa using c1
    obtain ⟨p1,p2⟩:=hput;have hget : ∀ k, (((av x).cells.toList.zipIdx 0).foldl (fun cs x => cs.setIfInBounds (off + x.2) x.1) cells).getD k undef =
      if off≤k∧k<off+v.cells.length then (av x).cells.getD (k - off) undef else cells.getD k undef:=fun k=>by
     rw [bC?,p2 k,hlen];grind [bC?]
    obtain ⟨cells',f1,f2,f3,f4,f5,f6⟩:=Ah (cells:=((av x).cells.toList.zipIdx 0).foldl (fun cs x=>cs.setIfInBounds (off+x.2) x.1) cells) hr hp'
     (fun p hp=>hev p (List.mem_cons_of_mem _ hp)) (by rw [p1,vu hle,hs])
     (fun j hj=>by
      grind)
     (fun j=>by
      grind [mN,wS])
     (fun c hc=>by
      rcases BR hc with hc|hc
      ·grind
      ·exact vD hx'.2 c hc)
    refine ⟨cells', ?_,f2,f3.trans (vu hle),f4,f5,f6⟩;simp only [List.map_cons,Instr.fill,hp];have hc:((av x).cells.size≠sz || decide (off+(av x).cells.size>cells.size))=false:=by
     rw [c1];simp [v1];omega
    rw [if_neg (by grind)];rw [← f1];congr 1;rw [← Array.foldl_toList,Array.toList_zipIdx]
   grind
  grind
theorem Be {o : Oper} {v : Value} {w' : World} {next : Act → World → Prop} {Q : Exit → Act → World → Prop} {P : Program} (hr : (execOp a.eval o).run P w = .ok (.value v) w') (hn : next (a.put o.dst v) w') :
  o.wp P a w next Q:=by
 unfold Oper.wp;rw [hr];exact hn
def nL (S:Env) (E:Ent) (K:St→Prop) (a:Act) (w:World):Prop:=∃ st ρ,Gam S E st ρ a w∧K st
theorem nL.mk_set {K : St → Prop} {d : Option Nat} {r : SV} {v : Value} (g : Gam S E st ρ a w) (hd : ∀ k, d = some k → k < E.N) (hl : r.lt st.nx)
  (hv:bB ρ (cd E st.bx ρ w) w r v) (hK:K (st.set d r)):nL S E K (a.put d v) w:=⟨_,ρ,g.set hd hl hv,hK⟩
theorem mZ {t:TypeId} {z:List Value} (h:S.zero t=some z):∃ i zv,S.P.info? t=some i∧i.zero=some zv∧zv.cells.toList=z∧∀ x ∈ z,x.oneCell'=true:=by
 unfold Env.zero at h;cases hi:S.P.info? t with
 | none=>grind
 | some i =>
  grind
theorem MZ {l:List Value} (j:Nat):cR ρ ok w ((l.map CV.ofV).getD j .any) (l.getD j undef):=by grind [cR,CV.ofV,bq]
theorem UU {l:List Value} {nx:Nat}:∀ c ∈ l.map CV.ofV,CV.lt nx c:=by grind [CV.ofV,CV.lt]
theorem yg (w:World) (o:Obj):RowKit.Below w.heap.size w (w.alloc o):=(RowKit.Below.refl _ _).alloc (Nat.le_refl _) o
theorem Gam.newFix (g : Gam S E st ρ a w) (cells : Array Value) (t : TypeId) (cs : List CV) (hl : ∀ c ∈ cs, CV.lt st.nx c) (hs : cells.size = cs.length)
  (h1:∀ j,j<cells.size→(cells.getD j undef).oneCell'=true) (hd:∀ j,cR ρ (cd E st.bx ρ w) w (cs.getD j .any) (cells.getD j undef)) :
  Gam S E (st.newBox (.fix cs)) (ρ.upd st.nx (.pointer (some ⟨w.heap.size,0,none⟩))) a (w.alloc (.cells cells t)):=by
 refine g.newBox (yg w _) (.fix cs) (.pointer (some ⟨w.heap.size,0,none⟩)) hl (fun b hb => ?_) (fun ok' hk => ?_)
 ·grind [World.alloc,World.size_alloc,mW]
 ·refine ⟨w.heap.size,0,cells,t,rfl,heap_alloc_new w _,by omega,fun j hj=>by grind,fun j => ?_⟩;rw [Nat.zero_add];exact cR.mono hk (fun id hid=>by grind [iN.upd]) (CV.lt_getD hl j) (hd j)
theorem zT (st:St) (ρ:iN) (w':World) (b:Nat) (ok:Nat→Prop):bB (ρ.upd st.nx (.pointer (some ⟨b,0,none⟩))) ok w' (.b (.c (.ptr st.nx 0))) (.pointer (some ⟨b,0,none⟩)) :=
 ⟨b,0,by simp [iN.upd],rfl⟩
theorem Dt (st:St) (x:Bx):(SV.b (.c (.ptr st.nx 0))).lt (st.newBox x).nx:=Nat.lt_succ_self _
theorem tj (st:St) (x:Bx) (n:Nat):(SV.b (.c (.own st.nx n))).lt (st.newBox x).nx:=Nat.lt_succ_self _
theorem Dw {t : TypeId} {sz : Nat} {ag : Bool} (ht : S.ti t = some (sz, ag)) (w : World) (b o : Nat) (cur : Array Value) (ty : TypeId) (u : Value)
  (hh:w.heap[b]?=some (.cells cur ty (0,0))) (hsz:u.cells.size=sz) (hle:o+sz≤cur.size) (h1:∀ j,j<u.cells.size→(u.cells.getD j undef).oneCell'=true) :
  (Instr.storeAt t (.pointer (some ⟨b,o,none⟩)) u).run S.P w = .ok () (w.setRow b (cur.toList.take o ++ u.cells.toList ++ cur.toList.drop (o+u.cells.toList.length)).toArray):=by
 have hone:∀ x ∈ u.cells.toList,x.oneCell'=true:=by
  intro x hx;obtain ⟨j,hj,rfl⟩:=List.getElem_of_mem hx;have:=h1 j (by omega);have hj':j<u.cells.size:=by simpa using hj
  simpa [hj'] using this
 have:=run_storeCells_at (P:=S.P) b o ty u.cells.toList 0 cur w hh (by simp;omega) hone;simp only [Nat.add_zero] at this;simp [Instr.storeAt,Instr.sureAddr,storeVar,Sem.run_bind,dP ht,hsz,this]
theorem sM {cur us : Array Value} {o : Nat} (h : o + us.size ≤ cur.size) (k : Nat) :
  ((cur.toList.take o ++ us.toList ++ cur.toList.drop (o+us.toList.length)).toArray)[k]?=if o≤k∧k<o+us.size then us[k - o]? else cur[k]?:=by
 grind
theorem pe {cur us:Array Value} {o:Nat} (h:o+us.size≤cur.size):((cur.toList.take o ++ us.toList ++ cur.toList.drop (o+us.toList.length)).toArray).size=cur.size:=by simp;omega
end
end
section
section
variable {S:Env} {E:Ent} {st:St} {ρ:iN} {a:Act} {w:World}
def Cb (S:Env) (E:Ent) (K:SV→St→Prop) (a:Act) (v:Value) (w':World):Prop :=
 ∃ st' ρ' r,Gam S E st' ρ' a w'∧bB ρ' (cd E st'.bx ρ' w') w' r v∧r.lt st'.nx∧K r st'
theorem Cb.nxt {K:St→Prop} {d:Option Nat} {v:Value} {w':World} (hd:∀ k,d=some k→k<E.N) (h:Cb S E (fun r st'=>K (st'.set d r)) a v w'):nL S E K (a.put d v) w':=by
 obtain ⟨st',ρ',r,g,hr,hl,hk⟩:=h;grind [nL.mk_set]
theorem GX {t : TypeId} {parts : Array (Nat × Operand)} {pl : Option (List (Nat × Nat)) × Nat} {z : List Value} {vc : Prop} {cs : List CV}
  (hb:S.bld t=some pl) (hz:S.zero t=some z) (hf:kR (tq pl) (st.ev S) parts.toList (z.map CV.ofV)=some (vc,cs)) (hvc:vc) (g:Gam S E st ρ a w)
  (hc:∀ p ∈ parts.toList,(st.ev S p.2).cond) :
  ∃ v,(Instr.build t (parts.map fun p=>(p.1,a.eval p.2))).run S.P w = .ok v w∧bB ρ (cd E st.bx ρ w) w (.b (.agg cs)) v∧(SV.b (.agg cs)).lt st.nx:=by
 obtain ⟨i,zv,hi,hzz,hcz,h1⟩:=mZ hz;have hev:∀ p ∈ parts.toList,bB ρ (cd E st.bx ρ w) w (st.ev S p.2).strip (a.eval p.2)∧(st.ev S p.2).strip.lt st.nx :=
  fun p hp=>⟨mX (g.ev p.2).1 (hc p hp),vp (g.ev p.2).2⟩
 obtain ⟨cells',f1,f2,f3,f4,f5,f6⟩:=Ah (cells:=zv.cells) hf hvc hev (by grind)
  (fun j hj=>by
   refine h1 _ ?_;rw [← hcz]
   simp [hj])
  (fun j=>by
   have:=MZ (ρ:=ρ) (ok:=cd E st.bx ρ w) (w:=w) (l:=z) j;rw [← hcz] at this ⊢
   simpa [List.getD_eq_getElem?_getD] using this) UU
 have hbu:S.P.built t (parts.map fun p=>(p.1,a.eval p.2)).toList=some cells':=by
  unfold Env.bld at hb;unfold Program.built;rw [hi];split at hb
  ·rename_i n e hu;cases hie:S.P.info? e with
   | none=>grind
   | some ie =>
    simp only [hie,Option.map_some,Option.some.injEq] at hb;subst hb;simp only [hu,hzz,hie];rw [← f1];simp [tq];rfl
  ·rename_i fs hu;cases hp:fs.toList.mapM (fun f=>(S.P.info? f.type).map fun i=>(f.offset,i.size)) with
   | none=>grind
   | some places =>
    simp only [hp,Option.map_some,Option.some.injEq] at hb;subst hb;simp only [hu,hzz,hp];rw [← f1];simp [tq];rfl
  ·simp at hb
 exact ⟨_,run_build w t _ cells' hbu,⟨cells',rfl,f2,f4,f5⟩,f6⟩
theorem Ia {t : TypeId} {z : List Value} {K : SV → St → Prop} (hz : S.zero t = some z) (g : Gam S E st ρ a w)
  (hk:K (.b (.c (.ptr st.nx 0))) (st.newBox (.fix (z.map CV.ofV)))) :
  ∃ v w',(Instr.alloc t true (.tuple #[])).run S.P w = .ok v w'∧Cb S E K a v w':=by
 obtain ⟨i,zv,hi,hzz,hcz,h1⟩:=mZ hz;have hr:(Instr.alloc t true (.tuple #[])).run S.P w = .ok (.pointer (some ⟨w.heap.size,0,none⟩)) (w.alloc (.cells zv.cells t)):=by simp [Instr.alloc,zeroValue,typeInfo,hi,hzz,newVar,newRow]
 refine ⟨_,_,hr,_,_,_,g.newFix zv.cells t (z.map CV.ofV) UU (by grind) (fun j hj=>h1 _ (by rw [← hcz];simp [hj])) (fun j => ?_),zT st ρ _ _ _,Dt st _,hk⟩;have:=MZ (ρ:=ρ) (ok:=cd E st.bx ρ w) (w:=w) (l:=z) j;rw [← hcz] at this ⊢;simpa [List.getD_eq_getElem?_getD] using this
theorem PQ {t : TypeId} {v : BV} {u : Value} {K : SV → St → Prop} (h1 : v.one) (hd : di ρ (cd E st.bx ρ w) w v u) (hl : v.lt st.nx) (g : Gam S E st ρ a w)
  (hk:K (.b (.c (.ptr st.nx 0))) (st.newBox (.fix v.cells))) :
  ∃ x w',(Instr.box t u).run S.P w = .ok x w'∧Cb S E K a x w':=by
 obtain ⟨c1,c2,c3⟩:=tv h1 hd;have hr:(Instr.box t u).run S.P w = .ok (.pointer (some ⟨w.heap.size,0,none⟩)) (w.alloc (.cells u.cells t)):=by simp [Instr.box,newVar,newRow]
 exact ⟨_,_,hr,_,_,_,g.newFix u.cells t v.cells (vD hl) c1 c2 c3,zT st ρ _ _ _,Dt st _,hk⟩
theorem Bp {t : TypeId} {sz id off : Nat} {ag : Bool} {v : BV} {cs : List CV} {u p : Value} {K : SV → St → Prop} (ht : S.ti t = some (sz, ag)) (hb : st.bx id = some (.fix cs))
  (hsz:v.cells.length=sz) (hle:off+sz≤cs.length) (h1:v.one) (hp:cR ρ (cd E st.bx ρ w) w (.ptr id off) p) (hd:di ρ (cd E st.bx ρ w) w v u) (hl:v.lt st.nx) (g:Gam S E st ρ a w)
  (hk:K .any (st.setBox id (.fix (mN cs off v.cells)))) :
  ∃ w',(Instr.storeAt t p u).run S.P w = .ok () w'∧Gam S E (st.setBox id (.fix (mN cs off v.cells))) ρ a w'∧K .any (st.setBox id (.fix (mN cs off v.cells))):=by
 obtain ⟨c1,c2,c3⟩:=tv h1 hd;obtain ⟨b,o,cells,ty,hv,hh,hs,hone,hdb⟩:=g.bxs id _ hb;obtain ⟨b',o',hr,rfl⟩:=hp;rw [hv] at hr;simp only [Value.pointer.injEq,Option.some.injEq,Addr.mk.injEq,and_true] at hr;obtain ⟨rfl,rfl⟩:=hr;have hfit:o+off+u.cells.size≤cells.size:=by omega
 refine ⟨_,Dw ht w b (o+off) cells ty u hh (by omega) (by omega) c2, ?_,hk⟩;have hhp:=setRow_heap w b cells (cells.toList.take (o+off) ++ u.cells.toList ++ cells.toList.drop (o+off+u.cells.toList.length)).toArray ty (0,0) hh;have hget : ∀ k, ((cells.toList.take (o + off) ++ u.cells.toList ++ cells.toList.drop (o + off + u.cells.toList.length)).toArray).getD k undef =
   if o+off≤k∧k<o+off+u.cells.size then u.cells.getD (k - (o+off)) undef else cells.getD k undef:=fun k=>by
  rw [bC?,sM hfit];grind [bC?]
 have hlen:(mN cs off v.cells).length=cs.length:=vu (by omega);have hlt':∀ c ∈ mN cs off v.cells,CV.lt st.nx c:=fun c hc=>by
  rcases BR hc with hc|hc
  ·exact (g.wfb id _ hb).2 c hc
  grind [vD]
 refine g.setBox hb (by rw [hv];rfl) rfl rfl rfl (Nat.le_of_eq (size_setRow w b _).symm) (fun k _ hk=>setRow_other w b k _ hk) hlt' (.inl ⟨_,_,rfl,rfl,hlen⟩)
  ⟨cells,_,ty,hh,hhp,pe hfit,fun o2 cs2 e1 e2 j hj => ?_⟩ (fun hkeep => ?_)
 ·grind [sM,Bx.fix.injEq,Value.pointer.injEq,Addr.mk.injEq]
 ·refine ⟨b,o,_,ty,hv,hhp,by grind,fun j hj => ?_,fun j => ?_⟩
  ·grind
  ·rw [hget,wS (by omega)];have e:(o+off≤o+j∧o+j<o+off+u.cells.size)↔(off≤j∧j<off+v.cells.length):=by omega
   have hρ:∀ id,id<st.nx→ρ id=ρ id:=fun _ _=>rfl;by_cases hj:off≤j∧j<off+v.cells.length
   ·rw [if_pos hj,if_pos (e.2 hj),show o+j - (o+off)=j - off by omega];exact cR.mono hkeep hρ (CV.lt_getD (vD hl) _) (c3 _)
   ·rw [if_neg hj,if_neg (fun h=>hj (e.1 h))];exact cR.mono hkeep hρ (CV.lt_getD (g.wfb id _ hb).2 _) (hdb j)
theorem Fu {x:CV} {u:Value} {ok:Nat→Prop} (h:cR ρ ok w x u):bq ok w x.toP u:=by cases x <;> first|exact h|trivial
theorem eE {i n j sz:Nat} (hi:i<n) (hj:j<sz):i * sz+j<n * sz :=
 Nat.lt_of_lt_of_le (show i * sz+j<i * sz+sz by omega) (by rw [← Nat.succ_mul];exact Nat.mul_le_mul_right _ (by omega))
theorem Wo {i i' j j' sz:Nat} (hj:j<sz) (hj':j'<sz) (h:i * sz+j=i' * sz+j'):i=i'∧j=j':=by
 have h1:(i * sz+j) / sz=i:=by rw [Nat.mul_comm,Nat.mul_add_div (by omega)];simp [Nat.div_eq_of_lt hj]
 have h2:(i' * sz+j') / sz=i':=by rw [Nat.mul_comm,Nat.mul_add_div (by omega)];simp [Nat.div_eq_of_lt hj']
 grind
theorem BB {t : TypeId} {sz id s i off e n : Nat} {ag : Bool} {v : BV} {f : Nat → Nat → PV} {u p : Value} {K : SV → St → Prop} (ht : S.ti t = some (sz, ag)) (hb : st.bx id = some (.arr e s n f))
  (hi:i<n) (hsz:v.cells.length=sz) (hle:off+sz≤s) (h1:v.one) (hp:cR ρ (cd E st.bx ρ w) w (.pel id s i off) p) (hd:di ρ (cd E st.bx ρ w) w v u) (g:Gam S E st ρ a w)
  (hk:K .any (st.setBox id (.arr e s n fun i' j=>if i'=i then (if off≤j∧j<off+sz then (v.cells.getD (j - off) .any).toP else f i j) else f i' j))) :
  ∃ w',(Instr.storeAt t p u).run S.P w = .ok () w' ∧
   Gam S E (st.setBox id (.arr e s n fun i' j=>if i'=i then (if off≤j∧j<off+sz then (v.cells.getD (j - off) .any).toP else f i j) else f i' j)) ρ a w' ∧
   K .any (st.setBox id (.arr e s n fun i' j=>if i'=i then (if off≤j∧j<off+sz then (v.cells.getD (j - off) .any).toP else f i j) else f i' j)):=by
 obtain ⟨c1,c2,c3⟩:=tv h1 hd;obtain ⟨h0,xs,hown,hone,hdb⟩:=g.bxs id _ hb;obtain ⟨b',m,c,hr,rfl⟩:=hp;rcases hown.2 with ⟨e1,e2⟩|⟨gb,cap,cur,hv,hg0,hh,hn,hcm,hcs,htk⟩
 ·omega
 rw [hv] at hr;simp only [Value.slice.injEq,Option.some.injEq,Addr.mk.injEq,and_true] at hr;obtain ⟨rfl,rfl,rfl⟩:=hr;have hrow:i * s+s≤cur.size:=by rw [hcs,← Nat.succ_mul];exact Nat.mul_le_mul_right _ (by omega)
 have hfit:i * s+off+u.cells.size≤cur.size:=by omega
 refine ⟨_,Dw ht w gb (i * s+off) cur e u hh (by omega) (by omega) c2, ?_,hk⟩;have hhp:=setRow_heap w gb cur (cur.toList.take (i * s+off) ++ u.cells.toList ++ cur.toList.drop (i * s+off+u.cells.toList.length)).toArray e (0,0) hh;have hget:=fun k=>sM (cur:=cur) (us:=u.cells) (o:=i * s+off) hfit k;refine g.setBox hb (by rw [hv];rfl) rfl rfl rfl (Nat.le_of_eq (size_setRow w gb _).symm) (fun k _ hk=>setRow_other w gb k _ hk) trivial (.inr ⟨_,_,_,_,_,rfl,rfl⟩)
  ⟨cur,_,e,hh,hhp,pe hfit,fun o2 cs2 e1 e2 j hj=>by grind⟩ (fun hkeep => ?_)
 have hlenxs:xs.length=n * s:=hown.1;have hxs:∀ k,k<n * s→xs.getD k undef=cur.getD k undef:=fun k hkk=>by
  rw [← htk];simp [List.getElem?_take,hkk]
 let cur':=(cur.toList.take (i * s+off) ++ u.cells.toList ++ cur.toList.drop (i * s+off+u.cells.toList.length)).toArray
 have hsz':cur'.size=cur.size:=pe hfit;have hcc:n * s≤cur.size:=by rw [hcs];exact Nat.mul_le_mul_right _ hn
 have hget':∀ k,k<n * s→(cur'.toList.take (n * s)).getD k undef=if i * s+off≤k∧k<i * s+off+u.cells.size then u.cells.getD (k - (i * s+off)) undef else cur.getD k undef:=fun k hkk=>by grind [undef,bC?]
 refine ⟨h0,cur'.toList.take (n * s),⟨by grind, .inr ⟨gb,cap,cur',hv,hg0,hhp,hn,hcm,by omega,rfl⟩⟩,fun x hx => ?_,fun i' hi' j hj => ?_⟩
 ·obtain ⟨k,hk1,rfl⟩:=List.getElem_of_mem hx;grind
 ·rw [hget' _ (eE hi' hj)];dsimp only;by_cases he:i'=i
  ·subst he;rw [if_pos rfl];by_cases hjj:off≤j∧j<off+sz
   ·rw [if_pos hjj,if_pos (by omega),show i' * s+j - (i' * s+off)=j - off by omega];grind [bq.mono,Fu]
   grind [bq,eE,bq.mono]
  ·rw [if_neg he,if_neg,← hxs _ (eE hi' hj)]
   ·grind [bq.mono]
   ·rintro ⟨q1,q2⟩;have hq:i' * s+j=i * s+(i' * s+j - i * s):=by omega
    have:=(Wo hj (show i' * s+j - i * s<s by omega) hq).1;omega
theorem a1O {k n s:Nat} (h:k<n * s):k / s<n∧k % s<s∧k / s * s+k % s=k:=by
 have hs:0<s:=by
  rcases Nat.eq_zero_or_pos s with rfl|q
  ·simp at h
  ·exact q
 refine ⟨(Nat.div_lt_iff_lt_mul hs).2 h,Nat.mod_lt _ hs, ?_⟩;rw [Nat.mul_comm];exact Nat.div_add_mod k s
theorem Lk {t t' ty e e' s id lo n m N : Nat} {ag : Bool} {q f : Nat → Nat → PV} {ud us : Value} {K : SV → St → Prop} (he : S.el t = some (none, e, s, ag)) (hb : st.bx id = some (.arr e' s N f))
  (hnm:n≤m) (hlo:lo+n≤N) (hn0:0<n) (hd:cR ρ (cd E st.bx ρ w) w (.sub id s lo n) ud) (hs:bq (cd E st.bx ρ w) w (.lst s m q) us) (g:Gam S E st ρ a w)
  (hk:K (.b (.c (.p (.val (.int .i64 n))))) (st.setBox id (.arr e' s N fun i j=>if lo≤i∧i<lo+n then q (i - lo) j else f i j))) :
  ∃ v w',(Builtin.copy_ #[t,t'] ty #[ud,us]).run S.P w = .ok v w'∧Cb S E K a v w':=by
 obtain ⟨hu,hti⟩:=po he;obtain ⟨h0,xs,hown,hone,hdb⟩:=g.bxs id _ hb;obtain ⟨b',M,c,c',hr,hle,rfl⟩:=hd;rcases hown.2 with ⟨e1,e2⟩|⟨gb,cap,cur,hv,hg0,hh,hn,hcm,hcs,htk⟩
 ·omega
 rw [hv] at hr;simp only [Value.slice.injEq,Option.some.injEq,Addr.mk.injEq,and_true] at hr;obtain ⟨rfl,rfl,rfl⟩:=hr;obtain ⟨sa,sc,rfl,hmc,hsrc⟩:=hs;obtain ⟨sb,so,rfl,hok,hcell⟩:=hsrc (by omega)
 let vf:Nat→Value:=fun k=>(w.cell? ⟨sb,so+k,none⟩).getD undef
 have key:∀ k,k<n * s→w.cell? ⟨sb,so+k,none⟩=some (vf k)∧(vf k).oneCell'=true∧bq (cd E st.bx ρ w) w (q (k / s) (k % s)) (vf k):=fun k hk=>by
  obtain ⟨q1,q2,q3⟩:=a1O hk;obtain ⟨x,hx,h1,h2⟩:=hcell (k / s) (by omega) (k % s) q2;grind
 let cs:Array Value:=((List.range (n * s)).map vf).toArray
 have hcs1:cs.size=n * s:=by simp [cs]
 have hcsl:cs.toList.length=n * s:=by simp [cs]
 have hget0:∀ k,k<n * s→cs.getD k undef=vf k:=fun k hk=>by simp [cs,hk]
 have hone2:∀ v ∈ cs.toList,v.oneCell'=true:=fun v hv=>by grind
 have hmul:(lo+n) * s≤N * s:=Nat.mul_le_mul_right _ hlo;have hcc:N * s≤cur.size:=by rw [hcs];exact Nat.mul_le_mul_right _ hn
 have hfit:lo * s+cs.size≤cur.size:=by rw [hcs1];rw [Nat.add_mul] at hmul;omega
 have hload:(loadCells ⟨sb,so,none⟩ (n * s)).run S.P w = .ok cs w:=run_loadCells w ⟨sb,so,none⟩ (n * s) vf fun j hj=>by grind [Addr.add,Addr.add_lit]
 have hst:=run_storeCells_at S.P gb (lo * s) e' cs.toList 0 cur w hh (by omega) hone2;rw [Nat.add_zero] at hst;have hmin:Nat.min m n=n:=Nat.min_eq_right hnm;have hrun : (Builtin.copy_ #[t, t'] ty #[.slice (some ⟨gb, lo * s, none⟩) n c', .slice (some ⟨sb, so, none⟩) m sc]).run S.P w =
   .ok (goInt n) (w.setRow gb (cur.toList.take (lo * s) ++ cs.toList ++ cur.toList.drop (lo * s+cs.toList.length)).toArray):=by
  simp [Builtin.copy_,Sem.run_bind,run_underlying hu,Builtin.lenOf,Builtin.firstCells,dP hti,hmin,hload,hst]
 refine ⟨_,_,hrun,st.setBox id (.arr e' s N fun i j=>if lo≤i∧i<lo+n then q (i - lo) j else f i j),ρ, .b (.c (.p (.val (.int .i64 n)))), ?_,rfl,trivial,hk⟩;have hhp:=setRow_heap w gb cur (cur.toList.take (lo * s) ++ cs.toList ++ cur.toList.drop (lo * s+cs.toList.length)).toArray e' (0,0) hh;have hget:=fun k=>sM (cur:=cur) (us:=cs) (o:=lo * s) hfit k;refine g.setBox hb (by rw [hv];rfl) rfl rfl rfl (Nat.le_of_eq (size_setRow w gb _).symm) (fun k _ hk=>setRow_other w gb k _ hk) trivial (.inr ⟨_,_,_,_,_,rfl,rfl⟩)
  ⟨cur,_,e',hh,hhp,pe hfit,fun o2 cs2 e1 e2 j hj=>by grind⟩ (fun hkeep => ?_)
 have hlenxs:xs.length=N * s:=hown.1;have hxs:∀ k,k<N * s→xs.getD k undef=cur.getD k undef:=fun k hkk=>by
  rw [← htk];simp [List.getElem?_take,hkk]
 let cur':=(cur.toList.take (lo * s) ++ cs.toList ++ cur.toList.drop (lo * s+cs.toList.length)).toArray
 have hsz':cur'.size=cur.size:=pe hfit;have hget':∀ k,k<N * s→(cur'.toList.take (N * s)).getD k undef=if lo * s≤k∧k<lo * s+cs.size then cs.getD (k - lo * s) undef else cur.getD k undef:=fun k hkk=>by grind
 refine ⟨h0,cur'.toList.take (N * s),⟨by grind, .inr ⟨gb,cap,cur',hv,hg0,hhp,hn,hcm,by omega,rfl⟩⟩,fun x hx => ?_,fun i hi j hj => ?_⟩
 ·obtain ⟨k,hk1,rfl⟩:=List.getElem_of_mem hx;grind
 ·rw [hget' _ (eE hi hj)];dsimp only;by_cases hin:lo≤i∧i<lo+n
  ·have a1:lo * s≤i * s:=Nat.mul_le_mul_right _ hin.1;have a2:(i - lo) * s+j<n * s:=eE (by omega) hj;have a3:(i - lo) * s=i * s - lo * s:=Nat.sub_mul ..;rw [if_pos hin,if_pos (by omega),show i * s+j - lo * s=(i - lo) * s+j by omega,hget0 _ a2];have h3:=(key _ a2).2.2;have d1:((i - lo) * s+j) / s=i - lo:=by rw [Nat.mul_comm,Nat.mul_add_div (by omega)];simp [Nat.div_eq_of_lt hj]
   have d2:((i - lo) * s+j) % s=j:=by rw [Nat.mul_comm,Nat.mul_add_mod];exact Nat.mod_eq_of_lt hj
   grind [bq.mono,bq]
  ·rw [if_neg hin,if_neg,← hxs _ (eE hi hj)]
   ·grind [bq.mono]
   ·rintro ⟨q1,q2⟩;refine hin ⟨?_, ?_⟩
    ·refine Nat.le_of_not_lt fun hc => ?_;have:(i+1) * s≤lo * s:=Nat.mul_le_mul_right _ hc;grind
    ·refine Nat.lt_of_not_le fun hc => ?_;have:(lo+n) * s≤i * s:=Nat.mul_le_mul_right _ hc;grind
end
end
section
section
variable {S:Env} {E:Ent} {st:St} {ρ:iN} {a:Act} {w:World}
theorem Gam.newArr (g : Gam S E st ρ a w) (cells : Array Value) (e s len cap : Nat) (f : Nat → Nat → PV) (h0 : 0 < s) (hcap : cap ≤ maxLen) (hlc : len ≤ cap) (hs : cells.size = cap * s)
  (h1:∀ j,j<cells.size→(cells.getD j undef).oneCell'=true) (hd:∀ i,i<len→∀ j,j<s→bq (cd E st.bx ρ w) w (f i j) (cells.getD (i * s+j) undef)) :
  Gam S E (st.newBox (.arr e s len f)) (ρ.upd st.nx (.slice (some ⟨w.heap.size,0,none⟩) len cap)) a (w.alloc (.cells cells e)):=by
 refine g.newBox (yg w _) (.arr e s len f) _ trivial (fun b hb => ?_) (fun ok' hk => ?_)
 ·grind [World.alloc,World.size_alloc,mW]
 ·have hle:len * s≤cap * s:=Nat.mul_le_mul_right _ hlc;refine ⟨h0,cells.toList.take (len * s),⟨by grind, .inr ⟨w.heap.size,cap,cells,rfl,Nat.zero_le _,heap_alloc_new w _,hlc,hcap,hs,rfl⟩⟩,fun x hx => ?_,fun i hi j hj => ?_⟩
  ·obtain ⟨k,hk1,rfl⟩:=List.getElem_of_mem hx;have hk2:k<cells.size:=by simp at hk1;omega
   simp_all
  grind [eE,undef,bC?,bq,bq.mono]
theorem zE (st : St) (ρ : iN) (w' : World) (b n c : Nat) (ok : Nat → Prop) (h : n ≤ c) :
  bB (ρ.upd st.nx (.slice (some ⟨b,0,none⟩) n c)) ok w' (.b (.c (.own st.nx n))) (.slice (some ⟨b,0,none⟩) n c) :=
 ⟨some ⟨b,0,none⟩,n,c,by simp [iN.upd],Nat.le_refl _,h,fun _=>⟨b,rfl⟩,rfl⟩
theorem Cf {α:Type} {n k:Nat} {f:Nat→α} {d:α} (h:k<n):((List.range n).map f).getD k d=f k:=by grind
theorem wK {t len e s : Nat} {ag : Bool} {parts : Array (Nat × Operand)} {z : List Value} {vc : Prop} {cs : List CV} {K : SV → St → Prop}
  (he:S.el t=some (none,e,s,ag)) (hz:S.zero e=some z) (hf:kR (fun i=>some (i * s,s)) (st.ev S) parts.toList ((List.range (len * s)).map fun i=>CV.ofV (z.getD (i % z.length) undef))=some (vc,cs))
  (hvc:vc) (h0:0<s) (hzl:z.length=s) (hsm:len * s≤16777216) (_hl0:0≤len) (g:Gam S E st ρ a w) (hc:∀ p ∈ parts.toList,(st.ev S p.2).cond)
  (hk:K (.b (.c (.own st.nx len))) (st.newBox (.arr e s len fun i j=>(cs.getD (i * s+j) .any).toP))) :
  ∃ v w',(Instr.buildSlice t len (parts.map fun p=>(p.1,a.eval p.2))).run S.P w = .ok v w'∧Cb S E K a v w':=by
 obtain ⟨hu,hti⟩:=po he;obtain ⟨i,zv,hi,hzz,hcz,h1⟩:=mZ hz;have hzs:zv.cells.size=s:=by rw [← hzl,← hcz];simp
 have hev:∀ p ∈ parts.toList,bB ρ (cd E st.bx ρ w) w (st.ev S p.2).strip (a.eval p.2)∧(st.ev S p.2).strip.lt st.nx :=
  fun p hp=>⟨mX (g.ev p.2).1 (hc p hp),vp (g.ev p.2).2⟩
 have hzget:∀ k,zv.cells[k % zv.cells.size]! = z.getD (k % z.length) undef:=fun k=>by
  have hk:k % zv.cells.size<zv.cells.size:=Nat.mod_lt _ (by omega);grind
 obtain ⟨cells',f1,f2,f3,f4,f5,f6⟩:=Ah (cells:=(Array.range (len * s)).map (zv.cells[· % zv.cells.size]!)) hf hvc hev (by simp)
  (fun j hj=>by
   have hj':j<len * s:=by simpa using hj
   have hz':j % z.length<z.length:=Nat.mod_lt _ (by omega)
   simp_all)
  (fun j=>by
   by_cases hj':j<len * s
   ·rw [Cf hj'];simp only [bC?,Array.getElem?_map,Array.getElem?_range,hj',if_true,Option.map_some,Option.getD_some,hzget];rfl
   ·rw [List.getD_eq_getElem?_getD,List.getElem?_eq_none (by simp;omega)];trivial) (fun c hc=>by
   grind [CV.ofV,undef,CV.lt])
 have hlen:cells'.size=len * s:=by rw [f2,f3];simp
 have hr:(Instr.buildSlice t len (parts.map fun p=>(p.1,a.eval p.2))).run S.P w = .ok (.slice (some ⟨w.heap.size,0,none⟩) len len) (w.alloc (.cells cells' e)):=by
  have hns:¬ (16777216<len * s):=by omega
  rcases Nat.eq_zero_or_pos len with e0|hl0
  ·subst e0;have q:(Array.range (0 * s)).map (zv.cells[· % zv.cells.size]!) = #[]:=by simp
   rw [q] at f1;have q2:Array.map (fun _:Nat=>(default:Value)) (Array.range 0) = #[]:=by simp
   simp [Instr.buildSlice,Sem.run_bind,run_underlying hu,dP hti,q2,f1,newRow]
  have hz0:¬ (len * s=0):=Nat.ne_of_gt (Nat.mul_pos hl0 h0);simp [Instr.buildSlice,Sem.run_bind,run_underlying hu,dP hti,hns,hz0,zeroValue,typeInfo,hi,hzz,f1,newRow]
 have hmax:len≤maxLen:=by
  have:len≤len * s:=Nat.le_mul_of_pos_right _ h0;unfold maxLen;omega
 exact ⟨_,_,hr,_,_,_,g.newArr cells' e s len len _ h0 hmax (Nat.le_refl _) hlen f4 (fun i _ j _=>Fu (f5 _)),zE st ρ _ _ _ _ _ (Nat.le_refl _),tj st _ _,hk⟩
theorem yR {t e s : Nat} {ag : Bool} {kl kc : IntKind} {l c : Int} {z : List Value} {i : TypeInfo} {K : SV → St → Prop}
  (he:S.el t=some (none,e,s,ag)) (hz:S.zero e=some z) (hi:S.P.info? e=some i) (hl:0≤l) (hlc:l≤c) (hb:(i.bytes:Int) * c≤281474976710656) (h63:c≤9223372036854775807)
  (h0:0<s) (hzl:z.length=s) {fz:Bool} (g:Gam S E st ρ a w)
  (hk:K (mkV fz st.nx s l.toNat z) (st.newBoxO (mkB fz e s l.toNat z))) :
  ∃ v w',(Instr.makeSlice t (.int kl l) (.int kc c)).run S.P w = .ok v w'∧Cb S E K a v w':=by
 obtain ⟨hu,hti⟩:=po he;obtain ⟨i',zv,hi',hzz,hcz,h1⟩:=mZ hz;rw [hi] at hi';simp only [Option.some.injEq] at hi';subst hi';obtain ⟨i2,d,hi2,hs2,_,_⟩:=wu hti;rw [hi] at hi2;simp only [Option.some.injEq] at hi2;subst hi2;have hr:=run_make (P:=S.P) w t e i zv hu hi hzz kl kc l c hl hlc hb h63;have hzs:zv.cells.size=s:=by rw [← hzl,← hcz];simp
 have hget:∀ k,k<c.toNat * s→(madeCells zv.cells (c.toNat * i.size)).getD k undef=z.getD (k % s) undef:=fun k hkk=>by
  have hm:k % zv.cells.size<zv.cells.size:=Nat.mod_lt _ (by omega);rw [hs2];simp only [madeCells,bC?,Array.getElem?_map,Array.getElem?_range,hkk,if_true,Option.map_some,Option.getD_some];grind
 have hsz:(madeCells zv.cells (c.toNat * i.size)).size=c.toNat * s:=by rw [size_madeCells,hs2]
 have hmod:∀ i j,j<s→(i * s+j) % s=j:=fun i j hj=>by rw [Nat.mul_comm,Nat.mul_add_mod,Nat.mod_eq_of_lt hj]
 have hone:∀ j,j<(madeCells zv.cells (c.toNat * i.size)).size→((madeCells zv.cells (c.toNat * i.size)).getD j undef).oneCell'=true:=fun j hj=>by
  rw [hget j (by omega)];have hm:j % s<z.length:=by rw [hzl];exact Nat.mod_lt _ h0
  grind
 have hel:∀ i',i'<l.toNat→∀ j,j<s→(madeCells zv.cells (c.toNat * i.size)).getD (i' * s+j) undef=z.getD j undef:=fun i' hi' j hj=>by grind [eE]
 have G:=g.newArr (madeCells zv.cells (c.toNat * i.size)) e s l.toNat c.toNat (fun _ j => .val (z.getD j undef)) h0 (by grind [maxLen]) (by omega) hsz hone (fun i' hi' j hj=>by rw [hel i' hi' j hj];rfl);cases fz with
 | false=>exact ⟨_,_,hr,_,_,_,G,zE st ρ _ _ _ _ _ (by omega),tj st _ _,hk⟩
 | true =>
  have e1:(st.newBox (.arr e s l.toNat fun _ j => .val (z.getD j undef))).delBox st.nx=st.newBoxO none:=by
   simp only [St.newBox,St.delBox,St.newBoxO,St.mk.injEq,true_and,and_true];funext k;by_cases hk:k=st.nx
   ·simp [hk]
   ·simp [hk]
  have G2:=G.delBox st.nx;rw [e1] at G2;refine ⟨_,_,hr,_,_, .b (.c (.p (.lst s l.toNat fun _ j => .val (z.getD j undef)))),G2,⟨_,_,rfl,by omega,fun hn=>⟨_,0,rfl,⟨by simp,fun q => ?_,fun id hid hbk => ?_⟩,fun i' hi' j hj => ?_⟩⟩,trivial,hk⟩
  ·have:=g.frm.size;omega
  ·by_cases hq:id=st.nx
   ·grind [St.newBoxO]
   ·have hne:st.bx id≠none:=by
     intro hx;refine hid ?_;simp only [St.newBoxO,if_neg hq,hx]
    cases hx:st.bx id with
    | none=>grind
    | some x =>
     have hr2:(ρ.upd st.nx (.slice (some ⟨w.heap.size,0,none⟩) l.toNat c.toNat)) id=ρ id:=by simp only [iN.upd];rw [if_neg hq]
     rw [hr2] at hbk;have:=(g.new id x _ hx hbk).1;omega
  ·have hlt:i' * s+j<(madeCells zv.cells (c.toNat * i.size)).size:=by
    rw [hsz];exact Nat.lt_of_lt_of_le (eE hi' hj) (Nat.mul_le_mul_right _ (by omega))
   refine ⟨_,by grind [cr,heap_alloc_new],hone _ hlt, ?_⟩;rw [hel i' hi' j hj];rfl
theorem YT {y : SV} {vc : Prop} {sz m : Nat} {gg : Nat → Nat → PV} {u : Value} (h : yE st.bx y = some (vc, sz, m, gg)) (hvc : vc) (g : Gam S E st ρ a w) (hy : bB ρ (cd E st.bx ρ w) w y u) :
  ∃ A c,u = .slice A m c∧(0<m→∃ b o,A=some ⟨b,o,none⟩∧∀ i,i<m→∀ j,j<sz→∃ x,w.cell? ⟨b,o+(i * sz+j),none⟩=some x∧x.oneCell'=true∧bq (cd E st.bx ρ w) w (gg i j) x):=by
 unfold yE at h;split at h
 ·simp only [Option.some.injEq,Prod.mk.injEq] at h;obtain ⟨_,rfl,rfl,rfl⟩:=h;obtain ⟨A,c,hu,_,hc⟩:=hy;grind
 ·rename_i id n;split at h
  ·rename_i e sz' n' f hb;simp only [Option.some.injEq,Prod.mk.injEq] at h;obtain ⟨rfl,rfl,rfl,rfl⟩:=h;obtain ⟨A,m',c,hr,h1,h2,h3,hu⟩:=hy;refine ⟨A,c,hu,fun h0 => ?_⟩;obtain ⟨hs0,xs,hown,hone,hd⟩:=g.bxs id _ hb;rcases hown.2 with ⟨e1,e2⟩|⟨gb,cap,cur,hv,_,hh,hn,_,hcs,htk⟩
   ·omega
   ·rw [hr] at hv;simp only [Value.slice.injEq] at hv;obtain ⟨rfl,rfl,rfl⟩:=hv;refine ⟨gb,0,rfl,fun i hi j hj => ?_⟩;have hlt:i * sz'+j<m' * sz':=eE (by omega) hj;have hlt2:i * sz'+j<cur.size:=by rw [hcs];exact Nat.lt_of_lt_of_le hlt (Nat.mul_le_mul_right _ hn)
    have hlx:i * sz'+j<xs.length:=by rw [hown.1];exact hlt
    have hxe:xs.getD (i * sz'+j) undef=cur.getD (i * sz'+j) undef:=by rw [← htk];simp [List.getElem?_take,hlt]
    grind [undef,cr]
  grind
 grind
theorem AR (t ty e : TypeId) (i : TypeInfo) (size : Nat) (ht : S.P.underlying t = some (.slice e)) (hi : S.P.info? e = some i)
  (v:Value) (n:Nat) (xs:List Value) (hown:w.ownsRow 0 e size v n xs) (c:Nat):(Builtin.append_ #[t,t] ty #[v, .slice none 0 c]).run S.P w = .ok v w:=by
 rcases hown.2 with ⟨rfl,rfl⟩|⟨g,cap,cur,rfl,_,_,hnc,_⟩
 ·simp [Builtin.append_,run_underlying ht,sizeOf,typeInfo,hi,Builtin.lenOf,Builtin.firstCells]
 ·simp [Builtin.append_,run_underlying ht,sizeOf,typeInfo,hi,Builtin.lenOf,Builtin.firstCells,hnc,storeCells]
theorem zQ {t ty e s m n : Nat} {ag : Bool} {i : TypeInfo} {z : List Value} {y : SV} {vc : Prop} {sz : Nat} {gg : Nat → Nat → PV} {u v : Value} {xs : List Value}
  (he:S.el t=some (none,e,s,ag)) (hz:S.zero e=some z) (hi:S.P.info? e=some i) (hsrc:yE st.bx y=some (vc,sz,m,gg)) (hvc:vc) (hsz:sz=s∨m=0) (h0:0<s) (hzl:z.length=s)
  (hby:(n+m) * i.bytes≤140737488355328) (hmx:n+m≤maxLen) (g:Gam S E st ρ a w) (hy:bB ρ (cd E st.bx ρ w) w y u) (hown:w.ownsRow 0 e s v n xs) :
  ∃ v' w' news,(Builtin.append_ #[t,t] ty #[v,u]).run S.P w = .ok v' w'∧w'.ownsRow 0 e s v' (n+m) (xs ++ news)∧w.grownBy w' v.ownBlock∧(v'.ownBlock=v.ownBlock∨v'.ownBlock=some w.heap.size) ∧
   (∀ x ∈ news,x.oneCell'=true)∧∀ i,i<m→∀ j,j<s→bq (cd E st.bx ρ w) w (gg i j) (news.getD (i * s+j) undef):=by
 obtain ⟨hu,hti⟩:=po he;obtain ⟨i',zv,hi',hzz,hcz,h1⟩:=mZ hz;rw [hi] at hi';simp only [Option.some.injEq] at hi';subst hi';obtain ⟨i2,d,hi2,hs2,_,_⟩:=wu hti;rw [hi] at hi2;simp only [Option.some.injEq] at hi2;subst hi2;have hzs:zv.cells.size=s:=by rw [← hzl,← hcz];simp
 obtain ⟨A,c,rfl,hc⟩:=YT hsrc hvc g hy;rcases Nat.eq_zero_or_pos m with hm|hm
 ·subst hm;cases A with
  | none=>exact ⟨v,w,[],AR t ty e i s hu hi v n xs hown c,by grind,World.grownBy.refl w _, .inl rfl,by simp,fun i hi=>by omega⟩
  | some ad =>
   obtain ⟨v',w',hr,q1,q2,_,q4⟩:=run_append_own_at (P:=S.P) w 0 t ty e i zv s i.bytes hu hi hzz hs2 rfl hzs h0 v n xs hown ad 0 c [] (by simp) (by simp) (by simp) hmx hby (Nat.zero_le _);grind
 ·obtain ⟨b,o,rfl,hcc⟩:=hc hm;have hsz':sz=s:=by omega
  subst hsz'
  let news:=(List.range (m * sz)).map fun k=>(w.cell? ⟨b,o+k,none⟩).getD undef
  have hdiv:∀ k,k<m * sz→k / sz<m∧k % sz<sz∧k / sz * sz+k % sz=k:=fun k hk =>
   ⟨Nat.div_lt_of_lt_mul (by grind),Nat.mod_lt _ h0,by rw [Nat.mul_comm];exact Nat.div_add_mod k sz⟩
  have hcell:∀ k,k<m * sz→∃ x,w.cell? ⟨b,o+k,none⟩=some x∧x.oneCell'=true:=fun k hk=>by
   obtain ⟨d1,d2,d3⟩:=hdiv k hk;grind
  have hnl:news.length=m * sz:=by simp [news]
  obtain ⟨v',w',hr,q1,q2,_,q4⟩:=run_append_own_at (P:=S.P) w 0 t ty e i zv sz i.bytes hu hi hzz hs2 rfl hzs h0 v n xs hown ⟨b,o,none⟩ m c news hnl
   (fun j x hx=>by
    grind [Addr.add,Addr.add_lit])
   (fun x hx=>by
    grind) hmx hby (Nat.zero_le _)
  grind [undef,Cf,eE]
theorem qA {w:World} {e s n:Nat} {v:Value} {xs:List Value} (h:w.ownsRow 0 e s v n xs):v.ownBlock=mW v:=by grind [maxLen,Value.ownBlock,mW,World.ownsRow]
theorem Fp {w:World} {e s n b:Nat} {v:Value} {xs:List Value} (h:w.ownsRow 0 e s v n xs) (hb:mW v=some b):b<w.heap.size:=by grind [maxLen,World.ownsRow,mW,cm]
theorem SM {w : World} {e s n : Nat} {v : Value} {xs : List Value} (h : w.ownsRow 0 e s v n xs) :
  ∃ A c,v = .slice A n c∧n≤c∧(0<n→∃ b,A=some ⟨b,0,none⟩):=by
 grind [maxLen,World.ownsRow]
theorem zs {w:World} {e s n:Nat} {v:Value} {xs:List Value} (h:w.ownsRow 0 e s v n xs) (st:St) (ρ:iN) (ok:Nat→Prop) (w':World):bB (ρ.upd st.nx v) ok w' (.b (.c (.own st.nx n))) v:=by
 obtain ⟨A,c,rfl,hn,hb⟩:=SM h;exact ⟨A,n,c,by simp [iN.upd],Nat.le_refl _,hn,hb,rfl⟩
theorem yV {t ty e s m : Nat} {ag : Bool} {i : TypeInfo} {z : List Value} {y : SV} {vc : Prop} {sz : Nat} {gg : Nat → Nat → PV} {u : Value} {K : SV → St → Prop}
  (he:S.el t=some (none,e,s,ag)) (hz:S.zero e=some z) (hi:S.P.info? e=some i) (hsrc:yE st.bx y=some (vc,sz,m,gg)) (hvc:vc) (hsz:sz=s∨m=0) (h0:0<s) (hzl:z.length=s)
  (hby:m * i.bytes≤140737488355328) (hmx:m≤maxLen) (g:Gam S E st ρ a w) (hy:bB ρ (cd E st.bx ρ w) w y u)
  (hk:K (.b (.c (.own st.nx m))) (st.newBox (.arr e s m gg))) :
  ∃ v w',(Builtin.append_ #[t,t] ty #[.slice none 0 0,u]).run S.P w = .ok v w'∧Cb S E K a v w':=by
 have hown:w.ownsRow 0 e s (.slice none 0 0) 0 []:=⟨by simp, .inl ⟨rfl,rfl⟩⟩
 obtain ⟨v',w',news,hr,q1,q2,q3,q4,q5⟩:=zQ (ty:=ty) (n:=0) he hz hi hsrc hvc hsz h0 hzl (by grind) (by omega) g hy hown;simp only [Nat.zero_add,List.nil_append] at q1;have hB:RowKit.Below w.heap.size w w':=⟨q2.os,q2.tape,q2.output,q2.size,fun k hk=>q2.block k hk (by simp [Value.ownBlock])⟩
 refine ⟨v',w',hr,_,_,_,g.newBox hB (.arr e s m gg) v' trivial (fun b hb=>⟨?_,Fp q1 hb⟩) (fun ok' hkp=>⟨h0,news,q1,q4,fun i hi j hj=>bq.mono hkp (q5 i hi j hj)⟩),zs q1 st ρ _ _,tj st _ _,hk⟩;grind [Value.ownBlock,mW,qA]
theorem KH {w:World} {e s n n':Nat} {A:Option Addr} {c:Nat} {xs:List Value} (h:w.ownsRow 0 e s (.slice A n' c) n' xs) (hn:n≤n'):w.ownsRow 0 e s (.slice A n c) n (xs.take (n * s)):=by
 obtain ⟨hl,h⟩:=h;refine ⟨by simp_all, ?_⟩;rcases h with ⟨h1,h2⟩|⟨gb,cap,cur,hv,hg,hh,hc,hm,hs,ht⟩
 ·grind
 ·simp only [Value.slice.injEq] at hv;obtain ⟨rfl,_,rfl⟩:=hv;refine .inr ⟨gb,c,cur,rfl,hg,hh,by omega,hm,hs, ?_⟩;rw [← ht,List.take_take,Nat.min_eq_left (Nat.mul_le_mul_right s hn)]
theorem yU {t ty e s m n n' id : Nat} {ag : Bool} {i : TypeInfo} {z : List Value} {y : SV} {vc : Prop} {sz : Nat} {f gg : Nat → Nat → PV} {u v : Value} {K : SV → St → Prop}
  (he:S.el t=some (none,e,s,ag)) (hz:S.zero e=some z) (hi:S.P.info? e=some i) (hsrc:yE st.bx y=some (vc,sz,m,gg)) (hvc:vc) (hsz:sz=s∨m=0) (h0:0<s) (hzl:z.length=s)
  (hby:(n+m) * i.bytes≤140737488355328) (hmx:n+m≤maxLen) (g:Gam S E st ρ a w) (hy:bB ρ (cd E st.bx ρ w) w y u) (hb:st.bx id=some (.arr e s n' f)) (hnn:n≤n')
  (hx:cR ρ (cd E st.bx ρ w) w (.own id n) v)
  (hk:K (.b (.c (.own st.nx (n+m)))) ((st.delBox id).newBox (.arr e s (n+m) (dV n f gg)))) :
  ∃ v' w',(Builtin.append_ #[t,t] ty #[v,u]).run S.P w = .ok v' w'∧Cb S E K a v' w':=by
 obtain ⟨_,xs,hown,hone,hd⟩:=g.bxs id _ hb;obtain ⟨A,m',c,hr,h1,h2,h3,rfl⟩:=hx;have hmn:m'=n':=by
  rcases hown.2 with ⟨e1,e2⟩|⟨gb,cap,cur,hv,_⟩
  ·grind
  ·grind
 subst hmn;rw [hr] at hown;have hxl:xs.length=m' * s:=hown.1;replace hone:∀ x ∈ xs.take (n * s),x.oneCell'=true:=fun x hx=>hone x (List.mem_of_mem_take hx);replace hd:∀ i,i<n→∀ j,j<s→bq (cd E st.bx ρ w) w (f i j) ((xs.take (n * s)).getD (i * s+j) undef):=fun i hi j hj=>by grind [eE]
 have hbA:(Value.slice A n c).ownBlock=(Value.slice A m' c).ownBlock:=by cases A <;> rfl
 have hbb':(Value.slice A m' c).ownBlock=mW (ρ id):=by rw [hr];exact qA hown
 have hown:=KH hown hnn;generalize xs.take (n * s)=xs at *
 obtain ⟨v',w',news,hrun,q1,q2,q3,q4,q5⟩:=zQ (ty:=ty) he hz hi hsrc hvc hsz h0 hzl hby hmx g hy hown;have hbb:(Value.slice A n c).ownBlock=mW (ρ id):=by rw [hbA];exact hbb'
 refine ⟨v',w',hrun,_,_,_,g.moveBox hb (by grind) (.arr e s (n+m) (dV n f gg)) v' trivial (fun b hb'=>⟨?_,Fp q1 hb'⟩) (fun ok' hkp=>⟨h0,xs ++ news,q1,fun x hx => ?_,fun i hi j hj => ?_⟩),
  zs q1 st ρ _ _,Nat.lt_succ_self _,hk⟩
 ·grind [mW,qA]
 ·grind
 ·have hlx:xs.length=n * s:=hown.1;unfold dV;by_cases hi':i<n
  ·grind [bq,eE,bq.mono]
  ·rw [if_neg hi',List.getD_eq_getElem?_getD,List.getElem?_append_right (by rw [hlx];have:=Nat.mul_le_mul_right s (Nat.le_of_not_lt hi');omega),← List.getD_eq_getElem?_getD,hlx];have e1:i * s+j - n * s=(i - n) * s+j:=by rw [Nat.sub_mul];have:=Nat.mul_le_mul_right s (Nat.le_of_not_lt hi');omega
   grind [bq,bq.mono]
end
end
end Go.SL
