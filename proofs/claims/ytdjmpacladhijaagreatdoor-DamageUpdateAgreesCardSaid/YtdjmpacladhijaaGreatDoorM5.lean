/- Part of the proof: SlY, SlZ, F0, F1, F6, F2, F7, F8, F5. -/
import Derived.Test.YtdjmpacladhijaaGreatDoorM4
set_option linter.unusedSimpArgs false
set_option linter.unusedVariables false
set_option maxRecDepth 16000
set_option maxHeartbeats 2000000
namespace Go.SL
open Go
section
def Sub (bx' bx:Nat→Option Bx):Prop:=∀ i y,bx' i=some y→bx i=some y
section
variable {S:Env} {E:Ent} {st:St} {ρ:iN} {a:Act} {w:World}
theorem BC {bx':Nat→Option Bx} (h:Sub bx' st.bx):iM (cd E st.bx ρ w) (cd E bx' ρ w) w w:=fun b ⟨h1,h2,h3⟩=>⟨⟨h1,h2,fun i hi=>h3 i fun q=>hi (by
 cases hx:bx' i with
 | none=>rfl
 | some y=>rw [h i y hx] at q;cases q)⟩,fun _=>rfl⟩
theorem Gam.subBox (g:Gam S E st ρ a w) (bx':Nat→Option Bx) (h:Sub bx' st.bx):Gam S E ⟨st.fr,bx',st.nx,st.kf⟩ ρ a w:=by
 have hsub':∀ i,bx' i≠none→st.bx i≠none:=fun i hi=>by
  cases hx:bx' i with
  | none=>grind
  | some y=>rw [h i y hx];simp
 have hk:iM (cd E st.bx ρ w) (cd E bx' ρ w) w w:=BC h;have hρ:∀ id,id<st.nx→ρ id=ρ id:=fun _ _=>rfl
 refine ⟨g.dfr,g.sz,g.frm,g.wfs,fun i b hb=>g.wfb i b (h i b hb),fun i b hb=>jC.mono hk hρ (g.wfb i b (h i b hb)).2 (fun _ _=>rfl) (g.bxs i b (h i b hb)),
  fun i y b h1 h2=>g.new i y b (h i y h1) h2,fun i j b h1 h2=>g.inj i j b (hsub' i h1) (hsub' j h2),g.rx0,fun s=>bB.mono hk hρ (g.wfs s) (g.slt s),fun gg n f hg => ?_,fun s=>⟨(g.kept s).1,bB.mono hk hρ (g.kept s).1 (g.kept s).2⟩⟩
 obtain ⟨h1,h2⟩:=g.glb gg n f hg;refine ⟨(hk gg h1).1,fun j hj => ?_⟩;grind [bq,bq.mono]
def rO (S:Env) (rs:List ResultVar) (X:SV) (bx':Nat→Option Bx) (nx':Nat) (kf:Nat→SV) (st:St):Prop :=
 match mP S st rs with
 | some (p,xs)=>p∧RU xs=X∧Sub bx' st.bx∧st.nx=nx'∧st.kf=kf∧X.lt nx'
 | none=>False
def LL (S:Env) (rs:List ResultVar) (X:SV) (bx':Nat→Option Bx) (nx':Nat) (kf:Nat→SV):AExit→St→Prop
 | .ret,st=>rO S rs X bx' nx' kf st
 | .normal,st=>rO S rs X bx' nx' kf st
 | _,_=>False
theorem Px {S:Env} {rs:List ResultVar} {X:SV} {bx':Nat→Option Bx} {nx':Nat} {kf:Nat→SV} {st:St}:LL S rs X bx' nx' kf .ret st=rO S rs X bx' nx' kf st:=rfl
theorem FV {S:Env} {rs:List ResultVar} {X:SV} {bx':Nat→Option Bx} {nx':Nat} {kf:Nat→SV} {st:St}:LL S rs X bx' nx' kf .normal st=rO S rs X bx' nx' kf st:=rfl
attribute [go_sem] Px FV rO
theorem oC {f : FuncId} {fn : Func} {c : Code} {rs : List ResultVar} {args : List BV} {X : SV} {bx bx' : Nat → Option Bx} {nx nx' : Nat} (hf : S.P.funcs[f]? = some fn) (hb : fn.body = some c) (hrs : fn.results.toList = rs)
  (hname : (fn.name == "runtime.NumGoroutine") = false) (hm : S.P.follows .mixedOrders = true) (hN : cX fn.ntmps c = true) (hlen : args.length ≤ fn.ntmps) (hl : ∀ x ∈ args, BV.lt nx x)
  (h:∀ kf,cw S c (LL S rs X bx' nx' kf) (ID args bx nx kf)):lj S bx nx f args X bx' nx':=by
 subst hrs;refine ⟨⟨fn,hf,hname,by grind⟩,fun E st ρ a w vs hbx hnx g hsz hden => ?_⟩;refine calls_of_wp hf hb ?_;subst hbx;subst hnx
 let E2:Ent := { w0:=E.w0,ok0:=E.ok0,rx:=E.rx,N:=fn.ntmps,kp:=fun s=>if s % 2=0 then a.tmps.getD (s / 2) undef else E.kp (s / 2),hd:=E.hd,hn:=E.hn }
 let kf:Nat→SV:=fun s=>if s % 2=0 then st.fr (s / 2) else st.kf (s / 2)
 have g2:Gam S E2 (ID args st.bx st.nx kf) ρ { tmps:=vs ++ Array.replicate (fn.ntmps - vs.size) undef,defers:=[] } w:=by
  refine ⟨⟨rfl,g.dfr.2.1,g.dfr.2.2⟩,by grind,⟨g.frm.os,g.frm.tape,g.frm.output,g.frm.size,g.frm.block,g.frm.rxb⟩,fun s => ?_,g.wfb,g.bxs,g.new,g.inj,g.rx0,fun s => ?_,g.glb,fun s => ?_⟩
  ·simp only [ID,cN];split
   ·rename_i hs;refine hl _ ?_;grind
   ·trivial
  ·simp only [ID,cN];split
   ·rename_i hs;have e:(vs ++ Array.replicate (fn.ntmps - vs.size) undef).getD s undef=vs.getD s undef:=by
     have:s<vs.size:=by omega
     simp [this];rw [Array.getElem?_append_left this];simp [this]
    rw [e];exact hden (s - 0)
   ·trivial
  ·show (kf s).lt st.nx∧bB ρ (cd E st.bx ρ w) w (kf s) (E2.kp s);simp only [kf,E2];split
   ·exact ⟨g.wfs _,g.slt _⟩
   ·exact g.kept _
 have fin : ∀ {a' : Act} {w' : World}, nL S E2 (rO S fn.results.toList X bx' nx' kf) a' w' → a'.defers = [] ∧ ∃ v, (results fn a'.tmps).run S.P w' = .ok v w' ∧
   ∃ v2 ρ',Ending.returned v = .returned v2∧bB ρ' (cd E bx' ρ' w') w' X v2∧X.lt nx'∧Gam S E ⟨st.fr,bx',nx',st.kf⟩ ρ' a w':=fun {a' w'} ⟨st',ρ',g',hq⟩=>by
  unfold rO at hq;split at hq
  ·rename_i p xs hr;obtain ⟨hp,hX,hbx',hnx',hkf,hXl⟩:=hq;obtain ⟨vs2,hvs,hl2,hd⟩:=kh g' hr hp;obtain ⟨v,hv1,hv2⟩:=rN hvs hl2 hd;subst hX;subst hnx';have g'':=g'.subBox bx' hbx';have hkk:iM (cd E2 st'.bx ρ' w') (cd E2 bx' ρ' w') w' w':=BC hbx';have hv3:=bB.mono hkk (fun (_:Nat) (_:_<st'.nx)=>rfl) hXl hv2;refine ⟨g'.dfr.1,v,hv1,v,ρ',rfl,hv3,hXl, ?_⟩;have hk0:∀ s,(st.fr s).lt st'.nx∧bB ρ' (cd E bx' ρ' w') w' (st.fr s) (a.tmps.getD s undef):=fun s=>by
    have:=g''.kept (2 * s);dsimp only at this;rw [hkf] at this;have e1:2 * s % 2=0:=by omega
    have e2:2 * s / 2=s:=by omega
    simp only [kf,E2,e1,e2,if_true] at this;exact this
   have hk1:∀ s,(st.kf s).lt st'.nx∧bB ρ' (cd E bx' ρ' w') w' (st.kf s) (E.kp s):=fun s=>by
    have:=g''.kept (2 * s+1);dsimp only at this;rw [hkf] at this;have e1:¬ (2 * s+1) % 2=0:=by omega
    have e2:(2 * s+1) / 2=s:=by omega
    simp only [kf,E2,e1,e2,if_false] at this;exact this
   exact ⟨⟨g.dfr.1,g''.dfr.2.1,g''.dfr.2.2⟩,g.sz,⟨g''.frm.os,g''.frm.tape,g''.frm.output,g''.frm.size,g''.frm.block,g''.frm.rxb⟩,fun s=>(hk0 s).1,g''.wfb,g''.bxs,g''.new,g''.inj,g''.rx0,fun s=>(hk0 s).2,g''.glb,hk1⟩
  grind
 refine wp_mono (fB hm c hN (h kf) g2) fun e a' w' hq => ?_;cases e with
 | normal=>exact fin hq
 | ret=>exact fin hq
 | exit id=>obtain ⟨_,_,_,h⟩:=hq;exact h.elim
 | _=>exact hq.elim
end
def BD (o:Oper):Bool:=o.guard.isNone && match o.op with
 | .call c=>match c.callee,c.args.toList with
  | .builtin .append,[.const (.slice none 0 0),_]=>true
  | _,_=>false
 | _=>false
def EM (ops:Array Oper) (x y:Oper):Bool :=
 (match x.dst with|some d => !(cc ops y).contains d|none=>true) && (match y.dst with|some d => !(cc ops x).contains d|none=>true) &&
 (match x.dst,y.dst with|some d,some e=>d != e|_,_=>true) && Fj x && BD y
section
variable {S:Env} {ops:Array Oper} {st s1 s2 s':St}
theorem NH {o:Oper} (ha:BD o=true) (h:Ex S ops st o s'):∀ i,i≠st.nx→s'.bx i=st.bx i:=by
 intro i hi;simp only [BD,Bool.and_eq_true,Option.isNone_iff_eq_none] at ha;obtain ⟨hg,ha⟩:=ha;unfold Ex gh at h;rw [hg] at h;simp only [lO] at h;split at ha
 ·rename_i c ho;obtain ⟨cal,⟨al⟩,⟨tl⟩⟩:=c;simp only at ha;split at ha
  ·rename_i y;rw [ho] at h;have hro:ro S st.bx (st.ev S) (.call ⟨.builtin .append,⟨[.const (.slice none 0 0),y]⟩,⟨tl⟩⟩)=none:=by simp [ro,bK]
   rw [hro] at h;have h2:=h.2;have hev:(st.ev S (.const (.slice none 0 0))).strip = .b (.c (.p (.val (.slice none 0 0)))):=rfl;unfold fp at h2;simp only at h2;split at h2
   ·grind [St.newBox,eR]
   all_goals grind
  ·cases ha
 ·cases ha
theorem Bs {lb:Nat} {x y:Oper} (hi:EM ops x y=true) (w:jB lb st) (h1:Ex S ops st x s1) (h2:Ex S ops s1 y s2):∃ s3,Ex S ops st y s3∧Ex S ops s3 x s2:=by
 simp only [EM,Bool.and_eq_true] at hi;obtain ⟨⟨⟨⟨hxy,hyx⟩,hdd⟩,hl⟩,ha⟩:=hi;have hab:=NH ha h2;simp only [Fj,Bool.and_eq_true,Option.isNone_iff_eq_none] at hl;obtain ⟨hxg,hl⟩:=hl;split at hl
 case h_2=>cases hl
 rename_i t q hxo;obtain ⟨v1,b1,n1,e1,k1,p1,z1⟩:=fF h1;have hc1:qp S.rcv x≤1:=by simp [qp,fM,hxo]
 obtain ⟨rfl,rfl⟩:=k1 hc1;obtain ⟨v2,b2,n2,e2,k2,p2,z2⟩:=fF h2;have hs1:s1.bx=st.bx∧s1.nx=st.nx:=by rw [e1];exact ⟨eR,gV⟩
 have ag1:∀ t ∈ cc ops y,s1.fr t=st.fr t:=by rw [e1];exact iG (nx':=0) (bx':=st.bx) hxy
 have q2:=p2 st ag1 hs1.1.symm hs1.2.symm;refine ⟨_,q2, ?_⟩;have comm:s2=St.set (St.set ⟨st.fr,b2,n2,st.kf⟩ y.dst v2) x.dst v1:=by
  rw [e2,e1];simp only [dO,St.mk.injEq,and_true];funext s;by_cases c1:some s=x.dst
  ·grind
  ·grind
 have hbx:∀ i y',st.bx i=some y'→b2 i=some y':=fun i y' hi=>by
  have hne:i≠s1.nx:=by
   rw [hs1.2];intro e;have:=w.1 i (by omega);rw [this] at hi;cases hi
  simp_all [eR]
 have ag2:∀ t ∈ cc ops x,(St.set ⟨st.fr,b2,n2,st.kf⟩ y.dst v2).fr t=st.fr t:=iG (nx':=0) (bx':=st.bx) hyx;have hevq:(St.set ⟨st.fr,b2,n2,st.kf⟩ y.dst v2).ev S q=st.ev S q :=
  (fD (S:=S) (ops:=ops) (o:=x) (fun t ht=>(ag2 t ht).symm) q (by grind [Op.operands])).symm
 unfold Ex gh at h1 ⊢;rw [hxg] at h1 ⊢;simp only [lO,hxo,tc] at h1 ⊢;rw [hevq,eR];cases hr:fw S t st.bx (st.ev S q).strip with
 | none=>grind [rc,fp]
 | some r =>
  grind [rc,St.set,Np]
end
def nD (rcv:Nat→Bool) (ops:Array Oper) (m:Nat→Nat) (listed:Array Bool) (p:Nat):Bool :=
 match ops[p]? with
 | none=>false
 | some x=>(List.range ops.size).all fun i=>listed.getD i true || Nat.beq i p || ((m i).testBit p && Nat.blt p i) || (match ops[i]? with
  | some o=>yv rcv ops x o || wa rcv ops x o || zf ops x o || EM ops x o
  | none=>false)
section
variable {S:Env} {ops:Array Oper} {st:St}
theorem FX {rcv:Nat→Bool} {m:Nat→Nat} {listed:Array Bool} {i p:Nat} (hi:i<listed.size) (h:nD rcv ops m listed p=true):nD rcv ops m (listed.setIfInBounds i true) p=true:=by
 unfold nD at h ⊢;split at h
 ·cases h
 ·refine List.all_eq_true.2 fun k hk => ?_;have:=List.all_eq_true.1 h k hk;simp only [Bool.or_eq_true] at this ⊢;rw [qn hi];grind
theorem Fl {m : Nat → Nat} {x : Oper} {p : Nat} (hm : dc ops m = true) (hed : ∀ i o, ops[i]? = some o → ∀ e ∈ o.after, Region.binds .any e = true → e.on < i) (hx : ops[p]? = some x) {K : St → Prop} : ∀ (fuel : Nat) (listed : Array Bool) (st : St),
  listed.size=ops.size→iv ops listed→nD S.rcv ops m listed p=true→p ∈ Region.ready .any ops listed→jB 0 st→(∃ s,Ex S ops st x s∧iY S ops fuel (listed.setIfInBounds p true) s K)→iY S ops (fuel+1) listed st K:=by
 intro fuel
 induction fuel with
 | zero =>
  intro listed st hs hcl hp hr hw ⟨s,h1,h2⟩;have hplt:=gB hs hr;refine ⟨fun hno=>(by grind),fun i hi => ?_⟩;by_cases e:i=p
  ·grind [gh,jT]
  ·have:=jc hs (by omega) hi e;rw [h2.1] at this;grind
 | succ f ih =>
  intro listed st hs hcl hp hr hw ⟨s,h1,h2⟩;have hplt:=gB hs hr;obtain ⟨_,_,hpl,_⟩:=(de hs).1 hr;refine ⟨fun hno=>(by grind),fun i hi => ?_⟩;by_cases e:i=p
  ·grind [gh,jT]
  obtain ⟨o,ho,hl,hdep⟩:=(de hs).1 hi;have hlt:=gB hs hi;rw [ho];have h3:=h2.2 i (jc hs (by omega) hi e);rw [ho] at h3;obtain ⟨s2,h4,h5⟩:=nC h3;have hsw:∃ s3,Ex S ops st o s3∧Ex S ops s3 x s2:=by
   have hq:=hp;unfold nD at hq;rw [hx] at hq;have hq:=List.all_eq_true.1 hq i (List.mem_range.2 hlt);rw [ho] at hq;simp only [Bool.or_eq_true,Nat.beq_eq,Bool.and_eq_true] at hq;rcases hq with ((q|q)|q)|q
   ·grind
   ·omega
   ·exact absurd hi (xH hm hs hed hcl (by simp_all) q.1 hpl)
   ·grind [zm,ml,pg,Bs]
  obtain ⟨s3,h6,h7⟩:=hsw;grind [jT,jW,FX,jc,ym,zM]
end
def ED (rcv:Nat→Bool) (ops:Array Oper) (m:Nat→Nat) (listed:Array Bool):Tr→Bool
 | .leaf=>Region.ready .any ops listed == []
 | .nil=>false
 | .br i t r=>Region.ready .any ops listed == fV (.br i t r) || (fV r == [] && (Region.ready .any ops listed).contains i && nD rcv ops m listed i)
def Lh (rcv:Nat→Bool) (ops:Array Oper) (m:Nat→Nat):Array Bool→Tr→Bool
 | _, .leaf=>true
 | _, .nil=>true
 | listed, .br i t r=>Nat.blt i ops.size && ED rcv ops m (listed.setIfInBounds i true) t && Lh rcv ops m (listed.setIfInBounds i true) t && Lh rcv ops m listed r
section
variable {S:Env} {l:List Oper} {m:Nat→Nat}
theorem AX {t:Tr} {listed:Array Bool} (hn:ED S.rcv l.toArray m listed t=true):∀ i ∈ fV t,i ∈ Region.ready .any l.toArray listed:=by
 cases t with
 | leaf=>intro i hi;cases hi
 | nil=>cases hn
 | br k t r =>
  grind [fV,ED]
theorem zU (hm : dc l.toArray m = true) (hf : oE l.toArray = true) {t : Tr} {listed : Array Bool} {fuel : Nat} {st : St} {K : St → Prop} (hs : listed.size = l.toArray.size) (hcl : iv l.toArray listed) (hw : jB 0 st)
  (hn:ED S.rcv l.toArray m listed t=true) (h:ig S l.toArray l t st K) (hd:jS t≤fuel)
  (hal : ∀ f, fuel = f + 1 → ∀ i ∈ fV t, match l.toArray[i]? with
    | some o=>gh S l.toArray st o fun st'=>iY S l.toArray f (listed.setIfInBounds i true) st' K
    | none=>iY S l.toArray f (listed.setIfInBounds i true) st K):iY S l.toArray fuel listed st K:=by
 have hsub:=AX hn;cases t with
 | leaf =>
  have hr:Region.ready .any l.toArray listed=[]:=by simpa [ED] using hn
  cases fuel with
  | zero=>exact ⟨hr,h⟩
  | succ f=>exact ⟨fun _=>h,fun i hi=>by grind⟩
 | nil=>cases hn
 | br i t r =>
  cases fuel with
  | zero=>grind [jS]
  | succ f =>
   have hi:i ∈ Region.ready .any l.toArray listed:=hsub i (by grind [fV]);simp only [ED,Bool.or_eq_true,Bool.and_eq_true,beq_iff_eq] at hn;rcases hn with hn|hn
   ·exact ⟨fun h0=>by grind,fun j hj=>hal f rfl j (by grind)⟩
   ·have:=hal f rfl i (by grind [fV]);grind [de,Fl,tX,nD,nC,gh]
theorem uk (hm : dc l.toArray m = true) (hf : oE l.toArray = true) {K : St → Prop} : ∀ (t : Tr) (listed : Array Bool) (fuel : Nat) (st : St), listed.size = l.toArray.size → iv l.toArray listed → jB 0 st → (∀ i ∈ fV t, i ∈ Region.ready .any l.toArray listed) →
  Lh S.rcv l.toArray m listed t = true → ig S l.toArray l t st K → jS t ≤ fuel + 1 → ∀ i ∈ fV t, match l.toArray[i]? with
    | some o=>gh S l.toArray st o fun st'=>iY S l.toArray fuel (listed.setIfInBounds i true) st' K
    | none=>iY S l.toArray fuel (listed.setIfInBounds i true) st K
 | .leaf,_,_,_,_,_,_,_,_,_,_,i,hi=>by cases hi
 | .nil,_,_,_,_,_,_,_,_,_,_,i,hi=>by cases hi
 | .br k t r,listed,fuel,st,hs,hcl,hw,hsub,hok,h,hd,i,hi=>by
  have hkr:k ∈ Region.ready .any l.toArray listed:=hsub k (by grind [fV]);simp only [Lh,Bool.and_eq_true] at hok;obtain ⟨⟨⟨hk,hn⟩,ht⟩,hr⟩:=hok;simp only [jS] at hd;rcases List.mem_cons.1 hi with rfl|hi
  ·have hlt:i<l.toArray.size:=by simp [Nat.blt] at hk ⊢;omega
   have hget:l.toArray[i]?=some (l.getD i default):=by
    have hlt2:i<l.length:=by simpa using hlt
    rw [List.getElem?_toArray,List.getD_eq_getElem?_getD,List.getElem?_eq_getElem hlt2];rfl
   rw [hget];obtain ⟨s,h1,h2⟩:=nC h.1;refine jT h1 ?_;have hs2:(listed.setIfInBounds i true).size=l.toArray.size:=by simpa using hs
   have hcl2:=jW hs (tX hf) hcl hkr;exact zU hm hf hs2 hcl2 (ym h1 hw) hn h2 (by omega) fun f hf2 j hj=>uk hm hf t _ f s hs2 hcl2 (ym h1 hw) (AX hn) ht h2 (by omega) j hj
  ·exact uk hm hf r listed fuel st hs hcl hw (fun j hj=>hsub j (by grind [fV])) hr h.2 (by omega) i hi
theorem BK {t : Tr} {st : St} {K : St → Prop} (hok : (oE l.toArray && dc l.toArray m && ED S.rcv l.toArray m (Array.replicate l.toArray.size false) t && Lh S.rcv l.toArray m (Array.replicate l.toArray.size false) t && Nat.ble (jS t) l.toArray.size) = true) (hw : jB 0 st) (h : ig S l.toArray l t st K) :
  iY S l.toArray l.toArray.size (Array.replicate l.toArray.size false) st K:=by
 simp only [Bool.and_eq_true] at hok;obtain ⟨⟨⟨⟨hf,hm⟩,h1⟩,h2⟩,h3⟩:=hok;have h3:=Nat.le_of_ble_eq_true h3;have hs:(Array.replicate l.toArray.size false).size=l.toArray.size:=by simp
 have hcl:iv l.toArray (Array.replicate l.toArray.size false):=fun i o ho hi=>by
  exfalso;have hlt:i<l.toArray.size:=by
   rcases Nat.lt_or_ge i l.toArray.size with h|h
   ·exact h
   ·grind
  unfold mw at hi;simp_all
 grind [zU,uk,AX]
end
section
variable {S:Env} {l:List Oper}
theorem ni {id : Nat} {y : Code} {Q : AExit → St → Prop} {st : St} (t : Tr)
  (hok:(oE l.toArray && dc l.toArray (fun i=>(Region.before l.toArray).getD i 0) && ED S.rcv l.toArray (fun i=>(Region.before l.toArray).getD i 0) (Array.replicate l.toArray.size false) t && Lh S.rcv l.toArray (fun i=>(Region.before l.toArray).getD i 0) (Array.replicate l.toArray.size false) t && Nat.ble (jS t) l.toArray.size)=true)
  (hw:jB 0 st) (h:∀ K:St→Prop,(∀ s,cw S y Q s→K s)→ig S l.toArray l t st K):cw S (.seq (.region id l.toArray true) y) Q st:=by
 grind [fJ,ku,Wk,cw,iY,BK]
theorem nc {id : Nat} {Q : AExit → St → Prop} {st : St} (t : Tr)
  (hok:(oE l.toArray && dc l.toArray (fun i=>(Region.before l.toArray).getD i 0) && ED S.rcv l.toArray (fun i=>(Region.before l.toArray).getD i 0) (Array.replicate l.toArray.size false) t && Lh S.rcv l.toArray (fun i=>(Region.before l.toArray).getD i 0) (Array.replicate l.toArray.size false) t && Nat.ble (jS t) l.toArray.size)=true)
  (hw:jB 0 st) (h:∀ K:St→Prop,(∀ s,Q .normal s→K s)→ig S l.toArray l t st K):cw S (.region id l.toArray true) Q st:=by
 grind [cw,iY,BK]
end
structure Hold (p:Prop):Prop where
 out:p
theorem gi {p:Prop} (h:p):Hold p:=⟨h⟩
theorem ka {K:St→Prop} {P:St→Prop} (h:∀ s,P s→K s):∀ s,Hold (P s)→K s:=fun s q=>h s q.out
theorem dQ {α:Type} {i j:Nat} {a b:α} (h:i≠j):(if i=j then a else b)=b:=if_neg h
theorem eL {bx:Nat→Option Bx} {n:Nat} {x:Bx} (h:bx n=some x):bx=aJ n x bx:=by grind [aJ]
end
section
def mkK (l:List (Nat × SV)) (b:List (Nat × Bx)) (nx:Nat) (kf:Nat→SV):St:=⟨ma l,iP b,nx,kf⟩
theorem a2x {l:List (Nat × SV)} {b:List (Nat × Bx)} {nx s:Nat} {kf:Nat→SV}:(mkK l b nx kf).fr s=ma l s:=rfl
theorem a3c {l:List (Nat × SV)} {b:List (Nat × Bx)} {nx:Nat} {kf:Nat→SV}:(mkK l b nx kf).bx=iP b:=rfl
theorem a3Y {l:List (Nat × SV)} {b:List (Nat × Bx)} {nx:Nat} {kf:Nat→SV}:(mkK l b nx kf).nx=nx:=rfl
theorem a3R {l:List (Nat × SV)} {b:List (Nat × Bx)} {nx:Nat} {kf:Nat→SV}:(mkK l b nx kf).kf=kf:=rfl
attribute [go_sem] a2x a3c a3Y a3R
section
variable {r:Nat→Option Nat} {bx bx':Nat→Option Bx} {n:Nat}
theorem zD (hr:∀ id,id<n→r id=some id):∀ {x:CV},x.lt n→Gt r bx bx' x x
 | .p x,_=>by
  cases x with
  | any=>trivial
  | _=>exact .inl rfl
 | .ptr id off,h=>⟨hr id h,rfl⟩
 | .pel id _ _ _,h=>⟨hr id h,rfl,rfl,rfl⟩
 | .own id _,h=>⟨hr id h,rfl⟩
 | .ipt _ _ _,_=>⟨rfl,rfl, .inl rfl⟩
 | .sub id _ _ _,h=>⟨hr id h,rfl,rfl,rfl⟩
 | .clo f ps,h=>⟨rfl,rfl,List.map_congr_left fun p hp=>hr p.1 (h p hp)⟩
theorem BQ (hr:∀ id,id<n→r id=some id):∀ {l:List CV},(∀ x ∈ l,CV.lt n x)→LP r bx bx' l l
 | [],_=>trivial
 | x :: l,h=>⟨zD hr (h x (List.mem_cons_self ..)),BQ hr fun y hy=>h y (List.mem_cons_of_mem _ hy)⟩
theorem Lc (hr:∀ id,id<n→r id=some id):∀ {x:SV},x.lt n→Ck r bx bx' x x
 | .b x,h=>by
  rw [a0S];cases x with
  | c x=>rw [a0R];exact zD hr h
  | agg l=>exact BQ hr h
 | .tup vs,h=>⟨rfl,n,h,hr⟩
 | .grd p x,h=>⟨rfl,n,h,hr⟩
 | .any,_=>by rw [vK];trivial
end
def Mf (S:Env) (rs:List ResultVar) (X:SV) (bx':Nat→Option Bx) (nx':Nat) (kf:Nat→SV) (e:AExit) (st:St):Prop:=Wk (LL S rs X bx' nx' kf e) st
theorem Nz {S:Env} {rs:List ResultVar} {X:SV} {bx':Nat→Option Bx} {nx':Nat} {kf:Nat→SV} {st:St}:Mf S rs X bx' nx' kf .ret st=Wk (rO S rs X bx' nx' kf) st:=rfl
theorem vT {S:Env} {rs:List ResultVar} {X:SV} {bx':Nat→Option Bx} {nx':Nat} {kf:Nat→SV} {st:St}:Mf S rs X bx' nx' kf .normal st=Wk (rO S rs X bx' nx' kf) st:=rfl
attribute [go_sem] Nz vT
section
variable {S:Env}
theorem YW {f : FuncId} {fn : Func} {c : Code} {rs : List ResultVar} {args : List BV} {X : SV} {bx bx' : Nat → Option Bx} {nx nx' : Nat} (hf : S.P.funcs[f]? = some fn) (hb : fn.body = some c) (hrs : fn.results.toList = rs)
  (hname : (fn.name == "runtime.NumGoroutine") = false) (hm : S.P.follows .mixedOrders = true) (hN : cX fn.ntmps c = true) (hlen : args.length ≤ fn.ntmps) (hl : ∀ x ∈ args, BV.lt nx x)
  (h:∀ kf:Nat→SV,(∀ s,(kf s).lt nx)→cw S c (Mf S rs X bx' nx' kf) (ID args bx nx kf)):lj S bx nx f args X bx' nx':=by
 subst hrs;refine ⟨⟨fn,hf,hname,by grind⟩,fun E st ρ a w vs hbx hnx g hsz hden => ?_⟩;refine calls_of_wp hf hb ?_;subst hbx;subst hnx
 let E2:Ent := { w0:=E.w0,ok0:=E.ok0,rx:=E.rx,N:=fn.ntmps,kp:=fun s=>if s % 2=0 then a.tmps.getD (s / 2) undef else E.kp (s / 2),hd:=E.hd,hn:=E.hn }
 let kf:Nat→SV:=fun s=>if s % 2=0 then st.fr (s / 2) else st.kf (s / 2)
 have hkl:∀ s,(kf s).lt st.nx:=fun s=>by
  simp only [kf];split
  ·exact g.wfs _
  ·exact (g.kept _).1
 have g2:Gam S E2 (ID args st.bx st.nx kf) ρ { tmps:=vs ++ Array.replicate (fn.ntmps - vs.size) undef,defers:=[] } w:=by
  refine ⟨⟨rfl,g.dfr.2.1,g.dfr.2.2⟩,by grind,⟨g.frm.os,g.frm.tape,g.frm.output,g.frm.size,g.frm.block,g.frm.rxb⟩,fun s => ?_,g.wfb,g.bxs,g.new,g.inj,g.rx0,fun s => ?_,g.glb,fun s => ?_⟩
  ·simp only [ID,cN];split
   ·rename_i hs;refine hl _ ?_;grind
   ·trivial
  ·simp only [ID,cN];split
   ·rename_i hs;have e:(vs ++ Array.replicate (fn.ntmps - vs.size) undef).getD s undef=vs.getD s undef:=by
     have:s<vs.size:=by omega
     simp [this];rw [Array.getElem?_append_left this];simp [this]
    rw [e];exact hden (s - 0)
   ·trivial
  ·show (kf s).lt st.nx∧bB ρ (cd E st.bx ρ w) w (kf s) (E2.kp s);simp only [kf,E2];split
   ·exact ⟨g.wfs _,g.slt _⟩
   ·exact g.kept _
 have fin : ∀ {a' : Act} {w' : World}, nL S E2 (rO S fn.results.toList X bx' nx' kf) a' w' → a'.defers = [] ∧ ∃ v, (results fn a'.tmps).run S.P w' = .ok v w' ∧
   ∃ v2 ρ',Ending.returned v = .returned v2∧bB ρ' (cd E bx' ρ' w') w' X v2∧X.lt nx'∧Gam S E ⟨st.fr,bx',nx',st.kf⟩ ρ' a w':=fun {a' w'} ⟨st',ρ',g',hq⟩=>by
  unfold rO at hq;split at hq
  ·rename_i p xs hr;obtain ⟨hp,hX,hbx',hnx',hkf,hXl⟩:=hq;obtain ⟨vs2,hvs,hl2,hd⟩:=kh g' hr hp;obtain ⟨v,hv1,hv2⟩:=rN hvs hl2 hd;subst hX;subst hnx';have g'':=g'.subBox bx' hbx';have hkk:iM (cd E2 st'.bx ρ' w') (cd E2 bx' ρ' w') w' w':=BC hbx';have hv3:=bB.mono hkk (fun (_:Nat) (_:_<st'.nx)=>rfl) hXl hv2;refine ⟨g'.dfr.1,v,hv1,v,ρ',rfl,hv3,hXl, ?_⟩;have hk0:∀ s,(st.fr s).lt st'.nx∧bB ρ' (cd E bx' ρ' w') w' (st.fr s) (a.tmps.getD s undef):=fun s=>by
    have:=g''.kept (2 * s);dsimp only at this;rw [hkf] at this;have e1:2 * s % 2=0:=by omega
    have e2:2 * s / 2=s:=by omega
    simp only [kf,E2,e1,e2,if_true] at this;exact this
   have hk1:∀ s,(st.kf s).lt st'.nx∧bB ρ' (cd E bx' ρ' w') w' (st.kf s) (E.kp s):=fun s=>by
    have:=g''.kept (2 * s+1);dsimp only at this;rw [hkf] at this;have e1:¬ (2 * s+1) % 2=0:=by omega
    have e2:(2 * s+1) / 2=s:=by omega
    simp only [kf,E2,e1,e2,if_false] at this;exact this
   exact ⟨⟨g.dfr.1,g''.dfr.2.1,g''.dfr.2.2⟩,g.sz,⟨g''.frm.os,g''.frm.tape,g''.frm.output,g''.frm.size,g''.frm.block,g''.frm.rxb⟩,fun s=>(hk0 s).1,g''.wfb,g''.bxs,g''.new,g''.inj,g''.rx0,fun s=>(hk0 s).2,g''.glb,hk1⟩
  grind
 refine wp_mono (fB hm c hN (h kf hkl) g2) fun e a' w' hq => ?_;cases e with
 | normal=>obtain ⟨s1,ρ1,g1,hk⟩:=hq;exact fin (Wk.nxt hk g1)
 | ret=>obtain ⟨s1,ρ1,g1,hk⟩:=hq;exact fin (Wk.nxt hk g1)
 | exit id=>obtain ⟨_,_,_,_,_,h⟩:=hq;exact h.elim
 | _=>exact hq.elim
end
end
end Go.SL
namespace Go.Proofs.YtdjmpacladhijaaGreatDoor
open Go Go.SL
open Go.RowKit (wrap64)
attribute [go_sem ↓] reduceIte
attribute [go_sem] Nat.reduceEqDiff Nat.reduceAdd Nat.reduceMul Nat.reduceSub Nat.reduceMod Nat.reduceLeDiff Nat.reduceLT Nat.reduceBEq reduceCtorEq Int.reduceLT Int.reduceLE Int.reduceToNat Int.reduceEq Int.reduceAdd
attribute [go_sem] decide_true decide_false implies_true beq_true beq_false Bool.not_eq_true' decide_eq_true_eq decide_eq_false_iff_not Bool.and_eq_true not_false_eq_true forall_const imp_self and_self beq_iff_eq bne_iff_ne true_or or_true false_or or_false Nat.le_refl ne_eq Option.some.injEq eK a5U rI If Tn a6b
theorem ai {p:Prop} (h:p:=by first|assumption|omega|trivial|exact (fun h=>h)|exact (fun hg=>And.intro hg (fun h2=>And.intro hg h2))|(intro hg;refine And.intro hg ?_;(try simp only [Bool.or_eq_false_iff,Bool.not_eq_false',Bool.not_eq_true',Bool.and_eq_true,decide_eq_true_eq,decide_eq_false_iff_not] at hg);omega)):p:=h
theorem gZ {S:Env} {st:St} {f:FuncId} {args:List BV} {K:SV→St→Prop} {X:SV} (h:aB S f args (fun r=>r=X)) (hk:K X st) (hl:iy args:=by simp (maxSteps:=999999)(disch:=omega) only [go_sem]):dY S st f args (Sl.of K):=zp h hl hk
theorem nR:(∀ (p:Prop) [Decidable p],(decide p=true)=p)∧(∀ (p:Prop) [Decidable p],(decide p=false)↔¬p)∧(∀ (α:Type) [BEq α] [LawfulBEq α] (a b:α),((a == b)=true)↔a=b)∧(∀ (α:Type) [BEq α] [LawfulBEq α] (a b:α),((a == b)=false)↔a≠b) ∧
 (∀ (α:Type) [BEq α] [LawfulBEq α] (a b:α),((a != b)=true)↔a≠b)∧(∀ (α:Type) [BEq α] [LawfulBEq α] (a b:α),((a != b)=false)↔a=b)∧(∀ (α:Type) (a b:α),(a≠b)=¬(a=b))∧(∀ b:Bool,(¬(b=true))=(b=false))∧(∀ b:Bool,(¬(b=false))=(b=true)) ∧
 ((!true)=false)∧((!false)=true)∧(∀ a b:Bool,((!a)=b)↔(a = !b))∧(∀ a b:Int,(¬ a<b)↔b≤a)∧(∀ a b:Int,(¬ a≤b)↔b<a)∧(∀ a b:Int,a>b↔b<a)∧(∀ a b:Int,a≥b↔b≤a)∧(∀ (α:Type) (b:Bool) (t e:α),(bif b then t else e)=if b=true then t else e) ∧
 (∀ (p:Prop) [Decidable p] (x:Bool),(if p then x else false)=(decide p && x))∧(∀ (p:Prop) [Decidable p] (x:Bool),(if p then true else x)=(decide p || x))∧(∀ a b:Bool,((a && b)=true)=(a=true∧b=true))∧(∀ a b:Bool,((a || b)=true)=(a=true∨b=true)) ∧
 (∀ a b:Bool,((a && b)=false)↔(a=true→b=false))∧(∀ a b:Bool,((a || b)=false)↔(a=false∧b=false))∧(∀ (p:Prop),[Decidable p]→((¬¬p)↔p))∧(∀ b:Bool,(b == true)=b)∧(∀ b:Bool,(b == false) = !b) ∧
 (∀ (p:Prop) [Decidable p] (a b:Bool),((if p then a else b)=true)=((p→a=true)∧(¬p→b=true)))∧(∀ (p:Prop) [Decidable p] (a b:Bool),((if p then a else b)=false)=((p→a=false)∧(¬p→b=false)))∧(∀ (α:Type) (a b:α),(bif true then a else b)=a)∧(∀ (α:Type) (a b:α),(bif false then a else b)=b) :=
 ⟨fun _ _=>decide_eq_true_eq,fun _ _=>decide_eq_false_iff_not,fun _ _ _ _ _=>beq_iff_eq,fun _ _ _ _ _=>beq_eq_false_iff_ne,fun _ _ _ _ _=>bne_iff_ne,fun _ _ _ _ _=>bne_eq_false_iff_eq,fun _ _ _=>ne_eq _ _,fun _=>Bool.not_eq_true _,fun _=>Bool.not_eq_false _,
 rfl,rfl,fun _ _=>Bool.not_eq_eq_eq_not,fun _ _=>Int.not_lt,fun _ _=>Int.not_le,fun _ _=>Iff.rfl,fun _ _=>Iff.rfl,fun _ b t e=>Bool.cond_eq_ite b t e,
 fun _ _ _=>Bool.if_false_right _ _,fun _ _ _=>Bool.if_true_left _ _,fun _ _=>Bool.and_eq_true _ _,fun _ _=>Bool.or_eq_true _ _,
 fun _ _=>Bool.and_eq_false_imp,fun _ _=>Bool.or_eq_false_iff,fun _ _=>Decidable.not_not,fun b=>by cases b <;> rfl,fun b=>by cases b <;> rfl,
 fun _ _ _ _=>a7G,fun _ _ _ _=>a9C,fun _ _ _=>rfl,fun _ _ _=>rfl⟩
theorem cz:True:=True.intro
theorem du {α:Type} {a b:α} (h:a=b:=by (first|(simp (maxSteps:=999999)(disch:=omega) only [go_sem];rfl)|fail)):a=b:=h
theorem bL {p q:Prop} (h:q) (w:q→p:=by (first|(intro h;first|exact gQ h|exact Un h|exact cw_labels h|exact wj h|((first|refine Tm ?_|refine Yg ?_|refine MN ?_);first|(simp (maxSteps:=999999)(disch:=omega) only [go_sem];exact h)|(have h0:True:=h;simp (maxSteps:=999999)(disch:=omega) only [go_sem])))|fail)):p:=w h
theorem bF {p q:Prop} (h:q) (w:q→p:=by (first|(intro h;(first|refine oc ?_|refine ss ?_);first|(simp (maxSteps:=999999)(disch:=omega) only [go_sem];exact h)|(have h0:True:=h;simp (maxSteps:=999999)(disch:=omega) only [go_sem]))|fail)):p:=w h
theorem an {p : Prop} {c : St → Prop} {q : (St → Prop) → Prop} (h : ∀ K : St → Prop, (∀ s, c s → K s) → q K)
  (w:(∀ K:St→Prop,(∀ s,c s→K s)→q K)→p:=by (first|(intro h;(first|refine jM (fun K hK => ?_)|refine uS (fun K hK => ?_)|refine sx (by decide +kernel) (by decide +kernel) (fun K hK => ?_)|refine Vf (by decide +kernel) (by decide +kernel) (fun K hK => ?_));have h:=h K hK;(try simp (maxSteps:=999999)(disch:=omega) only [go_sem]);exact h)|fail)):p:=w h
theorem pj {vc c:Prop} {r:BV} {K:SV→Prop} {g:Bool} {nx:Nat} {p q':Prop} {q:Sl p} {s:St} (h:q') (w:q'→(r.lt nx∧(g=true→c∧vc)∧K (.grd g r)):=by (first|(intro h;first|(simp (maxSteps:=999999)(disch:=omega) only [go_sem];exact h)|exact h)|fail)):rgB (some g) nx (some (vc, .b r,s)) c (Sl.of K) q:=UP (w h)
theorem aa {S:Env} {st:St} {f:FuncId} {args:List BV} {K:SV→St→Prop} {X:SV} {q:Prop} (h:aB S f args (fun r=>r=X)) (hk:q) (hl:iy args:=by simp (maxSteps:=999999)(disch:=omega) only [go_sem]) (w:q→K X st:=by (first|(intro h;first|(simp (maxSteps:=999999)(disch:=omega) only [go_sem];exact h)|exact h)|fail)):dY S st f args (Sl.of K):=zp h hl (w hk)
theorem aA {S : Env} {st : St} {f : FuncId} {args : List BV} {X : BV} {g : Bool} {c : Prop} {d : Option Nat} {K : St → Prop} {q : Prop} (h : g = true → aB S f args (fun r => r = .b X)) (hk : q) (hl : iy args := by simp (maxSteps := 1000000) (disch := omega) only [go_sem]) (hx : X.lt st.nx := by simp (maxSteps := 1000000) (disch := omega) only [go_sem]) (hc : g = true → c := by simp (maxSteps := 1000000) (disch := omega) only [go_sem]; try omega)
  (w:q→K (st.set d (.grd g X)):=by (first|(intro h;first|(simp (maxSteps:=999999)(disch:=omega) only [go_sem];exact h)|exact h)|fail)):rgm (some g) c S st f args d (Sl.of K):=Si h hl hx hc (w hk)
theorem gS {S : Env} {st : St} {f : FuncId} {args : List BV} {K : SV → St → Prop} {e sz n : Nat} {g : Nat → Nat → PV} {q : Prop} (h : gC S f args e sz n g) (hk : q)
  (hr:S.rcv (f+2000000)=true:=by rfl) (hl:iy args:=by simp (maxSteps:=999999)(disch:=omega) only [go_sem]) (ha:args.map (gq st.bx)=args:=by simp (maxSteps:=999999)(disch:=omega) only [go_sem]) (w:q→K (.b (.c (.own st.nx n))) (st.newBox (.arr e sz n g)):=by (first|(intro h;first|(simp (maxSteps:=999999)(disch:=omega) only [go_sem];exact h)|exact h)|fail)):dY S st f args (Sl.of K):=Ow h (w hk) hr hl ha
theorem aH {t1 t2 q1 q2 p:Prop} (h1:t1→q1) (h2:t2→q2) (w:(t1→q1)→(t2→q2)→p:=by (first|(intro k1 k2;(first|apply DK|apply qG);(case hc=>simp (maxSteps:=999999)(disch:=omega) only [go_sem];rfl);(case h1=>first|(intro hb;simp only [nR] at hb;exact k1 hb)|(have k0:True→True:=k1;intro hb;simp only [nR] at hb;done)|(intro hb;exact k1 hb));(case h2=>first|(intro hb;simp only [nR] at hb;exact k2 hb)|(have k0:True→True:=k2;intro hb;simp only [nR] at hb;done)|(intro hb;exact k2 hb)))|fail)):p:=w h1 h2
theorem ax {p:Prop} (h:p:=by (first|(first|with_reducible exact True.intro|(exfalso;omega))|fail)):p:=h
theorem qt {S:Env} {st:St} {f:FuncId} {args:List BV} {K:SV→St→Prop} {X:SV} {q:Prop} (h:HT S f args X) (hk:q) (hl:iy args:=by simp (maxSteps:=999999)(disch:=omega) only [go_sem]) (w:q→K X st:=by (first|(intro h;first|(simp (maxSteps:=999999)(disch:=omega) only [go_sem];exact h)|exact h)|fail)):dY S st f args (Sl.of K):=SH h hl (w hk)
theorem ur : (∀ n : Nat, ((n : Int)).toNat = n) ∧ ((!true) = false) ∧ ((!false) = true) ∧ (∀ b : Bool, (b && true) = b) ∧ (∀ b : Bool, (true && b) = b) ∧ (∀ b : Bool, (b && false) = false) ∧ (∀ b : Bool, (false && b) = false) ∧
  (∀ b:Bool,(b || true)=true)∧(∀ b:Bool,(true || b)=true)∧(∀ b:Bool,(b || false)=b)∧(∀ b:Bool,(false || b)=b) :=
 ⟨Int.toNat_natCast,rfl,rfl,Bool.and_true,Bool.true_and,Bool.and_false,Bool.false_and,Bool.or_true,Bool.true_or,Bool.or_false,Bool.false_or⟩
theorem aj {E p q : Prop} (e : E) (h : q) (w : E → q → p := by (first | (intro e h; first
  | ((first|apply iL|apply pN);(case hc=>simp (maxSteps:=999999)(disch:=omega) only [go_sem];rfl);(case ht=>(simp only [ur,decide_true,decide_false,Int.reduceBEq,Int.reduceBNe,Int.reduceLT,Int.reduceLE,e];done));exact h)
  | ((first|apply oZ|apply ph);(case hc=>simp (maxSteps:=999999)(disch:=omega) only [go_sem];rfl);(case ht=>(simp only [ur,decide_true,decide_false,Int.reduceBEq,Int.reduceBNe,Int.reduceLT,Int.reduceLE,e];done));exact h))|fail)):p:=w e h
theorem az {f : FuncId} {fn : Func} {c : Code} {args : List BV} {R : SV → Prop} (hf : Sg.P.funcs[f]? = some fn) (rs : List ResultVar) (h : cw Sg c (YV Sg rs R) (zy args)) (hb : fn.body = some c := by rfl) (hrs : fn.results.toList = rs := by rfl)
  (hname : (fn.name == "runtime.NumGoroutine") = false := by rfl) (hN : cX fn.ntmps c = true := by decide +kernel) (hlen : args.length ≤ fn.ntmps := by exact Nat.le_of_ble_eq_true rfl) (hl : iy args := by simp (maxSteps := 1000000) (disch := omega) only [go_sem]) : aB Sg f args R := VG hf hb hrs hname dI hN hlen (bN hl) h
theorem IN {n:Nat} {st:St} (h:jB n st:=by (first|(refine And.intro (fun iw hiw=>by ((try simp (maxSteps:=999999)(disch:=omega) only [go_sem] at hiw ⊢);(repeat (first|rfl|exact if_neg (by omega)|rw [if_neg (by omega)]));done)) (by first|exact Nat.zero_le _|(simp (maxSteps:=999999)(disch:=omega) only [go_sem];done)|(simp (maxSteps:=999999)(disch:=omega) only [go_sem];omega)|decide))|fail)):jB n st:=h
theorem ar {st : St} {l : List (Nat × SV)} {b : List (Nat × Bx)} {nx : Nat} (r : List (Nat × Option Nat)) {q1 q2 : Prop} (h1 : q1) (h2 : q2) (h0 : tE r 0 = some 0 := by rfl) (hnx : 0 < nx := by decide) (hinj : IX (tE r) (b.map (·.1)) = true := by rfl)
  (w1:q1→qV (tE r) st (iP b) nx l:=by (first|(intro h;first|(simp (maxSteps:=999999)(disch:=omega) only [go_sem];exact h)|(have h0:True:=h;simp (maxSteps:=999999)(disch:=omega) only [go_sem]))|fail)) (w2:q2→Cm (tE r) st (iP b) nx b:=by (first|(intro h;first|(simp (maxSteps:=999999)(disch:=omega) only [go_sem];exact h)|(have h0:True:=h;simp (maxSteps:=999999)(disch:=omega) only [go_sem]))|fail)):Le st (aP l b nx):=tP r h0 hnx hinj (w1 h1) (w2 h2)
theorem qS {p:Prop} (h:p:=by (first|(simp (maxSteps:=999999)(disch:=omega) only [go_sem];done)|(simp (maxSteps:=999999)(disch:=omega) only [go_sem];rfl)|fail)):p:=h
theorem ba {p:Prop} (h:p:=by (first|(simp (maxSteps:=999999)(disch:=omega) only [go_sem];done)|fail)):p:=h
theorem Ll {p:Prop} (h:p:=by (first|(simp (maxSteps:=999999)(disch:=omega) only [go_sem];done)|(simp (maxSteps:=999999)(disch:=omega) only [go_sem];omega)|fail)):p:=h
theorem QF {p:Prop} (h:p:=by (first|(simp (maxSteps:=999999)(disch:=omega) only [go_sem];done)|(simp (maxSteps:=999999)(disch:=omega) only [go_sem];rfl)|rfl|fail)):p:=h
theorem bV {p q:Prop} (h:q) (w:q→p:=by (first|(intro h;first|(simp (maxSteps:=999999)(disch:=omega) only [go_sem];exact h)|exact h)|fail)):p:=w h
theorem bZ {n:Nat} {st:St} (h:jB n st:=by (first|(refine And.intro (fun iw hiw => ?_) ?_;(focus ((try simp (maxSteps:=999999)(disch:=omega) only [go_sem] at hiw ⊢);(repeat (refine Eq.trans (if_neg ?_) ?_;(focus omega)));(first|exact hw iw (by omega)|rfl)));(focus (first|exact Nat.zero_le _|(simp (maxSteps:=999999)(disch:=omega) only [go_sem];done)|(simp (maxSteps:=999999)(disch:=omega) only [go_sem];omega))))|exact IN|fail)):jB n st:=h
structure Hid (q:Prop):Prop where
 out:q
theorem a8l {p q:Prop} (h:q) (w:Hid q→p:=by (first|(intro h;refine an (fun K hK => ?_);(repeat' (first|(refine hK _ ?_;exact h.out)|(with_reducible refine And.intro ?_ ?_)|exact ai|refine pj ?_|fail));done)|fail)):p:=w ⟨h⟩
theorem aw {p q:Prop} (h:q) (w:Hid q→p:=by (first|(intro h;refine bL ?_;exact h.out)|(intro h;refine bF ?_;exact h.out)|fail)):p:=w ⟨h⟩
theorem aC {p q:Prop} (h:q) (w:Hid q→p:=by (first|(intro h;refine bL ?_;exact h.out)|(intro h;refine a8l ?_;exact h.out)|(intro h;refine bF ?_;exact h.out)|fail)):p:=w ⟨h⟩
theorem aq {p q:Prop} {K c:St→Prop} (hK:∀ s,c s→K s) (h:q) (w:Hid q→p:=by (first|(intro h;(first|(refine hK _ ?_;exact h.out)|((first|with_reducible refine And.intro ?_ ?_|refine pj ?_) <;> (repeat' (first|(refine hK _ ?_;exact h.out)|(with_reducible refine And.intro ?_ ?_)|exact ai|refine pj ?_|exact h.out|fail))));done)|fail)):p:=w ⟨h⟩
theorem pz {p q:Prop} {K c d:St→Prop} (hK:∀ s,d s→c s→K s) (h:q) (w:Hid q→p:=by (first|(intro h;(first|(refine hK _ (by simp (maxSteps:=999999)(disch:=omega) only [go_sem]) ?_;exact h.out)|((first|with_reducible refine And.intro ?_ ?_|refine pj ?_) <;> (repeat' (first|(refine hK _ (by simp (maxSteps:=999999)(disch:=omega) only [go_sem]) ?_;exact h.out)|(with_reducible refine And.intro ?_ ?_)|exact ai|refine pj ?_|exact h.out|fail))));done)|fail)):p:=w ⟨h⟩
theorem vi {S : Env} {st : St} {id : Nat} {l : List Oper} {y : Code} {Q : AExit → St → Prop} (kl : List (Nat × Nat)) (hwf : jB (AY kl) st) (h : ∀ K : St → Prop, (∀ s, ji kl s → cw S y Q s → K s) → bj S l.toArray l st K) (hd : qz S.rcv l.toArray (fun i => (Region.before l.toArray).getD i 0) kl = true := by decide +kernel)
  (hm:dc l.toArray (fun i=>(Region.before l.toArray).getD i 0)=true:=by decide +kernel):cw S (.seq (.region id l.toArray true) y) Q st:=bT kl hd hm hwf h
theorem IG {S : Env} {st : St} {id : Nat} {l : List Oper} {Q : AExit → St → Prop} (kl : List (Nat × Nat)) (hwf : jB (AY kl) st) (h : ∀ K : St → Prop, (∀ s, ji kl s → Q .normal s → K s) → bj S l.toArray l st K) (hd : qz S.rcv l.toArray (fun i => (Region.before l.toArray).getD i 0) kl = true := by decide +kernel)
  (hm:dc l.toArray (fun i=>(Region.before l.toArray).getD i 0)=true:=by decide +kernel):cw S (.region id l.toArray true) Q st:=gx kl hd hm hwf h
theorem ak {p:Prop} (h:p:=by first|rfl|omega|exact .inl rfl|trivial):p:=h
abbrev PI (x:Int):PV := .val (.int .i64 x)
abbrev PU (x:Int):PV := .val (.int .u16 x)
abbrev PB (x:Bool):PV := .val (.bool x)
abbrev I (x:Int):BV := .c (.p (.val (.int .i64 x)))
abbrev U (x:Int):BV := .c (.p (.val (.int .u16 x)))
abbrev B (x:Bool):BV := .c (.p (.val (.bool x)))
abbrev Jl:PV := .val (.slice none 0 0)
abbrev ag (l:List PV):BV := .agg (l.map CV.p)
structure Rect where
 x0:Int
 y0:Int
 x1:Int
 y1:Int
 deriving DecidableEq,Inhabited
structure Op where
 kind:Int
 image:Int
 x:Int
 y:Int
 mask:Int
 maskX:Int
 maskY:Int
 opacity:Int
 operator:Int
 mode:Int
 isolated:Bool
 knockout:Bool
 deriving DecidableEq,Inhabited
structure Pixel where
 c0:Int
 c1:Int
 c2:Int
 a:Int
 f:Int
 deriving DecidableEq,Inhabited
structure Plane where
 w:Int
 h:Int
 stride:Int
 s:List Int
 deriving DecidableEq,Inhabited
structure Image where
 w:Int
 h:Int
 solid:Bool
 color:Pixel
 p0:Plane
 p1:Plane
 p2:Plane
 p3:Plane
 p4:Plane
 deriving DecidableEq,Inhabited
structure Script where
 bits:Int
 canvas:Rect
 tileW:Int
 tileH:Int
 order:List Int
 images:List Image
 ops:List Op
 deriving DecidableEq,Inhabited
structure Raw where
 kind:Int
 image:Int
 x:Int
 y:Int
 mask:Int
 maskX:Int
 maskY:Int
 opacity:Int
 operator:Int
 mode:Int
 flags:Int
 deriving DecidableEq,Inhabited
structure N5 where
 a:Int
 b:Int
 c:Int
 d:Int
 e:Int
 deriving DecidableEq,Inhabited
structure Row where
 mood:Int
 l:List N5
 deriving DecidableEq,Inhabited
structure Pic where
 w:Int
 h:Int
 solid:Int
 row:Row
 deriving DecidableEq,Inhabited
structure Scene where
 bits:Int
 x:Int
 y:Int
 w:Int
 h:Int
 tileW:Int
 tileH:Int
 order:List Int
 pics:List Pic
 ops:List Raw
 deriving DecidableEq,Inhabited
def KW (n:Int):List PV:=[PI n]
def VQ (n:Int):List PV:=[PU n]
def aS (r:Rect):List PV:=[PI r.x0,PI r.y0,PI r.x1,PI r.y1]
def cC (o:Op):List PV:=[PI o.kind,PI o.image,PI o.x,PI o.y,PI o.mask,PI o.maskX,PI o.maskY,PU o.opacity,PI o.operator,PI o.mode,PB o.isolated,PB o.knockout]
def aU (p:Pixel):List PV:=[PU p.c0,PU p.c1,PU p.c2,PU p.a,PU p.f]
def dq (l:List Int):PV := .lst 1 l.length (aQ KW l)
def nP (l:List Int):PV := .lst 1 l.length (aQ VQ l)
def nt (p:Plane):List PV:=[PI p.w,PI p.h,PI p.stride,nP p.s]
def aF (m:Image):List PV:=[PI m.w,PI m.h,PB m.solid,PU m.color.c0,PU m.color.c1,PU m.color.c2,PU m.color.a,PU m.color.f,
 PI m.p0.w,PI m.p0.h,PI m.p0.stride,nP m.p0.s,PI m.p1.w,PI m.p1.h,PI m.p1.stride,nP m.p1.s,PI m.p2.w,PI m.p2.h,PI m.p2.stride,nP m.p2.s,
 PI m.p3.w,PI m.p3.h,PI m.p3.stride,nP m.p3.s,PI m.p4.w,PI m.p4.h,PI m.p4.stride,nP m.p4.s]
def kU (l:List Op):PV := .lst 12 l.length (aQ cC l)
def qq (l:List Image):PV := .lst 28 l.length (aQ aF l)
def lM (l:List Pixel):PV := .lst 5 l.length (aQ aU l)
def ay (s:Script):List PV:=[PI s.bits,PI s.canvas.x0,PI s.canvas.y0,PI s.canvas.x1,PI s.canvas.y1,PI s.tileW,PI s.tileH,dq s.order,qq s.images,kU s.ops]
def ZD (r:Raw):List PV:=[PI r.kind,PI r.image,PI r.x,PI r.y,PI r.mask,PI r.maskX,PI r.maskY,PI r.opacity,PI r.operator,PI r.mode,PI r.flags]
def n5E (n:N5):List PV:=[PI n.a,PI n.b,PI n.c,PI n.d,PI n.e]
def n5L (l:List N5):PV := .lst 5 l.length (aQ n5E l)
def CD (r:Row):List PV:=[PI r.mood,n5L r.l]
def Uh (p:Pic):List PV:=[PI p.w,PI p.h,PI p.solid,PI p.row.mood,n5L p.row.l]
def a3b (l:List Pic):PV := .lst 5 l.length (aQ Uh l)
def a3d (l:List Raw):PV := .lst 11 l.length (aQ ZD l)
def fW (s:Scene):List PV:=[PI s.bits,PI s.x,PI s.y,PI s.w,PI s.h,PI s.tileW,PI s.tileH,dq s.order,a3b s.pics,a3d s.ops]
attribute [go_sem] KW VQ aS cC aU dq nP nt aF kU qq lM ay ZD n5E n5L CD Uh a3b a3d fW
def i64 (n:Int):Prop := -9223372036854775808≤n∧n≤9223372036854775807
def u16 (n:Int):Prop:=0≤n∧n≤65535
def eO (n k:Int):Int:=if k<1 then 0 else n % k
theorem Qo (n k:Int):(n.tmod k+k) % k=n % k:=by rw [Int.add_emod_right,Int.tmod_def,Int.sub_mul_emod_self_left]
theorem cj (n k : Int) (hk : k ≤ 4611686018427387904) :
  aB Sg 14 [I n,I k] (fun r=>r = .b (I (eO n k))):=by
 refine az Tryz.func14 [.tmp 4] ?_;repeat first|refine bL ?_|((first|refine an (fun K hK => ?_));and_intros;all_goals first|(refine hK _ ?_;clear hK K)|try exact ai)|fail
 refine DK (t := ?tt) ?hc ?h1 ?h2
 case hc=>simp (maxSteps:=999999)(disch:=omega) only [go_sem];rfl
 case h1 =>
  intro hb;try simp only [decide_eq_true_eq,decide_eq_false_iff_not,beq_iff_eq,beq_eq_false_iff_ne,bne_iff_ne,bne_eq_false_iff_eq,ne_eq,Bool.not_eq_true,Bool.not_eq_false,Bool.not_true,Bool.not_false,Bool.not_eq_eq_eq_not,Int.not_lt,Int.not_le,gt_iff_lt,ge_iff_le,Bool.cond_eq_ite,Bool.if_false_right,Bool.if_true_left,Bool.and_eq_true,Bool.or_eq_true,Bool.and_eq_false_imp,Bool.or_eq_false_iff,Decidable.not_not] at hb
  repeat first|refine bL ?_|((first|refine an (fun K hK => ?_));and_intros;all_goals first|(refine hK _ ?_;clear hK K)|try exact ai)|fail
  first|refine oc ?_|refine ss ?_
  refine bV ?_;simp only [eO,if_pos hb]
 case h2 =>
  intro hb;try simp only [decide_eq_true_eq,decide_eq_false_iff_not,beq_iff_eq,beq_eq_false_iff_ne,bne_iff_ne,bne_eq_false_iff_eq,ne_eq,Bool.not_eq_true,Bool.not_eq_false,Bool.not_true,Bool.not_false,Bool.not_eq_eq_eq_not,Int.not_lt,Int.not_le,gt_iff_lt,ge_iff_le,Bool.cond_eq_ite,Bool.if_false_right,Bool.if_true_left,Bool.and_eq_true,Bool.or_eq_true,Bool.and_eq_false_imp,Bool.or_eq_false_iff,Decidable.not_not] at hb
  have hm1:=Int.tmod_lt_of_pos n (show 0<k by omega);have hm2:=Int.lt_tmod_of_pos n (show 0<k by omega);repeat first|refine bL ?_|((first|refine an (fun K hK => ?_));and_intros;all_goals first|(refine hK _ ?_;clear hK K)|try exact ai)|fail
  first|refine oc ?_|refine ss ?_
  refine bV ?_;rw [eO,if_neg (by omega),Qo n k]
theorem bD (n k : Int) (hk1 : 1 ≤ k) (hk : k ≤ 4611686018427387904) :
  aB Sg 14 [I n,I k] (fun r=>r = .b (I (n % k))):=by
 have h:=cj n k hk
 rwa [eO,if_neg (by omega)] at h
def GE (l:List Int) (i:Int):Int:=if i<0∨(l.length:Int)≤i then 0 else l.getD i.toNat 0
theorem WW (l : List Int) (i : Int) :
  aB Sg 76 [.c (.p (dq l)),I i] (fun r=>r = .b (I (GE l i))):=by
 refine az Tryz.func76 [.tmp 4] ?_;repeat first|refine bL ?_|((first|refine an (fun K hK => ?_));and_intros;all_goals first|(refine hK _ ?_;clear hK K)|try exact ai)|fail
 refine DK (t := ?tt) ?hc ?h1 ?h2
 case hc=>simp (maxSteps:=999999)(disch:=omega) only [go_sem];rfl
 case h1 =>
  intro hb;try simp only [decide_eq_true_eq,decide_eq_false_iff_not,beq_iff_eq,beq_eq_false_iff_ne,bne_iff_ne,bne_eq_false_iff_eq,ne_eq,Bool.not_eq_true,Bool.not_eq_false,Bool.not_true,Bool.not_false,Bool.not_eq_eq_eq_not,Int.not_lt,Int.not_le,gt_iff_lt,ge_iff_le,Bool.cond_eq_ite,Bool.if_false_right,Bool.if_true_left,Bool.and_eq_true,Bool.or_eq_true,Bool.and_eq_false_imp,Bool.or_eq_false_iff,Decidable.not_not] at hb
  repeat first|refine bL ?_|((first|refine an (fun K hK => ?_));and_intros;all_goals first|(refine hK _ ?_;clear hK K)|try exact ai)|fail
  first|refine oc ?_|refine ss ?_
  refine bV ?_;rw [GE,if_pos hb]
 case h2 =>
  intro hb;try simp only [decide_eq_true_eq,decide_eq_false_iff_not,beq_iff_eq,beq_eq_false_iff_ne,bne_iff_ne,bne_eq_false_iff_eq,ne_eq,Bool.not_eq_true,Bool.not_eq_false,Bool.not_true,Bool.not_false,Bool.not_eq_eq_eq_not,Int.not_lt,Int.not_le,gt_iff_lt,ge_iff_le,Bool.cond_eq_ite,Bool.if_false_right,Bool.if_true_left,Bool.and_eq_true,Bool.or_eq_true,Bool.and_eq_false_imp,Bool.or_eq_false_iff,Decidable.not_not] at hb
  repeat first|refine bL ?_|((first|refine an (fun K hK => ?_));and_intros;all_goals first|(refine hK _ ?_;clear hK K)|try exact ai)|fail
  first|refine oc ?_|refine ss ?_
  refine bV ?_;rw [GE,if_neg (by omega)];rfl
def eZ (n:Int):Int:=if n % 3=2 then 65535 else 255
theorem SO (n : Int) :
  aB Sg 34 [I n] (fun r=>r = .b (U (eZ n))):=by
 refine az Tryz.func34 [.tmp 2] ?_;repeat first|refine bL ?_|((first|refine an (fun K hK => ?_));and_intros;all_goals first|(refine hK _ ?_;clear hK K)|try exact ai)|fail
 refine zp (cj n 3 (by omega)) ba ?_;try simp (maxSteps:=999999)(disch:=omega) only [go_sem]
 and_intros;all_goals first|(refine hK _ ?_;clear hK K)|exact ai|skip
 refine DK (t := ?tt) ?hc ?h1 ?h2
 case hc=>simp (maxSteps:=999999)(disch:=omega) only [go_sem];rfl
 case h1 =>
  intro hb;try simp only [decide_eq_true_eq,decide_eq_false_iff_not,beq_iff_eq,beq_eq_false_iff_ne,bne_iff_ne,bne_eq_false_iff_eq,ne_eq,Bool.not_eq_true,Bool.not_eq_false,Bool.not_true,Bool.not_false,Bool.not_eq_eq_eq_not,Int.not_lt,Int.not_le,gt_iff_lt,ge_iff_le,Bool.cond_eq_ite,Bool.if_false_right,Bool.if_true_left,Bool.and_eq_true,Bool.or_eq_true,Bool.and_eq_false_imp,Bool.or_eq_false_iff,Decidable.not_not] at hb
  repeat first|refine bL ?_|((first|refine an (fun K hK => ?_));and_intros;all_goals first|(refine hK _ ?_;clear hK K)|try exact ai)|fail
  first|refine oc ?_|refine ss ?_
  refine bV ?_;simp [eZ,eO] at hb ⊢;omega
 case h2 =>
  intro hb;try simp only [decide_eq_true_eq,decide_eq_false_iff_not,beq_iff_eq,beq_eq_false_iff_ne,bne_iff_ne,bne_eq_false_iff_eq,ne_eq,Bool.not_eq_true,Bool.not_eq_false,Bool.not_true,Bool.not_false,Bool.not_eq_eq_eq_not,Int.not_lt,Int.not_le,gt_iff_lt,ge_iff_le,Bool.cond_eq_ite,Bool.if_false_right,Bool.if_true_left,Bool.and_eq_true,Bool.or_eq_true,Bool.and_eq_false_imp,Bool.or_eq_false_iff,Decidable.not_not] at hb
  repeat first|refine bL ?_|((first|refine an (fun K hK => ?_));and_intros;all_goals first|(refine hK _ ?_;clear hK K)|try exact ai)|fail
  first|refine oc ?_|refine ss ?_
  refine bV ?_;simp [eZ,eO] at hb ⊢;omega
theorem ga {a b:Bool} (h:a=true↔b=true):SV.b (B a)=SV.b (B b):=by rw [Bool.eq_iff_iff.2 h]
def oN (r:Rect):Bool:=decide (-1073741824≤r.x0∧r.x0≤1073741824 ∧ -1073741824≤r.y0∧r.y0≤1073741824 ∧ -1073741824≤r.x1∧r.x1≤1073741824 ∧ -1073741824≤r.y1∧r.y1≤1073741824)
def aM (r:Rect):Bool := !oN r || decide (r.x1≤r.x0∨r.y1≤r.y0)
def gr (r:Rect):Rect:=if aM r=true then ⟨0,0,0,0⟩ else r
def eM (r:Rect):Int:=if aM r=true then 0 else (r.x1 - r.x0) * (r.y1 - r.y0)
theorem Cw (r:Rect):aB Sg 93 [ag (aS r)] (fun x=>x = .b (B (oN r))):=by
 refine az Tryz.func93 [.tmp 2] ?_;repeat' (refine aC ?_)
 refine ga ?_
 (try simp only [oN,Bool.and_eq_true,Bool.or_eq_true,Bool.not_eq_true',Bool.not_eq_false',decide_eq_true_eq,decide_eq_false_iff_not,ge_iff_le,gt_iff_lt,beq_iff_eq,bne_iff_ne,ne_eq,Bool.or_eq_false_iff,Bool.and_eq_false_imp,Bool.not_true,Bool.not_false])
 try omega
theorem fK (r:Rect):aB Sg 51 [ag (aS r)] (fun x=>x = .b (B (aM r))):=by
 refine az Tryz.func51 [.tmp 2] ?_;repeat' (first|refine an (fun K hK => ?_)|refine aa (Cw _) ?_|refine aw ?_|(refine aq hK ?_;try clear hK K))
 refine ga ?_;simp only [aM,Bool.or_eq_true,decide_eq_true_eq,ge_iff_le,or_assoc]
theorem jg {r:Rect} (h:¬ aM r=true) : -1073741824≤r.x0∧r.x0<r.x1∧r.x1≤1073741824 ∧ -1073741824≤r.y0∧r.y0<r.y1∧r.y1≤1073741824:=by
 simp only [aM,oN,Bool.or_eq_true,Bool.not_eq_true',decide_eq_true_eq,decide_eq_false_iff_not] at h;omega
theorem Dg (r:Rect):IntKind.i64.wrap (IntKind.i64.wrap ((gr r).x1 - (gr r).x0) * IntKind.i64.wrap ((gr r).y1 - (gr r).y0))=eM r:=by
 by_cases h:aM r=true
 ·simp only [gr,eM,if_pos h];decide
 ·simp only [gr,eM,if_neg h];have hb:=jg h;rw [eK (n:=r.x1 - r.x0) (by omega) (by omega),eK (n:=r.y1 - r.y0) (by omega) (by omega)];have h1:(r.x1 - r.x0) * (r.y1 - r.y0)≤2147483648 * 2147483648:=Int.mul_le_mul (by omega) (by omega) (by omega) (by omega);have h2:0≤(r.x1 - r.x0) * (r.y1 - r.y0):=Int.mul_nonneg (by omega) (by omega);exact eK (by omega) (by omega)
def dD (w h:Int):Bool:=decide (1≤w∧1≤h∧w≤16777216∧h≤16777216 / w)
theorem jb (w h:Int):aB Sg 39 [I w,I h] (fun x=>x = .b (B (dD w h))):=by
 refine az Tryz.func39 [.tmp 4] ?_;repeat' (refine aC ?_)
 refine ga ?_;by_cases hw:1≤w
 ·have h1:0≤16777216 / w:=Int.ediv_nonneg (by omega) (by omega);have h2:16777216 / w≤16777216:=Int.ediv_le_self _ (by omega);rw [eK (by omega) (by omega)];simp only [dD,Bool.and_eq_true,decide_eq_true_eq,ge_iff_le,and_assoc]
 ·simp [dD,hw]
theorem gR (b:Int):aB Sg 80 [I b] (fun x=>x = .tup [U (if b=8 then 255 else if b=16 then 65535 else 0),B (decide (b=8∨b=16))]):=by
 refine az Tryz.func80 [.tmp 2, .tmp 3] ?_
 repeat' (first|refine aC ?_|(refine aH (fun hb => ?_) (fun hb => ?_) <;> try exact ax))
 ·subst hb;rfl
 ·subst hb;rfl
 ·rw [if_neg (by assumption),if_neg (by assumption),decide_eq_false (by omega)]
theorem HD (m:Int):aB Sg 196 [I m] (fun x=>x = .b (B (decide (1≤m∧m≤12)))):=by
 refine az Tryz.func196 [.tmp 2] ?_;repeat' (refine aC ?_)
 refine ga ?_
 (try simp only [Bool.and_eq_true,Bool.or_eq_true,Bool.not_eq_true',Bool.not_eq_false',decide_eq_true_eq,decide_eq_false_iff_not,ge_iff_le,gt_iff_lt,beq_iff_eq,bne_iff_ne,ne_eq,Bool.or_eq_false_iff,Bool.and_eq_false_imp,Bool.not_true,Bool.not_false])
 try omega
theorem iq (w h:Int) (p:Pixel):aB Sg 15 [I w,I h,ag (aU p)] (fun x=>x = .b (ag (aF ⟨w,h,true,p,⟨0,0,0,[]⟩,⟨0,0,0,[]⟩,⟨0,0,0,[]⟩,⟨0,0,0,[]⟩,⟨0,0,0,[]⟩⟩))):=by
 refine bo ?_;refine az Tryz.func15 [.cell 6 49] ?_;repeat' (refine aC ?_)
 refine fR (dG ?_);simp only [List.map_cons,List.map_nil,bM,cA];and_intros;all_goals first|exact .inl rfl|exact .inl trivial|exact .inr bP|trivial|skip
def dZ (n m:Int):Int :=
 if n % 8=0 then 0 else if n % 8=1∨n % 8=2 then m else if n % 8=3 then (m+n.tdiv 8 % 2) / 2
 else if n % 8=4 then min m (n.tdiv 8 % 4) else n.tdiv 8 % (m+1)
theorem iu (n m:Int) (h:0≤m):0≤dZ n m∧dZ n m≤m:=by
 unfold dZ;have h1:=Int.emod_nonneg (n.tdiv 8) (show m+1≠0 by omega);have h2:=Int.emod_lt_of_pos (n.tdiv 8) (show 0<m+1 by omega);split
 ·omega
 split
 ·omega
 split
 ·omega
 split
 ·omega
 ·omega
theorem xX (n m : Int) (hn : i64 n) (hm : u16 m) :
  aB Sg 78 [I n,U m] (fun r=>r = .b (U (dZ n m))):=by
 obtain ⟨hm1,hm2⟩:=hm;obtain ⟨hn1,hn2⟩:=hn;have h1:=Int.emod_nonneg (n.tdiv 8) (show m+1≠0 by omega);have h2:=Int.emod_lt_of_pos (n.tdiv 8) (show 0<m+1 by omega);refine az Tryz.func78 [.tmp 4] ?_
 repeat' (first|refine aw ?_|refine an (fun K hK => ?_)|refine aa (bD _ _ (by omega) (by omega)) ?_|((first|apply dC|apply dE);(case hf=>rfl);(case hc=>exact du);all_goals try (intro hb;try simp only [nR] at hb))|exact bd|(refine aH (fun hb => ?_) (fun hb => ?_) <;> try exact ax)|(refine aq hK ?_;try clear hK K))
 ·rw [dZ,if_pos (by omega)]
 ·rw [dZ,if_neg (by omega),if_pos (by omega)]
 ·rw [dZ,if_neg (by omega),if_neg (by omega),if_pos (by omega)]
 ·have:dZ n m=min m (n.tdiv 8 % 4):=by rw [dZ,if_neg (by omega),if_neg (by omega),if_neg (by omega),if_pos (by omega)]
  rw [this,show (if n.tdiv 8 % 4<m then n.tdiv 8 % 4 else m)=min m (n.tdiv 8 % 4) by split <;> omega]
 ·rw [dZ,if_neg (by omega),if_neg (by omega),if_neg (by omega),if_neg (by omega)]
def Ay (n:N5) (m:Int):Pixel :=
 let f:=dZ n.e m
 let a:=if n.d % 3>0 then dZ (n.d.tdiv 3) f else f
 ⟨dZ n.a a,dZ n.b a,dZ n.c a,a,f⟩
structure N5ok (n:N5):Prop where
 a:i64 n.a
 b:i64 n.b
 c:i64 n.c
 d:i64 n.d
 e:i64 n.e
theorem KF (n : N5) (m : Int) (hn : N5ok n) (hm : u16 m) :
  aB Sg 40 [ag (n5E n),U m] (fun r=>r = .b (ag (aU (Ay n m)))):=by
 obtain ⟨⟨a1,a2⟩,⟨b1,b2⟩,⟨c1,c2⟩,⟨d1,d2⟩,⟨e1,e2⟩⟩:=hn;have hf:=iu n.e m hm.1;have ha':=iu (n.d.tdiv 3) (dZ n.e m) hf.1;have hd := @Ms n.d 3;have hd' := @If n.d 3 d1 d2 (by omega);have hd'':=Ar (n.d.tdiv 3);rw [hd'] at hd'';obtain ⟨hm1,hm2⟩:=hm;refine az Tryz.func40 [.cell 4 43] ?_;repeat' (first|refine aw ?_|refine an (fun K hK => ?_)|refine aa (bD _ _ (by omega) (by omega)) ?_|refine aa (xX _ _ ⟨by omega,by omega⟩ ⟨by omega,by omega⟩) ?_|(apply dC;(case hf=>rfl);(case hc=>exact du);(all_goals first|(intro hb;(try simp only [nR] at hb))|skip))|exact bd|(refine aq hK ?_;try clear hK K))
 ·simp only [Ay,gt_iff_lt];rfl
def lG (n c:Int):Int:=if n % 3=0 then c else c+n.tdiv 3 % 9 - 4
theorem Ii (n c : Int) (hn : i64 n) (hc1 : -2000000000 ≤ c) (hc2 : c ≤ 2000000000) :
  aB Sg 77 [I n,I c] (fun r=>r = .b (I (lG n c))):=by
 obtain ⟨hn1,hn2⟩:=hn;refine az Tryz.func77 [.tmp 4] ?_
 repeat' (first|refine aw ?_|refine an (fun K hK => ?_)|refine aa (bD _ _ (by omega) (by omega)) ?_|(refine aH (fun hb => ?_) (fun hb => ?_) <;> try exact ax)|(refine aq hK ?_;try clear hK K))
 ·rw [lG,if_pos hb]
 ·rw [lG,if_neg hb]
def bu (k:Int) (l:List Int):Bool:=l.all fun v=>decide (-k≤v∧v≤k)
theorem xO (k:Int) (l:List Int) (hk:0≤k) (hk2:k≤9223372036854775807) (hl:l.length≤4611686018427387904):aB Sg 108 [I k, .c (.p (dq l))] (fun x=>x = .b (B (bu k l))):=by
 refine az Tryz.func108 [.tmp 4] ?_;repeat' (refine aC ?_)
 refine aK (X:=Nat) (fun i=>aP [(0, .b (I k)),(7, .b (.c (.p (dq l)))),(8, .b (I l.length)),(9, .b (I i))] [] 1) (fun i=>i≤l.length∧(l.take i).all (fun v=>decide (-k≤v∧v≤k))=true) (fun i=>l.length - i) 0 ?_ ?_ ?_
 ·exact ⟨by omega,rfl⟩
 ·refine ar [] ?_ ?_;and_intros;all_goals try exact ak
 ·rintro i ⟨hi,ht⟩
  repeat' (first|refine aC ?_|(refine aH (fun hb => ?_) (fun hb => ?_) <;> try exact ax))
  ·have:bu k l=false:=by
    rw [bu,List.all_eq_false];refine ⟨l.getD i default, ?_, ?_⟩
    ·rw [List.getD_eq_getElem?_getD,List.getElem?_eq_getElem (by omega)];exact List.getElem_mem _
    ·simp only [decide_eq_true_eq];simp only [Int.toNat_natCast] at hb;omega
   rw [this]
  ·rw [ae];refine ao (i+1) ?_ ⟨by omega, ?_⟩ (by omega)
   ·refine ar [] ?_ ?_;and_intros;all_goals try exact ak
   ·rw [List.take_add_one,List.all_append,ht,List.getElem?_eq_getElem (by omega)];simp only [Int.toNat_natCast,List.getD_eq_getElem?_getD,List.getElem?_eq_getElem (show i<l.length by omega),Option.getD_some] at hb;simp only [Option.toList_some,List.all_cons,List.all_nil,Bool.and_true,Bool.true_and,decide_eq_true_eq];omega
  ·have:bu k l=true:=by
    rw [bu]
    rwa [List.take_of_length_le (by omega)] at ht
   rw [this]
theorem IY (r:Rect):aB Sg 85 [ag (aS r)] (fun x=>x = .b (B (oN r))):=by
 refine az Tryz.func85 [.tmp 2] ?_;repeat' (first|refine an (fun K hK => ?_)|(refine aq hK ?_;try clear hK K))
 refine fT ?_ ?_ ba ?_ (xO 1073741824 [r.x0,r.y0,r.x1,r.y1] (by omega) (by omega) (by simp));try simp (maxSteps:=999999)(disch:=omega) only [go_sem]
 try (refine hK _ ?_;clear hK K)
 ·first|refine oc ?_|refine ss ?_
  refine bV ?_;refine ga ?_;simp only [bu,oN,List.all_cons,List.all_nil,Bool.and_true,Bool.and_eq_true,decide_eq_true_eq];omega
 ·simp (maxSteps:=1000000) (disch:=omega) only [go_sem,fi,fY];refine ⟨jm,qJ (gX fun i hi j hj => ?_)⟩;have h1:i=0∨i=1∨i=2∨i=3:=by omega
  have h2:j=0:=by omega
  subst h2;rcases h1 with rfl|rfl|rfl|rfl <;> rfl
 ·trivial
theorem cq (r:Rect):aB Sg 44 [ag (aS r)] (fun x=>x = .b (B (aM r))):=by
 refine az Tryz.func44 [.tmp 2] ?_;repeat' (first|refine an (fun K hK => ?_)|refine aa (IY _) ?_|refine aw ?_|(refine aq hK ?_;try clear hK K))
 refine ga ?_;simp only [aM,Bool.or_eq_true,decide_eq_true_eq,ge_iff_le,or_assoc]
theorem rX (r:Rect):aB Sg 107 [ag (aS r)] (fun x=>x = .b (ag (aS (gr r)))):=by
 refine az Tryz.func107 [.cell 2 35] ?_
 repeat' (first|refine aw ?_|refine an (fun K hK => ?_)|refine aa (cq _) ?_|(refine aH (fun hb => ?_) (fun hb => ?_) <;> try exact ax)|(refine aq hK ?_;try clear hK K))
 ·rw [gr,if_pos hb];rfl
 ·rw [gr,if_neg (by simp [hb])];rfl
theorem JP (r:Rect):aB Sg 130 [ag (aS r)] (fun x=>x = .b (I (eM r))):=by
 refine az Tryz.func130 [.tmp 2] ?_;repeat' (first|refine an (fun K hK => ?_)|refine aa (rX _) ?_|refine aw ?_|(refine aq hK ?_;try clear hK K))
 rw [Dg]
def rL (o:Int):List PV:=if 1≤o∧o≤12 then [dL.getD (o.toNat * 4) .any,dL.getD (o.toNat * 4+1) .any,dL.getD (o.toNat * 4+2) .any,dL.getD (o.toNat * 4+3) .any]
 else [.val (.string ⟨#[]⟩),PI 0,PI 0,PI 0]
theorem pJ (o:Int):aB Sg 195 [I o] (fun x=>x = .tup [ag (rL o),B (decide (1≤o∧o≤12))]):=by
 refine az Tryz.func195 [.cell 2 253, .tmp 3] ?_
 repeat' (first|refine aC ?_|(refine aH (fun hb => ?_) (fun hb => ?_) <;> try exact ax))
 ·rw [rL,if_neg (by omega),decide_eq_false (by omega)];rfl
 ·rw [rL,if_pos (by omega),decide_eq_true (by omega)];simp only [Nat.zero_add,Nat.add_zero];rfl
def xd (o:Int):ByteArray:=match (rL o).getD 0 .any with
 | .val (.string s)=>s
 | _=>⟨#[]⟩
theorem pM (o:Int):∃ a b c,rL o=[.val (.string (xd o)),PI a,PI b,PI c]∧((xd o).toList == (ByteArray.mk #[]).toList) = !decide (1≤o∧o≤12):=by
 by_cases h:1≤o∧o≤12
 ·have:o=1∨o=2∨o=3∨o=4∨o=5∨o=6∨o=7∨o=8∨o=9∨o=10∨o=11∨o=12:=by omega
  rcases this with rfl|rfl|rfl|rfl|rfl|rfl|rfl|rfl|rfl|rfl|rfl|rfl <;> exact ⟨_,_,_,rfl,by decide +kernel⟩
 ·have e:rL o=[.val (.string ⟨#[]⟩),PI 0,PI 0,PI 0]:=by rw [rL,if_neg h]
  refine ⟨0,0,0, ?_, ?_⟩
  ·rw [xd,e];rfl
  ·rw [xd,e,decide_eq_false h];decide +kernel
theorem Hy (o:Int):aB Sg 161 [I o] (fun x=>x = .b (.c (.p (.val (.string (xd o)))))):=by
 obtain ⟨a,b,c,he,_⟩:=pM o;have hf:=pJ o;rw [he] at hf;refine az Tryz.func161 [.tmp 2] ?_;repeat' (first|with_reducible exact cz|refine an (fun K hK => ?_)|refine aa (hf) ?_|refine aw ?_|(refine aq hK ?_;try clear hK K))
def jn (o:Int):Bool:=decide (1≤o∧o≤12)
def bNm (m:Int):ByteArray:=match jt.getD m.toNat .any with
 | .val (.string s)=>s
 | _=>⟨#[]⟩
theorem GP (m:Int) (h:1≤m∧m≤12):jt.getD m.toNat .any = .val (.string (bNm m))∧((bNm m).toList == (ByteArray.mk #[]).toList)=false:=by
 have:m=1∨m=2∨m=3∨m=4∨m=5∨m=6∨m=7∨m=8∨m=9∨m=10∨m=11∨m=12:=by omega
 rcases this with rfl|rfl|rfl|rfl|rfl|rfl|rfl|rfl|rfl|rfl|rfl|rfl <;> exact ⟨rfl,by decide +kernel⟩
def Ct (m:Int):ByteArray:=if 1≤m∧m≤12 then bNm m else ⟨#[]⟩
theorem Ao (m:Int):((Ct m).toList == (ByteArray.mk #[]).toList) = !jn m:=by
 by_cases h:1≤m∧m≤12
 ·rw [Ct,if_pos h,(GP m h).2,jn,decide_eq_true h];rfl
 ·rw [Ct,if_neg h,jn,decide_eq_false h];decide +kernel
theorem By (m:Int):aB Sg 162 [I m] (fun x=>x = .b (.c (.p (.val (.string (Ct m)))))):=by
 refine az Tryz.func162 [.tmp 2] ?_
 repeat' (first|refine aw ?_|refine an (fun K hK => ?_)|refine aa (HD _) ?_|(refine aH (fun hb => ?_) (fun hb => ?_) <;> try exact ax)|(refine aq hK ?_;try clear hK K))
 ·rw [Ct,if_neg (by omega)]
 ·rw [Ct,if_pos (by omega)];have h:=GP m (by omega);simp only [Nat.zero_add,Nat.mul_one,Nat.add_zero];rw [h.1]
def cP (r:Rect) (w h:Int):Bool := !aM r && decide (1≤w∧1≤h∧w≤r.x1 - r.x0∧h≤r.y1 - r.y0)
def bA (r:Rect) (w h:Int):Int:=if cP r w h=true then (r.x1 - r.x0 - 1) / w+1 else 0
def cF (r:Rect) (w h:Int):Int:=if cP r w h=true then (r.y1 - r.y0 - 1) / h+1 else 0
theorem HS {W w : Int} (h1 : 1 ≤ W) (h2 : W ≤ 2147483648) (h3 : 1 ≤ w) (h4 : w ≤ W) :
  IntKind.i64.wrap (IntKind.i64.wrap ((IntKind.i64.wrap (IntKind.i64.wrap W - 1)).tdiv w)+1)=(W - 1) / w+1:=by
 have b1:0≤(W - 1) / w:=Int.ediv_nonneg (by omega) (by omega);have b2:(W - 1) / w≤W - 1:=Int.ediv_le_self _ (by omega);rw [eK (n:=W) (by omega) (by omega),eK (n:=W - 1) (by omega) (by omega),Tn (by omega),eK (n:=(W - 1) / w) (by omega) (by omega),eK (by omega) (by omega)]
theorem Dz {W w : Int} (h1 : 1 ≤ W) (h2 : W ≤ 2147483648) (h3 : 1 ≤ w) (h4 : w ≤ W) :
  IntKind.i64.wrap ((IntKind.i64.wrap (IntKind.i64.wrap (IntKind.i64.wrap W+w) - 1)).tdiv w)=(W - 1) / w+1:=by
 have b1:0≤(W - 1) / w:=Int.ediv_nonneg (by omega) (by omega);have b2:(W - 1) / w≤W - 1:=Int.ediv_le_self _ (by omega);have e:(W+w - 1) / w=(W - 1) / w+1:=by rw [show W+w - 1=(W - 1)+1 * w by omega,Int.add_mul_ediv_right _ _ (by omega)]
 rw [eK (n:=W) (by omega) (by omega),eK (n:=W+w) (by omega) (by omega),eK (n:=W+w - 1) (by omega) (by omega),Tn (by omega),e,eK (by omega) (by omega)]
theorem Ab (r:Rect) (w h:Int):aB Sg 35 [ag (aS r),I w,I h] (fun x=>x = .tup [I (bA r w h),I (cF r w h),B (cP r w h)]):=by
 refine az Tryz.func35 [.tmp 6, .tmp 7, .tmp 8] ?_
 repeat' (first|refine aw ?_|refine an (fun K hK => ?_)|refine aa (fK _) ?_|(refine aH (fun hb => ?_) (fun hb => ?_) <;> try exact ax)|(refine aq hK ?_;try clear hK K))
 ·have:cP r w h=false:=by
   cases he:aM r with
   | true=>simp [cP,he]
   | false =>
    have hb2:=jg (r:=r) (by simp [he]);rw [he,eK (n:=r.x1 - r.x0) (by omega) (by omega),eK (n:=r.y1 - r.y0) (by omega) (by omega)] at hb;simp only [cP,he,Bool.not_false,Bool.true_and,decide_eq_false_iff_not];simp only [Bool.false_eq_true,false_or] at hb;omega
  simp only [bA,cF,this,Bool.false_eq_true,if_false]
 ·have hb2:=jg (r:=r) (by simp [hb.1.1.1.1]);rw [eK (n:=r.x1 - r.x0) (by omega) (by omega),eK (n:=r.y1 - r.y0) (by omega) (by omega)] at hb;have ht:cP r w h=true:=by
   simp only [cP,hb.1.1.1.1,Bool.not_false,Bool.true_and,decide_eq_true_eq];omega
  rw [HS (by omega) (by omega) (by omega) (by omega),HS (by omega) (by omega) (by omega) (by omega),bA,cF,if_pos ht,if_pos ht,ht]
theorem qo (r:Rect) (w h:Int):aB Sg 101 [ag (aS r),I w,I h] (fun x=>x = .tup [I (bA r w h),I (cF r w h),B (cP r w h)]):=by
 refine az Tryz.func101 [.tmp 6, .tmp 7, .tmp 8] ?_
 repeat' (first|refine aw ?_|refine an (fun K hK => ?_)|refine aa (cq _) ?_|(refine aH (fun hb => ?_) (fun hb => ?_) <;> try exact ax)|(refine aq hK ?_;try clear hK K))
 ·have:cP r w h=false:=by simp [cP,hb]
  simp only [bA,cF,this,Bool.false_eq_true,if_false]
 ·rename_i he;have hb2:=jg (r:=r) (by simp [he]);rw [eK (n:=r.x1 - r.x0) (by omega) (by omega),eK (n:=r.y1 - r.y0) (by omega) (by omega)] at hb;have:cP r w h=false:=by
   simp only [cP,he,Bool.not_false,Bool.true_and,decide_eq_false_iff_not];omega
  simp only [bA,cF,this,Bool.false_eq_true,if_false]
 ·rename_i he;have hb2:=jg (r:=r) (by simp [he]);rw [eK (n:=r.x1 - r.x0) (by omega) (by omega),eK (n:=r.y1 - r.y0) (by omega) (by omega)] at hb;have ht:cP r w h=true:=by
   simp only [cP,he,Bool.not_false,Bool.true_and,decide_eq_true_eq];omega
  rw [Dz (by omega) (by omega) (by omega) (by omega),Dz (by omega) (by omega) (by omega) (by omega),bA,cF,if_pos ht,if_pos ht,ht]
def kP (l:List Int):Nat→Nat→List Int→List Int
 | 0,_,_=>[]
 | k+1,i,rest=>rest.getD (GE l i % rest.length).toNat 0 :: kP l k (i+1) (rest.eraseIdx (GE l i % rest.length).toNat)
def nO (n:Nat):List Int:=(List.range n).map fun (i:Nat)=>(i:Int)
def se (l:List Int) (n:Int):List Int:=if l.length=0∨n>64 then [] else kP l n.toNat 0 (nO n.toNat)
theorem kS (n:Nat):(nO n).length=n:=by simp [nO]
set_option maxHeartbeats 4000000 in
theorem xk (l : List Int) (n : Int) (hl : l.length ≤ 4611686018427387904) (hn : 0 ≤ n) :
  aB Sg 36 [.c (.p (dq l)),I n] (fun x=>x = .b (.c (.p (dq (se l n))))):=by
 refine bo ?_;refine az Tryz.func36 [.tmp 4] ?_
 repeat' (first|refine aC ?_|(refine aH (fun hb => ?_) (fun hb => ?_) <;> try exact ax))
 ·rw [se,if_pos (by omega)];exact fR (fg bP)
 refine aK (X:=Nat) (fun i=>aP [(0, .b (.c (.p (dq l)))),(1, .b (I n)),(5, .b (.c (.own 1 n.toNat))),(6, .b (I i))]
  [(1, .arr 3 1 n.toNat (fun a _=>PI (if a<i then a else 0)))] 2) (fun i=>(i:Int)≤n) (fun i=>n.toNat - i) 0 ?_ ?_ ?_
 ·omega
 ·refine ar [(1,some 0)] ?_ ?_;and_intros;all_goals try exact ak
  refine .inr fun a ha j hj => ?_;have:j=0:=by omega
  subst this;rw [if_neg (by omega)];exact PV.le_refl _
 ·intro i hi
  repeat' (first|refine aC ?_|(refine aH (fun hb => ?_) (fun hb => ?_) <;> try exact ax))
  ·rw [ae];refine ao (i+1) ?_ (by omega) (by omega);refine ar [(1,some 1)] ?_ ?_;and_intros;all_goals try exact ak
   refine .inr fun a ha j hj => ?_;have:j=0:=by omega
   subst this;simp only [Int.toNat_natCast];by_cases h:a=i
   ·subst h;rw [if_pos rfl,if_pos (by omega),if_pos (by omega)];exact PV.le_refl _
   ·rw [if_neg h];by_cases h2:a<i
    ·rw [if_pos h2,if_pos (by omega)];exact PV.le_refl _
    ·rw [if_neg h2,if_neg (by omega)];exact PV.le_refl _
  have hin:i=n.toNat:=by omega
  refine aK (X:=Nat × List Int × List Int) (fun x=>aP [(0, .b (.c (.p (dq l)))),(5, .b (.c (.p (dq x.2.1)))),(7, .b (.c (.own 1 x.2.2.length))),(8, .b (I x.1))]
   [(1, .arr 3 1 x.2.2.length (aQ KW x.2.2))] 2)
   (fun x=>x.2.2 ++ kP l x.2.1.length x.1 x.2.1=se l n∧x.1+x.2.1.length≤64∧x.2.2.length=x.1) (fun x=>x.2.1.length) (0,nO n.toNat,[]) ?_ ?_ ?_
  ·refine ⟨?_, ?_,rfl⟩
   ·simp only [kS,List.nil_append];rw [se,if_neg (by omega)]
   ·simp only [kS];omega
  ·refine ar [(1,none)] ?_ ?_;and_intros;all_goals try exact ak
   ·exact (kS _).symm
   ·intro a ha j hj;have:j=0:=by omega
    subst this;rw [if_pos (by omega),show (nO n.toNat).getD a default=a by simp [nO,ha]];exact PV.le_refl _
  ·rintro ⟨i2,rest,out⟩ ⟨h1,h2,h3⟩;dsimp only at h1 h2 h3 ⊢;have q1:0<rest.length→0≤GE l i2 % rest.length∧GE l i2 % rest.length<rest.length:=fun h=>⟨Int.emod_nonneg _ (by omega),Int.emod_lt_of_pos _ (by omega)⟩
   repeat' (first|refine aw ?_|refine an (fun K hK => ?_)|refine aa (bD _ _ (by omega) (by omega)) ?_|refine aa (WW _ _) ?_|(refine aH (fun hb => ?_) (fun hb => ?_) <;> try exact ax)|(refine aq hK ?_;try clear hK K))
   ·rw [ae];have hk:(GE l i2 % rest.length).toNat<rest.length:=by omega
    have hk2:(GE l i2 % rest.length+1).toNat=(GE l i2 % rest.length).toNat+1:=by omega
    generalize hkd:(GE l i2 % rest.length).toNat=k at *
    refine ao (i2+1,rest.eraseIdx k,out ++ [rest.getD k 0]) ?_ ?_ ?_
    ·refine ar [(1,some 3)] ?_ ?_;and_intros;all_goals try exact ak
     ·rw [List.length_eraseIdx,if_pos hk];omega
     ·intro a ha j hj;have:j=0:=by omega
      subst this;have e:(rest.eraseIdx k).getD a default=if a<k then rest.getD a default else rest.getD (a+1) default:=by
       simp only [List.getD_eq_getElem?_getD,List.getElem?_eraseIdx];split <;> rfl
      rw [e,hk2];by_cases h:a<k
      ·simp only [dV,Nat.sub_zero,Nat.zero_add,if_pos h];exact PV.le_refl _
      ·simp only [dV,Nat.sub_zero,if_neg h];rw [show k+1+(a - k)=a+1 by omega];exact PV.le_refl _
     ·simp
     ·simp
     ·refine .inr (gD (enc:=KW) fun j hj => ?_);have:j=0:=by omega
      subst this;rfl
    ·obtain ⟨m,hm⟩:∃ m,rest.length=m+1:=⟨rest.length - 1,by omega⟩
     have hl2:(rest.eraseIdx k).length=m:=by rw [List.length_eraseIdx,if_pos hk];omega
     refine ⟨?_, ?_, ?_⟩
     ·rw [← h1,hm];dsimp only;rw [hl2,List.append_assoc];simp only [kP,List.cons_append,List.nil_append,hm] at hkd ⊢;rw [hkd]
     ·dsimp only;omega
     ·simp [h3]
    ·dsimp only;rw [List.length_eraseIdx,if_pos hk];omega
   ·have hr0:rest=[]:=List.eq_nil_of_length_eq_zero (by omega);subst hr0;have:out=se l n:=by simpa [kP] using h1
    rw [this];exact fR (fg (PV.le_refl _))
end Go.Proofs.YtdjmpacladhijaaGreatDoor
