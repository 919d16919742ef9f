/- Part of the proof: SlY, SlZ, F0, F1, F6, F7, T1, T2, T3, T4. -/
import Derived.Test.YtcbifofjjpfbcaaGreatDoorM4
set_option linter.unusedSimpArgs false
set_option linter.unusedVariables false
set_option maxRecDepth 16000
set_option maxHeartbeats 1000000
namespace Go.SL
open Go
section
def VQ (bx' bx:Nat→Option Bx):Prop:=∀ i y,bx' i=some y→bx i=some y
section
variable {S:Env} {E:Ent} {st:St} {ρ:gU} {a:Act} {w:World}
theorem vL {bx':Nat→Option Bx} (h:VQ bx' st.bx):gy (bR E st.bx ρ w) (bR E bx' ρ w) w w:=fun b ⟨h1,h2,h3⟩=>⟨⟨h1,h2,fun i hi=>h3 i fun q=>hi (by
 cases hx:bx' i with
 | none=>rfl
 | some y=>rw [h i y hx] at q;cases q)⟩,fun _=>rfl⟩
theorem Gam.subBox (g:Gam S E st ρ a w) (bx':Nat→Option Bx) (h:VQ bx' st.bx):Gam S E ⟨st.fr,bx',st.nx,st.kf⟩ ρ a w:=by
 have hsub':∀ i,bx' i≠none→st.bx i≠none:=fun i hi=>by
  cases hx:bx' i with
  | none=>grind
  | some y=>rw [h i y hx];simp
 have hk:gy (bR E st.bx ρ w) (bR E bx' ρ w) w w:=vL h;have hρ:∀ id,id<st.nx→ρ id=ρ id:=fun _ _=>rfl
 refine ⟨g.dfr,g.sz,g.frm,g.wfs,fun i b hb=>g.wfb i b (h i b hb),fun i b hb=>ld.mono hk hρ (g.wfb i b (h i b hb)).2 (fun _ _=>rfl) (g.bxs i b (h i b hb)),
  fun i y b h1 h2=>g.new i y b (h i y h1) h2,fun i j b h1 h2=>g.inj i j b (hsub' i h1) (hsub' j h2),g.rx0,fun s=>bz.mono hk hρ (g.wfs s) (g.slt s),fun gg n f hg => ?_,fun s=>⟨(g.kept s).1,bz.mono hk hρ (g.kept s).1 (g.kept s).2⟩⟩
 obtain ⟨h1,h2⟩:=g.glb gg n f hg;refine ⟨(hk gg h1).1,fun j hj => ?_⟩;grind [bo,bo.mono]
def oS (S:Env) (rs:List ResultVar) (X:SV) (bx':Nat→Option Bx) (nx':Nat) (kf:Nat→SV) (st:St):Prop :=
 match kn S st rs with
 | some (p,xs)=>p∧JT xs=X∧VQ bx' st.bx∧st.nx=nx'∧st.kf=kf∧X.lt nx'
 | none=>False
def FU (S:Env) (rs:List ResultVar) (X:SV) (bx':Nat→Option Bx) (nx':Nat) (kf:Nat→SV):AExit→St→Prop
 | .ret,st=>oS S rs X bx' nx' kf st
 | .normal,st=>oS S rs X bx' nx' kf st
 | _,_=>False
theorem IV {S:Env} {rs:List ResultVar} {X:SV} {bx':Nat→Option Bx} {nx':Nat} {kf:Nat→SV} {st:St}:FU S rs X bx' nx' kf .ret st=oS S rs X bx' nx' kf st:=rfl
theorem Aj {S:Env} {rs:List ResultVar} {X:SV} {bx':Nat→Option Bx} {nx':Nat} {kf:Nat→SV} {st:St}:FU S rs X bx' nx' kf .normal st=oS S rs X bx' nx' kf st:=rfl
attribute [go_sem] IV Aj oS
theorem ku {f : FuncId} {fn : Func} {c : Code} {rs : List ResultVar} {args : List BV} {X : SV} {bx bx' : Nat → Option Bx} {nx nx' : Nat} (hf : S.P.funcs[f]? = some fn) (hb : fn.body = some c) (hrs : fn.results.toList = rs)
  (hname : (fn.name == "runtime.NumGoroutine") = false) (hm : S.P.follows .mixedOrders = true) (hN : dk fn.ntmps c = true) (hlen : args.length ≤ fn.ntmps) (hl : ∀ x ∈ args, BV.lt nx x)
  (h:∀ kf,cw S c (FU S rs X bx' nx' kf) (Jf args bx nx kf)):lU S bx nx f args X bx' nx':=by
 subst hrs;refine ⟨⟨fn,hf,hname,by grind⟩,fun E st ρ a w vs hbx hnx g hsz hden => ?_⟩;refine calls_of_wp hf hb ?_;subst hbx;subst hnx
 let E2:Ent := { w0:=E.w0,ok0:=E.ok0,rx:=E.rx,N:=fn.ntmps,kp:=fun s=>if s % 2=0 then a.tmps.getD (s / 2) undef else E.kp (s / 2) }
 let kf:Nat→SV:=fun s=>if s % 2=0 then st.fr (s / 2) else st.kf (s / 2)
 have g2:Gam S E2 (Jf args st.bx st.nx kf) ρ { tmps:=vs ++ Array.replicate (fn.ntmps - vs.size) undef,defers:=[] } w:=by
  refine ⟨rfl,by grind,⟨g.frm.os,g.frm.tape,g.frm.output,g.frm.size,g.frm.block,g.frm.rxb⟩,fun s => ?_,g.wfb,g.bxs,g.new,g.inj,g.rx0,fun s => ?_,g.glb,fun s => ?_⟩
  ·simp only [Jf,cz];split
   ·rename_i hs;refine hl _ ?_;grind
   ·trivial
  ·simp only [Jf,cz];split
   ·rename_i hs;have e:(vs ++ Array.replicate (fn.ntmps - vs.size) undef).getD s undef=vs.getD s undef:=by
     have:s<vs.size:=by omega
     simp [this];rw [Array.getElem?_append_left this];simp [this]
    rw [e];exact hden (s - 0)
   ·trivial
  ·show (kf s).lt st.nx∧bz ρ (bR E st.bx ρ w) w (kf s) (E2.kp s);simp only [kf,E2];split
   ·exact ⟨g.wfs _,g.slt _⟩
   ·exact g.kept _
 have fin : ∀ {a' : Act} {w' : World}, lu S E2 (oS S fn.results.toList X bx' nx' kf) a' w' → a'.defers = [] ∧ ∃ v, (results fn a'.tmps).run S.P w' = .ok v w' ∧
   ∃ v2 ρ',Ending.returned v = .returned v2∧bz ρ' (bR E bx' ρ' w') w' X v2∧X.lt nx'∧Gam S E ⟨st.fr,bx',nx',st.kf⟩ ρ' a w':=fun {a' w'} ⟨st',ρ',g',hq⟩=>by
  unfold oS at hq;split at hq
  ·rename_i p xs hr;obtain ⟨hp,hX,hbx',hnx',hkf,hXl⟩:=hq;obtain ⟨vs2,hvs,hl2,hd⟩:=jK g' hr hp;obtain ⟨v,hv1,hv2⟩:=rh hvs hl2 hd;subst hX;subst hnx';have g'':=g'.subBox bx' hbx';have hkk:gy (bR E2 st'.bx ρ' w') (bR E2 bx' ρ' w') w' w':=vL hbx';have hv3:=bz.mono hkk (fun (_:Nat) (_:_<st'.nx)=>rfl) hXl hv2;refine ⟨g'.dfr,v,hv1,v,ρ',rfl,hv3,hXl, ?_⟩;have hk0:∀ s,(st.fr s).lt st'.nx∧bz ρ' (bR E bx' ρ' w') w' (st.fr s) (a.tmps.getD s undef):=fun s=>by
    have:=g''.kept (2 * s);dsimp only at this;rw [hkf] at this;have e1:2 * s % 2=0:=by omega
    have e2:2 * s / 2=s:=by omega
    simp only [kf,E2,e1,e2,if_true] at this;exact this
   have hk1:∀ s,(st.kf s).lt st'.nx∧bz ρ' (bR E bx' ρ' w') w' (st.kf s) (E.kp s):=fun s=>by
    have:=g''.kept (2 * s+1);dsimp only at this;rw [hkf] at this;have e1:¬ (2 * s+1) % 2=0:=by omega
    have e2:(2 * s+1) / 2=s:=by omega
    simp only [kf,E2,e1,e2,if_false] at this;exact this
   exact ⟨g.dfr,g.sz,⟨g''.frm.os,g''.frm.tape,g''.frm.output,g''.frm.size,g''.frm.block,g''.frm.rxb⟩,fun s=>(hk0 s).1,g''.wfb,g''.bxs,g''.new,g''.inj,g''.rx0,fun s=>(hk0 s).2,g''.glb,hk1⟩
  grind
 refine wp_mono (ft hm c hN (h kf) g2) fun e a' w' hq => ?_;cases e with
 | normal=>exact fin hq
 | ret=>exact fin hq
 | exit id=>obtain ⟨_,_,_,h⟩:=hq;exact h.elim
 | _=>exact hq.elim
end
def vO (o:Oper):Bool:=o.guard.isNone && match o.op with
 | .call c=>match c.callee,c.args.toList with
  | .builtin .append,[.const (.slice none 0 0),_]=>true
  | _,_=>false
 | _=>false
def zW (ops:Array Oper) (x y:Oper):Bool :=
 (match x.dst with|some d => !(bE ops y).contains d|none=>true) && (match y.dst with|some d => !(bE ops x).contains d|none=>true) &&
 (match x.dst,y.dst with|some d,some e=>d != e|_,_=>true) && zY x && vO y
section
variable {S:Env} {ops:Array Oper} {st s1 s2 s':St}
theorem ID {o:Oper} (ha:vO o=true) (h:Ex S ops st o s'):∀ i,i≠st.nx→s'.bx i=st.bx i:=by
 intro i hi;simp only [vO,Bool.and_eq_true,Option.isNone_iff_eq_none] at ha;obtain ⟨hg,ha⟩:=ha;unfold Ex eX at h;rw [hg] at h;simp only [jM] at h;split at ha
 ·rename_i c ho;obtain ⟨cal,⟨al⟩,⟨tl⟩⟩:=c;simp only at ha;split at ha
  ·rename_i y;rw [ho] at h;have hro:ro S st.bx (st.ev S) (.call ⟨.builtin .append,⟨[.const (.slice none 0 0),y]⟩,⟨tl⟩⟩)=none:=by simp [ro,bA]
   rw [hro] at h;have h2:=h.2;have hev:(st.ev S (.const (.slice none 0 0))).strip = .b (.c (.p (.val (.slice none 0 0)))):=rfl;unfold dX at h2;simp only at h2;split at h2
   ·grind [St.newBox,dG]
   all_goals grind
  ·cases ha
 ·cases ha
theorem wK {lb:Nat} {x y:Oper} (hi:zW ops x y=true) (w:iT lb st) (h1:Ex S ops st x s1) (h2:Ex S ops s1 y s2):∃ s3,Ex S ops st y s3∧Ex S ops s3 x s2:=by
 simp only [zW,Bool.and_eq_true] at hi;obtain ⟨⟨⟨⟨hxy,hyx⟩,hdd⟩,hl⟩,ha⟩:=hi;have hab:=ID ha h2;simp only [zY,Bool.and_eq_true,Option.isNone_iff_eq_none] at hl;obtain ⟨hxg,hl⟩:=hl;split at hl
 case h_2=>cases hl
 rename_i t q hxo;obtain ⟨v1,b1,n1,e1,k1,p1,z1⟩:=eB h1;have hc1:mY S.rcv x≤1:=by simp [mY,eE,hxo]
 obtain ⟨rfl,rfl⟩:=k1 hc1;obtain ⟨v2,b2,n2,e2,k2,p2,z2⟩:=eB h2;have hs1:s1.bx=st.bx∧s1.nx=st.nx:=by rw [e1];exact ⟨dG,jb⟩
 have ag1:∀ t ∈ bE ops y,s1.fr t=st.fr t:=by rw [e1];exact fR (nx':=0) (bx':=st.bx) hxy
 have q2:=p2 st ag1 hs1.1.symm hs1.2.symm;refine ⟨_,q2, ?_⟩;have comm:s2=St.set (St.set ⟨st.fr,b2,n2,st.kf⟩ y.dst v2) x.dst v1:=by
  rw [e2,e1];simp only [cP,St.mk.injEq,and_true];funext s;by_cases c1:some s=x.dst
  ·grind
  ·grind
 have hbx:∀ i y',st.bx i=some y'→b2 i=some y':=fun i y' hi=>by
  have hne:i≠s1.nx:=by
   rw [hs1.2];intro e;have:=w.1 i (by omega);rw [this] at hi;cases hi
  simp_all [dG]
 have ag2:∀ t ∈ bE ops x,(St.set ⟨st.fr,b2,n2,st.kf⟩ y.dst v2).fr t=st.fr t:=fR (nx':=0) (bx':=st.bx) hyx;have hevq:(St.set ⟨st.fr,b2,n2,st.kf⟩ y.dst v2).ev S q=st.ev S q :=
  (eo (S:=S) (ops:=ops) (o:=x) (fun t ht=>(ag2 t ht).symm) q (by grind [Op.operands])).symm
 unfold Ex eX at h1 ⊢;rw [hxg] at h1 ⊢;simp only [jM,hxo,pH] at h1 ⊢;rw [hevq,dG];cases hr:ef S t st.bx (st.ev S q).strip with
 | none=>grind [rc,dX]
 | some r =>
  grind [rc,St.set,FV]
end
def lg (rcv:Nat→Bool) (ops:Array Oper) (m:Nat→Nat) (listed:Array Bool) (p:Nat):Bool :=
 match ops[p]? with
 | none=>false
 | some x=>(List.range ops.size).all fun i=>listed.getD i true || Nat.beq i p || ((m i).testBit p && Nat.blt p i) || (match ops[i]? with
  | some o=>tY rcv ops x o || qT rcv ops x o || vl ops x o || zW ops x o
  | none=>false)
section
variable {S:Env} {ops:Array Oper} {st:St}
theorem Ba {rcv:Nat→Bool} {m:Nat→Nat} {listed:Array Bool} {i p:Nat} (hi:i<listed.size) (h:lg rcv ops m listed p=true):lg rcv ops m (listed.setIfInBounds i true) p=true:=by
 unfold lg at h ⊢;split at h
 ·cases h
 ·refine List.all_eq_true.2 fun k hk => ?_;have:=List.all_eq_true.1 h k hk;simp only [Bool.or_eq_true] at this ⊢;rw [nM hi];grind
theorem Ad {m : Nat → Nat} {x : Oper} {p : Nat} (hm : cn ops m = true) (hed : ∀ i o, ops[i]? = some o → ∀ e ∈ o.after, Region.binds .any e = true → e.on < i) (hx : ops[p]? = some x) {K : St → Prop} : ∀ (fuel : Nat) (listed : Array Bool) (st : St),
  listed.size=ops.size→fP ops listed→lg S.rcv ops m listed p=true→p ∈ Region.ready .any ops listed→iT 0 st→(∃ s,Ex S ops st x s∧gP S ops fuel (listed.setIfInBounds p true) s K)→gP S ops (fuel+1) listed st K:=by
 intro fuel
 induction fuel with
 | zero =>
  intro listed st hs hcl hp hr hw ⟨s,h1,h2⟩;have hplt:=fu hs hr;refine ⟨fun hno=>(by grind),fun i hi => ?_⟩;by_cases e:i=p
  ·grind [eX,iC]
  ·have:=gR hs (by omega) hi e;rw [h2.1] at this;grind
 | succ f ih =>
  intro listed st hs hcl hp hr hw ⟨s,h1,h2⟩;have hplt:=fu hs hr;obtain ⟨_,_,hpl,_⟩:=(cu hs).1 hr;refine ⟨fun hno=>(by grind),fun i hi => ?_⟩;by_cases e:i=p
  ·grind [eX,iC]
  obtain ⟨o,ho,hl,hdep⟩:=(cu hs).1 hi;have hlt:=fu hs hi;rw [ho];have h3:=h2.2 i (gR hs (by omega) hi e);rw [ho] at h3;obtain ⟨s2,h4,h5⟩:=lf h3;have hsw:∃ s3,Ex S ops st o s3∧Ex S ops s3 x s2:=by
   have hq:=hp;unfold lg at hq;rw [hx] at hq;have hq:=List.all_eq_true.1 hq i (List.mem_range.2 hlt);rw [ho] at hq;simp only [Bool.or_eq_true,Nat.beq_eq,Bool.and_eq_true] at hq;rcases hq with ((q|q)|q)|q
   ·grind
   ·omega
   ·exact absurd hi (sY hm hs hed hcl (by simp_all) q.1 hpl)
   ·grind [va,jO,mO,wK]
  obtain ⟨s3,h6,h7⟩:=hsw;grind [iC,iA,Ba,gR,tJ,vM]
end
def AL (rcv:Nat→Bool) (ops:Array Oper) (m:Nat→Nat) (listed:Array Bool):Tr→Bool
 | .leaf=>Region.ready .any ops listed == []
 | .nil=>false
 | .br i t r=>Region.ready .any ops listed == eK (.br i t r) || (eK r == [] && (Region.ready .any ops listed).contains i && lg rcv ops m listed i)
def EO (rcv:Nat→Bool) (ops:Array Oper) (m:Nat→Nat):Array Bool→Tr→Bool
 | _, .leaf=>true
 | _, .nil=>true
 | listed, .br i t r=>Nat.blt i ops.size && AL rcv ops m (listed.setIfInBounds i true) t && EO rcv ops m (listed.setIfInBounds i true) t && EO rcv ops m listed r
section
variable {S:Env} {l:List Oper} {m:Nat→Nat}
theorem wQ {t:Tr} {listed:Array Bool} (hn:AL S.rcv l.toArray m listed t=true):∀ i ∈ eK t,i ∈ Region.ready .any l.toArray listed:=by
 cases t with
 | leaf=>intro i hi;cases hi
 | nil=>cases hn
 | br k t r =>
  grind [eK,AL]
theorem xB (hm : cn l.toArray m = true) (hf : lL l.toArray = true) {t : Tr} {listed : Array Bool} {fuel : Nat} {st : St} {K : St → Prop} (hs : listed.size = l.toArray.size) (hcl : fP l.toArray listed) (hw : iT 0 st)
  (hn:AL S.rcv l.toArray m listed t=true) (h:fL S l.toArray l t st K) (hd:iD t≤fuel)
  (hal : ∀ f, fuel = f + 1 → ∀ i ∈ eK t, match l.toArray[i]? with
    | some o=>eX S l.toArray st o fun st'=>gP S l.toArray f (listed.setIfInBounds i true) st' K
    | none=>gP S l.toArray f (listed.setIfInBounds i true) st K):gP S l.toArray fuel listed st K:=by
 have hsub:=wQ hn;cases t with
 | leaf =>
  have hr:Region.ready .any l.toArray listed=[]:=by simpa [AL] using hn
  cases fuel with
  | zero=>exact ⟨hr,h⟩
  | succ f=>exact ⟨fun _=>h,fun i hi=>by grind⟩
 | nil=>cases hn
 | br i t r =>
  cases fuel with
  | zero=>grind [iD]
  | succ f =>
   have hi:i ∈ Region.ready .any l.toArray listed:=hsub i (by grind [eK]);simp only [AL,Bool.or_eq_true,Bool.and_eq_true,beq_iff_eq] at hn;rcases hn with hn|hn
   ·exact ⟨fun h0=>by grind,fun j hj=>hal f rfl j (by grind)⟩
   ·have:=hal f rfl i (by grind [eK]);grind [cu,Ad,qC,lg,lf,eX]
theorem qp (hm : cn l.toArray m = true) (hf : lL l.toArray = true) {K : St → Prop} : ∀ (t : Tr) (listed : Array Bool) (fuel : Nat) (st : St), listed.size = l.toArray.size → fP l.toArray listed → iT 0 st → (∀ i ∈ eK t, i ∈ Region.ready .any l.toArray listed) →
  EO S.rcv l.toArray m listed t = true → fL S l.toArray l t st K → iD t ≤ fuel + 1 → ∀ i ∈ eK t, match l.toArray[i]? with
    | some o=>eX S l.toArray st o fun st'=>gP S l.toArray fuel (listed.setIfInBounds i true) st' K
    | none=>gP S l.toArray fuel (listed.setIfInBounds i true) st K
 | .leaf,_,_,_,_,_,_,_,_,_,_,i,hi=>by cases hi
 | .nil,_,_,_,_,_,_,_,_,_,_,i,hi=>by cases hi
 | .br k t r,listed,fuel,st,hs,hcl,hw,hsub,hok,h,hd,i,hi=>by
  have hkr:k ∈ Region.ready .any l.toArray listed:=hsub k (by grind [eK]);simp only [EO,Bool.and_eq_true] at hok;obtain ⟨⟨⟨hk,hn⟩,ht⟩,hr⟩:=hok;simp only [iD] at hd;rcases List.mem_cons.1 hi with rfl|hi
  ·have hlt:i<l.toArray.size:=by simp [Nat.blt] at hk ⊢;omega
   have hget:l.toArray[i]?=some (l.getD i default):=by
    have hlt2:i<l.length:=by simpa using hlt
    rw [List.getElem?_toArray,List.getD_eq_getElem?_getD,List.getElem?_eq_getElem hlt2];rfl
   rw [hget];obtain ⟨s,h1,h2⟩:=lf h.1;refine iC h1 ?_;have hs2:(listed.setIfInBounds i true).size=l.toArray.size:=by simpa using hs
   have hcl2:=iA hs (qC hf) hcl hkr;exact xB hm hf hs2 hcl2 (tJ h1 hw) hn h2 (by omega) fun f hf2 j hj=>qp hm hf t _ f s hs2 hcl2 (tJ h1 hw) (wQ hn) ht h2 (by omega) j hj
  ·exact qp hm hf r listed fuel st hs hcl hw (fun j hj=>hsub j (by grind [eK])) hr h.2 (by omega) i hi
theorem wI {t : Tr} {st : St} {K : St → Prop} (hok : (lL l.toArray && cn l.toArray m && AL S.rcv l.toArray m (Array.replicate l.toArray.size false) t && EO S.rcv l.toArray m (Array.replicate l.toArray.size false) t && Nat.ble (iD t) l.toArray.size) = true) (hw : iT 0 st) (h : fL S l.toArray l t st K) :
  gP S l.toArray l.toArray.size (Array.replicate l.toArray.size false) st K:=by
 simp only [Bool.and_eq_true] at hok;obtain ⟨⟨⟨⟨hf,hm⟩,h1⟩,h2⟩,h3⟩:=hok;have h3:=Nat.le_of_ble_eq_true h3;have hs:(Array.replicate l.toArray.size false).size=l.toArray.size:=by simp
 have hcl:fP l.toArray (Array.replicate l.toArray.size false):=fun i o ho hi=>by
  exfalso;have hlt:i<l.toArray.size:=by
   rcases Nat.lt_or_ge i l.toArray.size with h|h
   ·exact h
   ·grind
  unfold jR at hi;simp_all
 grind [xB,qp,wQ]
end
section
variable {S:Env} {l:List Oper}
theorem lk {id : Nat} {y : Code} {Q : AExit → St → Prop} {st : St} (t : Tr)
  (hok:(lL l.toArray && cn l.toArray (fun i=>(Region.before l.toArray).getD i 0) && AL S.rcv l.toArray (fun i=>(Region.before l.toArray).getD i 0) (Array.replicate l.toArray.size false) t && EO S.rcv l.toArray (fun i=>(Region.before l.toArray).getD i 0) (Array.replicate l.toArray.size false) t && Nat.ble (iD t) l.toArray.size)=true)
  (hw:iT 0 st) (h:∀ K:St→Prop,(∀ s,cw S y Q s→K s)→fL S l.toArray l t st K):cw S (.seq (.region id l.toArray true) y) Q st:=by
 grind [ec,iL,Wk,cw,gP,wI]
theorem rQ {id : Nat} {Q : AExit → St → Prop} {st : St} (t : Tr)
  (hok:(lL l.toArray && cn l.toArray (fun i=>(Region.before l.toArray).getD i 0) && AL S.rcv l.toArray (fun i=>(Region.before l.toArray).getD i 0) (Array.replicate l.toArray.size false) t && EO S.rcv l.toArray (fun i=>(Region.before l.toArray).getD i 0) (Array.replicate l.toArray.size false) t && Nat.ble (iD t) l.toArray.size)=true)
  (hw:iT 0 st) (h:∀ K:St→Prop,(∀ s,Q .normal s→K s)→fL S l.toArray l t st K):cw S (.region id l.toArray true) Q st:=by
 grind [cw,gP,wI]
end
structure Hold (p:Prop):Prop where
 out:p
theorem dJ {p:Prop} (h:p):Hold p:=⟨h⟩
theorem iS {K:St→Prop} {P:St→Prop} (h:∀ s,P s→K s):∀ s,Hold (P s)→K s:=fun s q=>h s q.out
theorem cA {α:Type} {i j:Nat} {a b:α} (h:i≠j):(if i=j then a else b)=b:=if_neg h
theorem dv {bx:Nat→Option Bx} {n:Nat} {x:Bx} (h:bx n=some x):bx=aJ n x bx:=by grind [aJ]
end
section
def Yo (l:List (Nat × SV)) (b:List (Nat × Bx)) (nx:Nat) (kf:Nat→SV):St:=⟨lW l,js b,nx,kf⟩
theorem Vh {l:List (Nat × SV)} {b:List (Nat × Bx)} {nx s:Nat} {kf:Nat→SV}:(Yo l b nx kf).fr s=lW l s:=rfl
theorem Uy {l:List (Nat × SV)} {b:List (Nat × Bx)} {nx:Nat} {kf:Nat→SV}:(Yo l b nx kf).bx=js b:=rfl
theorem TD {l:List (Nat × SV)} {b:List (Nat × Bx)} {nx:Nat} {kf:Nat→SV}:(Yo l b nx kf).nx=nx:=rfl
theorem TY {l:List (Nat × SV)} {b:List (Nat × Bx)} {nx:Nat} {kf:Nat→SV}:(Yo l b nx kf).kf=kf:=rfl
attribute [go_sem] Vh Uy TD TY
section
variable {r:Nat→Option Nat} {bx bx':Nat→Option Bx} {n:Nat}
theorem vv (hr:∀ id,id<n→r id=some id):∀ {x:CV},x.lt n→Bq r bx bx' x x
 | .p x,_=>by
  cases x with
  | any=>trivial
  | _=>exact .inl rfl
 | .ptr id off,h=>⟨hr id h,rfl⟩
 | .pel id _ _ _,h=>⟨hr id h,rfl,rfl,rfl⟩
 | .own id _,h=>⟨hr id h,rfl⟩
 | .ipt _ _ _,_=>⟨rfl,rfl, .inl rfl⟩
 | .sub id _ _ _,h=>⟨hr id h,rfl,rfl,rfl⟩
 | .clo f ps,h=>⟨rfl,rfl,List.map_congr_left fun p hp=>hr p.1 (h p hp)⟩
theorem vZ (hr:∀ id,id<n→r id=some id):∀ {l:List CV},(∀ x ∈ l,CV.lt n x)→GI r bx bx' l l
 | [],_=>trivial
 | x :: l,h=>⟨vv hr (h x (List.mem_cons_self ..)),vZ hr fun y hy=>h y (List.mem_cons_of_mem _ hy)⟩
theorem Ke (hr:∀ id,id<n→r id=some id):∀ {x:SV},x.lt n→Br r bx bx' x x
 | .b x,h=>by
  rw [Sj];cases x with
  | c x=>rw [RZ];exact vv hr h
  | agg l=>exact vZ hr h
 | .tup vs,h=>⟨rfl,n,h,hr⟩
 | .grd p x,h=>⟨rfl,n,h,hr⟩
 | .any,_=>by rw [vi];trivial
end
def FG (S:Env) (rs:List ResultVar) (X:SV) (bx':Nat→Option Bx) (nx':Nat) (kf:Nat→SV) (e:AExit) (st:St):Prop:=Wk (FU S rs X bx' nx' kf e) st
theorem Hv {S:Env} {rs:List ResultVar} {X:SV} {bx':Nat→Option Bx} {nx':Nat} {kf:Nat→SV} {st:St}:FG S rs X bx' nx' kf .ret st=Wk (oS S rs X bx' nx' kf) st:=rfl
theorem rn {S:Env} {rs:List ResultVar} {X:SV} {bx':Nat→Option Bx} {nx':Nat} {kf:Nat→SV} {st:St}:FG S rs X bx' nx' kf .normal st=Wk (oS S rs X bx' nx' kf) st:=rfl
attribute [go_sem] Hv rn
section
variable {S:Env}
theorem Qv {f : FuncId} {fn : Func} {c : Code} {rs : List ResultVar} {args : List BV} {X : SV} {bx bx' : Nat → Option Bx} {nx nx' : Nat} (hf : S.P.funcs[f]? = some fn) (hb : fn.body = some c) (hrs : fn.results.toList = rs)
  (hname : (fn.name == "runtime.NumGoroutine") = false) (hm : S.P.follows .mixedOrders = true) (hN : dk fn.ntmps c = true) (hlen : args.length ≤ fn.ntmps) (hl : ∀ x ∈ args, BV.lt nx x)
  (h:∀ kf:Nat→SV,(∀ s,(kf s).lt nx)→cw S c (FG S rs X bx' nx' kf) (Jf args bx nx kf)):lU S bx nx f args X bx' nx':=by
 subst hrs;refine ⟨⟨fn,hf,hname,by rw [hb];rfl⟩,fun E st ρ a w vs hbx hnx g hsz hden => ?_⟩;refine calls_of_wp hf hb ?_;subst hbx;subst hnx
 let E2:Ent := { w0:=E.w0,ok0:=E.ok0,rx:=E.rx,N:=fn.ntmps,kp:=fun s=>if s % 2=0 then a.tmps.getD (s / 2) undef else E.kp (s / 2) }
 let kf:Nat→SV:=fun s=>if s % 2=0 then st.fr (s / 2) else st.kf (s / 2)
 have hkl:∀ s,(kf s).lt st.nx:=fun s=>by
  simp only [kf];split
  ·exact g.wfs _
  ·exact (g.kept _).1
 have g2:Gam S E2 (Jf args st.bx st.nx kf) ρ { tmps:=vs ++ Array.replicate (fn.ntmps - vs.size) undef,defers:=[] } w:=by
  refine ⟨rfl,by simp [E2];omega,⟨g.frm.os,g.frm.tape,g.frm.output,g.frm.size,g.frm.block,g.frm.rxb⟩,fun s => ?_,g.wfb,g.bxs,g.new,g.inj,g.rx0,fun s => ?_,g.glb,fun s => ?_⟩
  ·simp only [Jf,cz];split
   ·rename_i hs;refine hl _ ?_;rw [List.getD_eq_getElem?_getD,List.getElem?_eq_getElem (by omega)];exact List.getElem_mem _
   ·trivial
  ·simp only [Jf,cz];split
   ·rename_i hs;have e:(vs ++ Array.replicate (fn.ntmps - vs.size) undef).getD s undef=vs.getD s undef:=by
     have:s<vs.size:=by omega
     simp [this];rw [Array.getElem?_append_left this];simp [this]
    rw [e];exact hden (s - 0)
   ·trivial
  ·show (kf s).lt st.nx∧bz ρ (bR E st.bx ρ w) w (kf s) (E2.kp s);simp only [kf,E2];split
   ·exact ⟨g.wfs _,g.slt _⟩
   ·exact g.kept _
 have fin : ∀ {a' : Act} {w' : World}, lu S E2 (oS S fn.results.toList X bx' nx' kf) a' w' → a'.defers = [] ∧ ∃ v, (results fn a'.tmps).run S.P w' = .ok v w' ∧
   ∃ v2 ρ',Ending.returned v = .returned v2∧bz ρ' (bR E bx' ρ' w') w' X v2∧X.lt nx'∧Gam S E ⟨st.fr,bx',nx',st.kf⟩ ρ' a w':=fun {a' w'} ⟨st',ρ',g',hq⟩=>by
  unfold oS at hq;split at hq
  ·rename_i p xs hr;obtain ⟨hp,hX,hbx',hnx',hkf,hXl⟩:=hq;obtain ⟨vs2,hvs,hl2,hd⟩:=jK g' hr hp;obtain ⟨v,hv1,hv2⟩:=rh hvs hl2 hd;subst hX;subst hnx';have g'':=g'.subBox bx' hbx';have hkk:gy (bR E2 st'.bx ρ' w') (bR E2 bx' ρ' w') w' w':=vL hbx';have hv3:=bz.mono hkk (fun (_:Nat) (_:_<st'.nx)=>rfl) hXl hv2;refine ⟨g'.dfr,v,hv1,v,ρ',rfl,hv3,hXl, ?_⟩;have hk0:∀ s,(st.fr s).lt st'.nx∧bz ρ' (bR E bx' ρ' w') w' (st.fr s) (a.tmps.getD s undef):=fun s=>by
    have:=g''.kept (2 * s);dsimp only at this;rw [hkf] at this;have e1:2 * s % 2=0:=by omega
    have e2:2 * s / 2=s:=by omega
    simp only [kf,E2,e1,e2,if_true] at this;exact this
   have hk1:∀ s,(st.kf s).lt st'.nx∧bz ρ' (bR E bx' ρ' w') w' (st.kf s) (E.kp s):=fun s=>by
    have:=g''.kept (2 * s+1);dsimp only at this;rw [hkf] at this;have e1:¬ (2 * s+1) % 2=0:=by omega
    have e2:(2 * s+1) / 2=s:=by omega
    simp only [kf,E2,e1,e2,if_false] at this;exact this
   exact ⟨g.dfr,g.sz,⟨g''.frm.os,g''.frm.tape,g''.frm.output,g''.frm.size,g''.frm.block,g''.frm.rxb⟩,fun s=>(hk0 s).1,g''.wfb,g''.bxs,g''.new,g''.inj,g''.rx0,fun s=>(hk0 s).2,g''.glb,hk1⟩
  ·exact hq.elim
 refine wp_mono (ft hm c hN (h kf hkl) g2) fun e a' w' hq => ?_;cases e with
 | normal=>obtain ⟨s1,ρ1,g1,hk⟩:=hq;exact fin (Wk.nxt hk g1)
 | ret=>obtain ⟨s1,ρ1,g1,hk⟩:=hq;exact fin (Wk.nxt hk g1)
 | exit id=>obtain ⟨_,_,_,_,_,h⟩:=hq;exact h.elim
 | _=>exact hq.elim
end
end
end Go.SL
namespace Go.Proofs.YtcbifofjjpfbcaaGreatDoor
open Go Go.SL
open Go.RowKit (wrap64)
attribute [go_sem ↓] reduceIte
attribute [go_sem] Nat.reduceEqDiff Nat.reduceAdd Nat.reduceMul Nat.reduceSub Nat.reduceMod Nat.reduceLeDiff Nat.reduceLT Nat.reduceBEq reduceCtorEq Int.reduceLT Int.reduceLE Int.reduceToNat Int.reduceEq Int.reduceAdd
attribute [go_sem] decide_true decide_false implies_true beq_true beq_false Bool.not_eq_true' decide_eq_true_eq decide_eq_false_iff_not Bool.and_eq_true not_false_eq_true forall_const imp_self and_self beq_iff_eq bne_iff_ne true_or or_true false_or or_false Nat.le_refl ne_eq Option.some.injEq fY XT nW Cf JJ XY
theorem ai {p:Prop} (h:p:=by first|assumption|omega|trivial|exact (fun h=>h)|exact (fun hg=>And.intro hg (fun h2=>And.intro hg h2))|(intro hg;refine And.intro hg ?_;(try simp only [Bool.or_eq_false_iff,Bool.not_eq_false',Bool.not_eq_true',Bool.and_eq_true,decide_eq_true_eq,decide_eq_false_iff_not] at hg);omega)):p:=h
theorem gL:(∀ (p:Prop) [Decidable p],(decide p=true)=p)∧(∀ (p:Prop) [Decidable p],(decide p=false)↔¬p)∧(∀ (α:Type) [BEq α] [LawfulBEq α] (a b:α),((a == b)=true)↔a=b)∧(∀ (α:Type) [BEq α] [LawfulBEq α] (a b:α),((a == b)=false)↔a≠b) ∧
 (∀ (α:Type) [BEq α] [LawfulBEq α] (a b:α),((a != b)=true)↔a≠b)∧(∀ (α:Type) [BEq α] [LawfulBEq α] (a b:α),((a != b)=false)↔a=b)∧(∀ (α:Type) (a b:α),(a≠b)=¬(a=b))∧(∀ b:Bool,(¬(b=true))=(b=false))∧(∀ b:Bool,(¬(b=false))=(b=true)) ∧
 ((!true)=false)∧((!false)=true)∧(∀ a b:Bool,((!a)=b)↔(a = !b))∧(∀ a b:Int,(¬ a<b)↔b≤a)∧(∀ a b:Int,(¬ a≤b)↔b<a)∧(∀ a b:Int,a>b↔b<a)∧(∀ a b:Int,a≥b↔b≤a)∧(∀ (α:Type) (b:Bool) (t e:α),(bif b then t else e)=if b=true then t else e) ∧
 (∀ (p:Prop) [Decidable p] (x:Bool),(if p then x else false)=(decide p && x))∧(∀ (p:Prop) [Decidable p] (x:Bool),(if p then true else x)=(decide p || x))∧(∀ a b:Bool,((a && b)=true)=(a=true∧b=true))∧(∀ a b:Bool,((a || b)=true)=(a=true∨b=true)) ∧
 (∀ a b:Bool,((a && b)=false)↔(a=true→b=false))∧(∀ a b:Bool,((a || b)=false)↔(a=false∧b=false))∧(∀ (p:Prop),[Decidable p]→((¬¬p)↔p))∧(∀ b:Bool,(b == true)=b)∧(∀ b:Bool,(b == false) = !b) ∧
 (∀ (p:Prop) [Decidable p] (a b:Bool),((if p then a else b)=true)=((p→a=true)∧(¬p→b=true)))∧(∀ (p:Prop) [Decidable p] (a b:Bool),((if p then a else b)=false)=((p→a=false)∧(¬p→b=false)))∧(∀ (α:Type) (a b:α),(bif true then a else b)=a)∧(∀ (α:Type) (a b:α),(bif false then a else b)=b) :=
 ⟨fun _ _=>decide_eq_true_eq,fun _ _=>decide_eq_false_iff_not,fun _ _ _ _ _=>beq_iff_eq,fun _ _ _ _ _=>beq_eq_false_iff_ne,fun _ _ _ _ _=>bne_iff_ne,fun _ _ _ _ _=>bne_eq_false_iff_eq,fun _ _ _=>ne_eq _ _,fun _=>Bool.not_eq_true _,fun _=>Bool.not_eq_false _,
 rfl,rfl,fun _ _=>Bool.not_eq_eq_eq_not,fun _ _=>Int.not_lt,fun _ _=>Int.not_le,fun _ _=>Iff.rfl,fun _ _=>Iff.rfl,fun _ b t e=>Bool.cond_eq_ite b t e,
 fun _ _ _=>Bool.if_false_right _ _,fun _ _ _=>Bool.if_true_left _ _,fun _ _=>Bool.and_eq_true _ _,fun _ _=>Bool.or_eq_true _ _,
 fun _ _=>Bool.and_eq_false_imp,fun _ _=>Bool.or_eq_false_iff,fun _ _=>Decidable.not_not,fun b=>by cases b <;> rfl,fun b=>by cases b <;> rfl,
 fun _ _ _ _=>ZU,fun _ _ _ _=>Zn,fun _ _ _=>rfl,fun _ _ _=>rfl⟩
theorem bq:True:=True.intro
theorem bM {α:Type} {a b:α} (h:a=b:=by (first|(simp (maxSteps:=999999)(disch:=omega) only [go_sem];rfl)|fail)):a=b:=h
theorem bU {p q:Prop} (h:q) (w:q→p:=by (first|(intro h;first|exact fV h|exact Nq h|exact cw_labels h|exact Dq h|((first|refine ML ?_|refine PG ?_|refine zP ?_);first|(simp (maxSteps:=999999)(disch:=omega) only [go_sem];exact h)|(have h0:True:=h;simp (maxSteps:=999999)(disch:=omega) only [go_sem])))|fail)):p:=w h
theorem ct {p q:Prop} (h:q) (w:q→p:=by (first|(intro h;(first|refine lP ?_|refine nV ?_);first|(simp (maxSteps:=999999)(disch:=omega) only [go_sem];exact h)|(have h0:True:=h;simp (maxSteps:=999999)(disch:=omega) only [go_sem]))|fail)):p:=w h
theorem an {p : Prop} {c : St → Prop} {q : (St → Prop) → Prop} (h : ∀ K : St → Prop, (∀ s, c s → K s) → q K)
  (w:(∀ K:St→Prop,(∀ s,c s→K s)→q K)→p:=by (first|(intro h;(first|refine ix (fun K hK => ?_)|refine RN (fun K hK => ?_)|refine MJ (by decide +kernel) (by decide +kernel) (fun K hK => ?_)|refine Kt (by decide +kernel) (by decide +kernel) (fun K hK => ?_));have h:=h K hK;(try simp (maxSteps:=999999)(disch:=omega) only [go_sem]);exact h)|fail)):p:=w h
theorem fc {vc c:Prop} {r:BV} {K:SV→Prop} {g:Bool} {nx:Nat} {p q':Prop} {q:Sl p} {s:St} (h:q') (w:q'→(r.lt nx∧(g=true→c∧vc)∧K (.grd g r)):=by (first|(intro h;first|(simp (maxSteps:=999999)(disch:=omega) only [go_sem];exact h)|exact h)|fail)):Yp (some g) nx (some (vc, .b r,s)) c (Sl.of K) q:=KQ (w h)
theorem aa {S:Env} {st:St} {f:FuncId} {args:List BV} {K:SV→St→Prop} {X:SV} {q:Prop} (h:aA S f args (fun r=>r=X)) (hk:q) (hl:gu args:=by simp (maxSteps:=999999)(disch:=omega) only [go_sem]) (w:q→K X st:=by (first|(intro h;first|(simp (maxSteps:=999999)(disch:=omega) only [go_sem];exact h)|exact h)|fail)):en S st f args (Sl.of K):=vb h hl (w hk)
theorem aw {S : Env} {st : St} {f : FuncId} {args : List BV} {X : BV} {g : Bool} {c : Prop} {d : Option Nat} {K : St → Prop} {q : Prop} (h : g = true → aA S f args (fun r => r = .b X)) (hk : q) (hl : gu args := by simp (maxSteps := 1000000) (disch := omega) only [go_sem]) (hx : X.lt st.nx := by simp (maxSteps := 1000000) (disch := omega) only [go_sem]) (hc : g = true → c := by simp (maxSteps := 1000000) (disch := omega) only [go_sem]; try omega)
  (w:q→K (st.set d (.grd g X)):=by (first|(intro h;first|(simp (maxSteps:=999999)(disch:=omega) only [go_sem];exact h)|exact h)|fail)):Vf (some g) c S st f args d (Sl.of K):=MU h hl hx hc (w hk)
theorem aK {t1 t2 q1 q2 p:Prop} (h1:t1→q1) (h2:t2→q2) (w:(t1→q1)→(t2→q2)→p:=by (first|(intro k1 k2;(first|apply zh|apply mW);(case hc=>simp (maxSteps:=999999)(disch:=omega) only [go_sem];rfl);(case h1=>first|(intro hb;simp only [gL] at hb;exact k1 hb)|(have k0:True→True:=k1;intro hb;simp only [gL] at hb;done)|(intro hb;exact k1 hb));(case h2=>first|(intro hb;simp only [gL] at hb;exact k2 hb)|(have k0:True→True:=k2;intro hb;simp only [gL] at hb;done)|(intro hb;exact k2 hb)))|fail)):p:=w h1 h2
theorem aE {p:Prop} (h:p:=by (first|(first|with_reducible exact True.intro|(exfalso;omega))|fail)):p:=h
theorem ni {S:Env} {st:St} {f:FuncId} {args:List BV} {K:SV→St→Prop} {X:SV} {q:Prop} (h:DO S f args X) (hk:q) (hl:gu args:=by simp (maxSteps:=999999)(disch:=omega) only [go_sem]) (w:q→K X st:=by (first|(intro h;first|(simp (maxSteps:=999999)(disch:=omega) only [go_sem];exact h)|exact h)|fail)):en S st f args (Sl.of K):=JQ h hl (w hk)
theorem ss : (∀ n : Nat, ((n : Int)).toNat = n) ∧ ((!true) = false) ∧ ((!false) = true) ∧ (∀ b : Bool, (b && true) = b) ∧ (∀ b : Bool, (true && b) = b) ∧ (∀ b : Bool, (b && false) = false) ∧ (∀ b : Bool, (false && b) = false) ∧
  (∀ b:Bool,(b || true)=true)∧(∀ b:Bool,(true || b)=true)∧(∀ b:Bool,(b || false)=b)∧(∀ b:Bool,(false || b)=b) :=
 ⟨Int.toNat_natCast,rfl,rfl,Bool.and_true,Bool.true_and,Bool.and_false,Bool.false_and,Bool.or_true,Bool.true_or,Bool.or_false,Bool.false_or⟩
theorem ah {E p q : Prop} (e : E) (h : q) (w : E → q → p := by (first | (intro e h; first
  | ((first|apply gw|apply nY);(case hc=>simp (maxSteps:=999999)(disch:=omega) only [go_sem];rfl);(case ht=>(simp only [ss,decide_true,decide_false,Int.reduceBEq,Int.reduceBNe,Int.reduceLT,Int.reduceLE,e];done));exact h)
  | ((first|apply oc|apply oB);(case hc=>simp (maxSteps:=999999)(disch:=omega) only [go_sem];rfl);(case ht=>(simp only [ss,decide_true,decide_false,Int.reduceBEq,Int.reduceBNe,Int.reduceLT,Int.reduceLE,e];done));exact h))|fail)):p:=w e h
theorem aD {f : FuncId} {fn : Func} {c : Code} {args : List BV} {R : SV → Prop} (hf : Sg.P.funcs[f]? = some fn) (rs : List ResultVar) (h : cw Sg c (Qx Sg rs R) (wP args)) (hb : fn.body = some c := by rfl) (hrs : fn.results.toList = rs := by rfl)
  (hname : (fn.name == "runtime.NumGoroutine") = false := by rfl) (hN : dk fn.ntmps c = true := by decide +kernel) (hlen : args.length ≤ fn.ntmps := by exact Nat.le_of_ble_eq_true rfl) (hl : gu args := by simp (maxSteps := 1000000) (disch := omega) only [go_sem]) : aA Sg f args R := QG hf hb hrs hname fG hN hlen (bS hl) h
theorem FD {n:Nat} {st:St} (h:iT n st:=by (first|(refine And.intro (fun iw hiw=>by ((try simp (maxSteps:=999999)(disch:=omega) only [go_sem] at hiw ⊢);(repeat (first|rfl|exact if_neg (by omega)|rw [if_neg (by omega)]));done)) (by first|exact Nat.zero_le _|(simp (maxSteps:=999999)(disch:=omega) only [go_sem];done)|(simp (maxSteps:=999999)(disch:=omega) only [go_sem];omega)|decide))|fail)):iT n st:=h
theorem au {st : St} {l : List (Nat × SV)} {b : List (Nat × Bx)} {nx : Nat} (r : List (Nat × Option Nat)) {q1 q2 : Prop} (h1 : q1) (h2 : q2) (h0 : xY r 0 = some 0 := by rfl) (hnx : 0 < nx := by decide) (hinj : HT (xY r) (b.map (·.1)) = true := by rfl)
  (w1:q1→ou (xY r) st (js b) nx l:=by (first|(intro h;first|(simp (maxSteps:=999999)(disch:=omega) only [go_sem];exact h)|(have h0:True:=h;simp (maxSteps:=999999)(disch:=omega) only [go_sem]))|fail)) (w2:q2→Cl (xY r) st (js b) nx b:=by (first|(intro h;first|(simp (maxSteps:=999999)(disch:=omega) only [go_sem];exact h)|(have h0:True:=h;simp (maxSteps:=999999)(disch:=omega) only [go_sem]))|fail)):Le st (aT l b nx):=Xu r h0 hnx hinj (w1 h1) (w2 h2)
theorem na {p:Prop} (h:p:=by (first|(simp (maxSteps:=999999)(disch:=omega) only [go_sem];done)|(simp (maxSteps:=999999)(disch:=omega) only [go_sem];rfl)|fail)):p:=h
theorem bG {p:Prop} (h:p:=by (first|(simp (maxSteps:=999999)(disch:=omega) only [go_sem];done)|fail)):p:=h
theorem CJ {p:Prop} (h:p:=by (first|(simp (maxSteps:=999999)(disch:=omega) only [go_sem];done)|(simp (maxSteps:=999999)(disch:=omega) only [go_sem];omega)|fail)):p:=h
theorem Nc {p:Prop} (h:p:=by (first|(simp (maxSteps:=999999)(disch:=omega) only [go_sem];done)|(simp (maxSteps:=999999)(disch:=omega) only [go_sem];rfl)|rfl|fail)):p:=h
theorem dz {p q:Prop} (h:q) (w:q→p:=by (first|(intro h;first|(simp (maxSteps:=999999)(disch:=omega) only [go_sem];exact h)|exact h)|fail)):p:=w h
theorem dK {n:Nat} {st:St} (h:iT n st:=by (first|(refine And.intro (fun iw hiw => ?_) ?_;(focus ((try simp (maxSteps:=999999)(disch:=omega) only [go_sem] at hiw ⊢);(repeat (refine Eq.trans (if_neg ?_) ?_;(focus omega)));(first|exact hw iw (by omega)|rfl)));(focus (first|exact Nat.zero_le _|(simp (maxSteps:=999999)(disch:=omega) only [go_sem];done)|(simp (maxSteps:=999999)(disch:=omega) only [go_sem];omega))))|exact FD|fail)):iT n st:=h
structure Hid (q:Prop):Prop where
 out:q
theorem YI {p q:Prop} (h:q) (w:Hid q→p:=by (first|(intro h;refine an (fun K hK => ?_);(repeat' (first|(refine hK _ ?_;exact h.out)|(with_reducible refine And.intro ?_ ?_)|exact ai|refine fc ?_|fail));done)|fail)):p:=w ⟨h⟩
theorem ax {p q:Prop} (h:q) (w:Hid q→p:=by (first|(intro h;refine bU ?_;exact h.out)|(intro h;refine ct ?_;exact h.out)|fail)):p:=w ⟨h⟩
theorem aC {p q:Prop} (h:q) (w:Hid q→p:=by (first|(intro h;refine bU ?_;exact h.out)|(intro h;refine YI ?_;exact h.out)|(intro h;refine ct ?_;exact h.out)|fail)):p:=w ⟨h⟩
theorem aq {p q:Prop} {K c:St→Prop} (hK:∀ s,c s→K s) (h:q) (w:Hid q→p:=by (first|(intro h;(first|(refine hK _ ?_;exact h.out)|((first|with_reducible refine And.intro ?_ ?_|refine fc ?_) <;> (repeat' (first|(refine hK _ ?_;exact h.out)|(with_reducible refine And.intro ?_ ?_)|exact ai|refine fc ?_|exact h.out|fail))));done)|fail)):p:=w ⟨h⟩
theorem Bi {p q:Prop} {K c d:St→Prop} (hK:∀ s,d s→c s→K s) (h:q) (w:Hid q→p:=by (first|(intro h;(first|(refine hK _ (by simp (maxSteps:=999999)(disch:=omega) only [go_sem]) ?_;exact h.out)|((first|with_reducible refine And.intro ?_ ?_|refine fc ?_) <;> (repeat' (first|(refine hK _ (by simp (maxSteps:=999999)(disch:=omega) only [go_sem]) ?_;exact h.out)|(with_reducible refine And.intro ?_ ?_)|exact ai|refine fc ?_|exact h.out|fail))));done)|fail)):p:=w ⟨h⟩
theorem IG {S : Env} {st : St} {id : Nat} {l : List Oper} {y : Code} {Q : AExit → St → Prop} (kl : List (Nat × Nat)) (hwf : iT (wL kl) st) (h : ∀ K : St → Prop, (∀ s, gN kl s → cw S y Q s → K s) → aY S l.toArray l st K) (hd : nH S.rcv l.toArray (fun i => (Region.before l.toArray).getD i 0) kl = true := by decide +kernel)
  (hm:cn l.toArray (fun i=>(Region.before l.toArray).getD i 0)=true:=by decide +kernel):cw S (.seq (.region id l.toArray true) y) Q st:=bT kl hd hm hwf h
theorem Tw {S : Env} {st : St} {id : Nat} {l : List Oper} {Q : AExit → St → Prop} (kl : List (Nat × Nat)) (hwf : iT (wL kl) st) (h : ∀ K : St → Prop, (∀ s, gN kl s → Q .normal s → K s) → aY S l.toArray l st K) (hd : nH S.rcv l.toArray (fun i => (Region.before l.toArray).getD i 0) kl = true := by decide +kernel)
  (hm:cn l.toArray (fun i=>(Region.before l.toArray).getD i 0)=true:=by decide +kernel):cw S (.region id l.toArray true) Q st:=iM kl hd hm hwf h
theorem aj {p:Prop} (h:p:=by first|rfl|omega|exact .inl rfl|trivial):p:=h
abbrev PI (x:Int):PV := .val (.int .i64 x)
abbrev PU (x:Int):PV := .val (.int .u16 x)
abbrev PB (x:Bool):PV := .val (.bool x)
abbrev I (x:Int):BV := .c (.p (.val (.int .i64 x)))
abbrev U (x:Int):BV := .c (.p (.val (.int .u16 x)))
abbrev B (x:Bool):BV := .c (.p (.val (.bool x)))
abbrev EI:PV := .val (.slice none 0 0)
abbrev ag (l:List PV):BV := .agg (l.map CV.p)
structure Rect where
 x0:Int
 y0:Int
 x1:Int
 y1:Int
 deriving DecidableEq,Inhabited
structure Op where
 kind:Int
 image:Int
 x:Int
 y:Int
 mask:Int
 maskX:Int
 maskY:Int
 opacity:Int
 operator:Int
 mode:Int
 isolated:Bool
 knockout:Bool
 deriving DecidableEq,Inhabited
structure Pixel where
 c0:Int
 c1:Int
 c2:Int
 a:Int
 f:Int
 deriving DecidableEq,Inhabited
structure Plane where
 w:Int
 h:Int
 stride:Int
 s:List Int
 deriving DecidableEq,Inhabited
structure Image where
 w:Int
 h:Int
 solid:Bool
 color:Pixel
 p0:Plane
 p1:Plane
 p2:Plane
 p3:Plane
 p4:Plane
 deriving DecidableEq,Inhabited
structure Script where
 bits:Int
 canvas:Rect
 tileW:Int
 tileH:Int
 order:List Int
 images:List Image
 ops:List Op
 deriving DecidableEq,Inhabited
structure Raw where
 kind:Int
 image:Int
 x:Int
 y:Int
 mask:Int
 maskX:Int
 maskY:Int
 opacity:Int
 operator:Int
 mode:Int
 flags:Int
 deriving DecidableEq,Inhabited
structure N5 where
 a:Int
 b:Int
 c:Int
 d:Int
 e:Int
 deriving DecidableEq,Inhabited
structure Row where
 mood:Int
 l:List N5
 deriving DecidableEq,Inhabited
structure Pic where
 w:Int
 h:Int
 solid:Int
 row:Row
 deriving DecidableEq,Inhabited
structure Scene where
 bits:Int
 x:Int
 y:Int
 w:Int
 h:Int
 tileW:Int
 tileH:Int
 order:List Int
 pics:List Pic
 ops:List Raw
 deriving DecidableEq,Inhabited
def He (n:Int):List PV:=[PI n]
def uC (n:Int):List PV:=[PU n]
def aQ (r:Rect):List PV:=[PI r.x0,PI r.y0,PI r.x1,PI r.y1]
def fZ (o:Op):List PV:=[PI o.kind,PI o.image,PI o.x,PI o.y,PI o.mask,PI o.maskX,PI o.maskY,PU o.opacity,PI o.operator,PI o.mode,PB o.isolated,PB o.knockout]
def aS (p:Pixel):List PV:=[PU p.c0,PU p.c1,PU p.c2,PU p.a,PU p.f]
def eI (l:List Int):PV := .lst 1 l.length (bK He l)
def lv (l:List Int):PV := .lst 1 l.length (bK uC l)
def fj (p:Plane):List PV:=[PI p.w,PI p.h,PI p.stride,lv p.s]
def aI (m:Image):List PV:=[PI m.w,PI m.h,PB m.solid,PU m.color.c0,PU m.color.c1,PU m.color.c2,PU m.color.a,PU m.color.f,
 PI m.p0.w,PI m.p0.h,PI m.p0.stride,lv m.p0.s,PI m.p1.w,PI m.p1.h,PI m.p1.stride,lv m.p1.s,PI m.p2.w,PI m.p2.h,PI m.p2.stride,lv m.p2.s,
 PI m.p3.w,PI m.p3.h,PI m.p3.stride,lv m.p3.s,PI m.p4.w,PI m.p4.h,PI m.p4.stride,lv m.p4.s]
def yU (l:List Op):PV := .lst 12 l.length (bK fZ l)
def tx (l:List Image):PV := .lst 28 l.length (bK aI l)
def pX (l:List Pixel):PV := .lst 5 l.length (bK aS l)
def aF (s:Script):List PV:=[PI s.bits,PI s.canvas.x0,PI s.canvas.y0,PI s.canvas.x1,PI s.canvas.y1,PI s.tileW,PI s.tileH,eI s.order,tx s.images,yU s.ops]
def NU (r:Raw):List PV:=[PI r.kind,PI r.image,PI r.x,PI r.y,PI r.mask,PI r.maskX,PI r.maskY,PI r.opacity,PI r.operator,PI r.mode,PI r.flags]
def Yq (n:N5):List PV:=[PI n.a,PI n.b,PI n.c,PI n.d,PI n.e]
def Yn (l:List N5):PV := .lst 5 l.length (bK Yq l)
def NY (r:Row):List PV:=[PI r.mood,Yn r.l]
def Km (p:Pic):List PV:=[PI p.w,PI p.h,PI p.solid,PI p.row.mood,Yn p.row.l]
def Vs (l:List Pic):PV := .lst 5 l.length (bK Km l)
def Uo (l:List Raw):PV := .lst 11 l.length (bK NU l)
def fi (s:Scene):List PV:=[PI s.bits,PI s.x,PI s.y,PI s.w,PI s.h,PI s.tileW,PI s.tileH,eI s.order,Vs s.pics,Uo s.ops]
attribute [go_sem] He uC aQ fZ aS eI lv fj aI yU tx pX aF NU Yq Yn NY Km Vs Uo fi
def i64 (n:Int):Prop := -9223372036854775808≤n∧n≤9223372036854775807
def u16 (n:Int):Prop:=0≤n∧n≤65535
def lx (n k:Int):Int:=if k<1 then 0 else n % k
theorem MR (n k:Int):(n.tmod k+k) % k=n % k:=by rw [Int.add_emod_right,Int.tmod_def,Int.sub_mul_emod_self_left]
theorem ry (n k : Int) (hk : k ≤ 4611686018427387904) :
  aA Sg 18 [I n,I k] (fun r=>r = .b (I (lx n k))):=by
 refine aD Tryz.func18 [.tmp 4] ?_;repeat first|refine bU ?_|((first|refine an (fun K hK => ?_));and_intros;all_goals first|(refine hK _ ?_;clear hK K)|try exact ai)|fail
 refine zh (t := ?tt) ?hc ?h1 ?h2
 case hc=>simp (maxSteps:=999999)(disch:=omega) only [go_sem];rfl
 case h1 =>
  intro hb;try simp only [decide_eq_true_eq,decide_eq_false_iff_not,beq_iff_eq,beq_eq_false_iff_ne,bne_iff_ne,bne_eq_false_iff_eq,ne_eq,Bool.not_eq_true,Bool.not_eq_false,Bool.not_true,Bool.not_false,Bool.not_eq_eq_eq_not,Int.not_lt,Int.not_le,gt_iff_lt,ge_iff_le,Bool.cond_eq_ite,Bool.if_false_right,Bool.if_true_left,Bool.and_eq_true,Bool.or_eq_true,Bool.and_eq_false_imp,Bool.or_eq_false_iff,Decidable.not_not] at hb
  repeat first|refine bU ?_|((first|refine an (fun K hK => ?_));and_intros;all_goals first|(refine hK _ ?_;clear hK K)|try exact ai)|fail
  first|refine lP ?_|refine nV ?_
  refine dz ?_;simp only [lx,if_pos hb]
 case h2 =>
  intro hb;try simp only [decide_eq_true_eq,decide_eq_false_iff_not,beq_iff_eq,beq_eq_false_iff_ne,bne_iff_ne,bne_eq_false_iff_eq,ne_eq,Bool.not_eq_true,Bool.not_eq_false,Bool.not_true,Bool.not_false,Bool.not_eq_eq_eq_not,Int.not_lt,Int.not_le,gt_iff_lt,ge_iff_le,Bool.cond_eq_ite,Bool.if_false_right,Bool.if_true_left,Bool.and_eq_true,Bool.or_eq_true,Bool.and_eq_false_imp,Bool.or_eq_false_iff,Decidable.not_not] at hb
  have hm1:=Int.tmod_lt_of_pos n (show 0<k by omega);have hm2:=Int.lt_tmod_of_pos n (show 0<k by omega);repeat first|refine bU ?_|((first|refine an (fun K hK => ?_));and_intros;all_goals first|(refine hK _ ?_;clear hK K)|try exact ai)|fail
  first|refine lP ?_|refine nV ?_
  refine dz ?_;rw [lx,if_neg (by omega),MR n k]
theorem bD (n k : Int) (hk1 : 1 ≤ k) (hk : k ≤ 4611686018427387904) :
  aA Sg 18 [I n,I k] (fun r=>r = .b (I (n % k))):=by
 have h:=ry n k hk
 rwa [lx,if_neg (by omega)] at h
def DQ (l:List Int) (i:Int):Int:=if i<0∨(l.length:Int)≤i then 0 else l.getD i.toNat 0
theorem RE (l : List Int) (i : Int) :
  aA Sg 50 [.c (.p (eI l)),I i] (fun r=>r = .b (I (DQ l i))):=by
 refine aD Tryz.func50 [.tmp 4] ?_;repeat first|refine bU ?_|((first|refine an (fun K hK => ?_));and_intros;all_goals first|(refine hK _ ?_;clear hK K)|try exact ai)|fail
 refine zh (t := ?tt) ?hc ?h1 ?h2
 case hc=>simp (maxSteps:=999999)(disch:=omega) only [go_sem];rfl
 case h1 =>
  intro hb;try simp only [decide_eq_true_eq,decide_eq_false_iff_not,beq_iff_eq,beq_eq_false_iff_ne,bne_iff_ne,bne_eq_false_iff_eq,ne_eq,Bool.not_eq_true,Bool.not_eq_false,Bool.not_true,Bool.not_false,Bool.not_eq_eq_eq_not,Int.not_lt,Int.not_le,gt_iff_lt,ge_iff_le,Bool.cond_eq_ite,Bool.if_false_right,Bool.if_true_left,Bool.and_eq_true,Bool.or_eq_true,Bool.and_eq_false_imp,Bool.or_eq_false_iff,Decidable.not_not] at hb
  repeat first|refine bU ?_|((first|refine an (fun K hK => ?_));and_intros;all_goals first|(refine hK _ ?_;clear hK K)|try exact ai)|fail
  first|refine lP ?_|refine nV ?_
  refine dz ?_;rw [DQ,if_pos hb]
 case h2 =>
  intro hb;try simp only [decide_eq_true_eq,decide_eq_false_iff_not,beq_iff_eq,beq_eq_false_iff_ne,bne_iff_ne,bne_eq_false_iff_eq,ne_eq,Bool.not_eq_true,Bool.not_eq_false,Bool.not_true,Bool.not_false,Bool.not_eq_eq_eq_not,Int.not_lt,Int.not_le,gt_iff_lt,ge_iff_le,Bool.cond_eq_ite,Bool.if_false_right,Bool.if_true_left,Bool.and_eq_true,Bool.or_eq_true,Bool.and_eq_false_imp,Bool.or_eq_false_iff,Decidable.not_not] at hb
  repeat first|refine bU ?_|((first|refine an (fun K hK => ?_));and_intros;all_goals first|(refine hK _ ?_;clear hK K)|try exact ai)|fail
  first|refine lP ?_|refine nV ?_
  refine dz ?_;rw [DQ,if_neg (by omega)];rfl
def cl (n:Int):Int:=if n % 3=2 then 65535 else 255
theorem Ci (n : Int) :
  aA Sg 32 [I n] (fun r=>r = .b (U (cl n))):=by
 refine aD Tryz.func32 [.tmp 2] ?_;repeat first|refine bU ?_|((first|refine an (fun K hK => ?_));and_intros;all_goals first|(refine hK _ ?_;clear hK K)|try exact ai)|fail
 refine vb (ry n 3 (by omega)) bG ?_;try simp (maxSteps:=999999)(disch:=omega) only [go_sem]
 and_intros;all_goals first|(refine hK _ ?_;clear hK K)|exact ai|skip
 refine zh (t := ?tt) ?hc ?h1 ?h2
 case hc=>simp (maxSteps:=999999)(disch:=omega) only [go_sem];rfl
 case h1 =>
  intro hb;try simp only [decide_eq_true_eq,decide_eq_false_iff_not,beq_iff_eq,beq_eq_false_iff_ne,bne_iff_ne,bne_eq_false_iff_eq,ne_eq,Bool.not_eq_true,Bool.not_eq_false,Bool.not_true,Bool.not_false,Bool.not_eq_eq_eq_not,Int.not_lt,Int.not_le,gt_iff_lt,ge_iff_le,Bool.cond_eq_ite,Bool.if_false_right,Bool.if_true_left,Bool.and_eq_true,Bool.or_eq_true,Bool.and_eq_false_imp,Bool.or_eq_false_iff,Decidable.not_not] at hb
  repeat first|refine bU ?_|((first|refine an (fun K hK => ?_));and_intros;all_goals first|(refine hK _ ?_;clear hK K)|try exact ai)|fail
  first|refine lP ?_|refine nV ?_
  refine dz ?_;simp [cl,lx] at hb ⊢;omega
 case h2 =>
  intro hb;try simp only [decide_eq_true_eq,decide_eq_false_iff_not,beq_iff_eq,beq_eq_false_iff_ne,bne_iff_ne,bne_eq_false_iff_eq,ne_eq,Bool.not_eq_true,Bool.not_eq_false,Bool.not_true,Bool.not_false,Bool.not_eq_eq_eq_not,Int.not_lt,Int.not_le,gt_iff_lt,ge_iff_le,Bool.cond_eq_ite,Bool.if_false_right,Bool.if_true_left,Bool.and_eq_true,Bool.or_eq_true,Bool.and_eq_false_imp,Bool.or_eq_false_iff,Decidable.not_not] at hb
  repeat first|refine bU ?_|((first|refine an (fun K hK => ?_));and_intros;all_goals first|(refine hK _ ?_;clear hK K)|try exact ai)|fail
  first|refine lP ?_|refine nV ?_
  refine dz ?_;simp [cl,lx] at hb ⊢;omega
theorem eV {a b:Bool} (h:a=true↔b=true):SV.b (B a)=SV.b (B b):=by rw [Bool.eq_iff_iff.2 h]
def mf (r:Rect):Bool:=decide (-1073741824≤r.x0∧r.x0≤1073741824 ∧ -1073741824≤r.y0∧r.y0≤1073741824 ∧ -1073741824≤r.x1∧r.x1≤1073741824 ∧ -1073741824≤r.y1∧r.y1≤1073741824)
def aP (r:Rect):Bool := !mf r || decide (r.x1≤r.x0∨r.y1≤r.y0)
def gv (r:Rect):Rect:=if aP r=true then ⟨0,0,0,0⟩ else r
def kU (r:Rect):Int:=if aP r=true then 0 else (r.x1 - r.x0) * (r.y1 - r.y0)
theorem ye (r:Rect):aA Sg 78 [ag (aQ r)] (fun x=>x = .b (B (mf r))):=by
 refine aD Tryz.func78 [.tmp 2] ?_;repeat' (refine aC ?_)
 refine eV ?_
 (try simp only [mf,Bool.and_eq_true,Bool.or_eq_true,Bool.not_eq_true',Bool.not_eq_false',decide_eq_true_eq,decide_eq_false_iff_not,ge_iff_le,gt_iff_lt,beq_iff_eq,bne_iff_ne,ne_eq,Bool.or_eq_false_iff,Bool.and_eq_false_imp,Bool.not_true,Bool.not_false])
 try omega
theorem bl (r:Rect):aA Sg 49 [ag (aQ r)] (fun x=>x = .b (B (aP r))):=by
 refine aD Tryz.func49 [.tmp 2] ?_;repeat' (first|refine an (fun K hK => ?_)|refine aa (ye _) ?_|refine ax ?_|(refine aq hK ?_;try clear hK K))
 refine eV ?_;simp only [aP,Bool.or_eq_true,decide_eq_true_eq,ge_iff_le,or_assoc]
theorem pO (r:Rect):aA Sg 117 [ag (aQ r)] (fun x=>x = .b (ag (aQ (gv r)))):=by
 refine aD Tryz.func117 [.cell 2 28] ?_
 repeat' (first|refine ax ?_|refine an (fun K hK => ?_)|refine aa (bl _) ?_|(refine aK (fun hb => ?_) (fun hb => ?_) <;> try exact aE)|(refine aq hK ?_;try clear hK K))
 ·rw [gv,if_pos hb];rfl
 ·rw [gv,if_neg (by simp [hb])];rfl
theorem gO {r:Rect} (h:¬ aP r=true) : -1073741824≤r.x0∧r.x0<r.x1∧r.x1≤1073741824 ∧ -1073741824≤r.y0∧r.y0<r.y1∧r.y1≤1073741824:=by
 simp only [aP,mf,Bool.or_eq_true,Bool.not_eq_true',decide_eq_true_eq,decide_eq_false_iff_not] at h;omega
theorem yJ (r:Rect):IntKind.i64.wrap (IntKind.i64.wrap ((gv r).x1 - (gv r).x0) * IntKind.i64.wrap ((gv r).y1 - (gv r).y0))=kU r:=by
 by_cases h:aP r=true
 ·simp only [gv,kU,if_pos h];decide
 ·simp only [gv,kU,if_neg h];have hb:=gO h;rw [fY (n:=r.x1 - r.x0) (by omega) (by omega),fY (n:=r.y1 - r.y0) (by omega) (by omega)];have h1:(r.x1 - r.x0) * (r.y1 - r.y0)≤2147483648 * 2147483648:=Int.mul_le_mul (by omega) (by omega) (by omega) (by omega);have h2:0≤(r.x1 - r.x0) * (r.y1 - r.y0):=Int.mul_nonneg (by omega) (by omega);exact fY (by omega) (by omega)
theorem Ar (r:Rect):aA Sg 99 [ag (aQ r)] (fun x=>x = .b (I (kU r))):=by
 refine aD Tryz.func99 [.tmp 2] ?_;repeat' (first|refine an (fun K hK => ?_)|refine aa (pO _) ?_|refine ax ?_|(refine aq hK ?_;try clear hK K))
 rw [yJ]
def cK (w h:Int):Bool:=decide (1≤w∧1≤h∧w≤16777216∧h≤16777216 / w)
theorem iZ (w h:Int):aA Sg 45 [I w,I h] (fun x=>x = .b (B (cK w h))):=by
 refine aD Tryz.func45 [.tmp 4] ?_;repeat' (refine aC ?_)
 refine eV ?_;by_cases hw:1≤w
 ·have h1:0≤16777216 / w:=Int.ediv_nonneg (by omega) (by omega);have h2:16777216 / w≤16777216:=Int.ediv_le_self _ (by omega);rw [fY (by omega) (by omega)];simp only [cK,Bool.and_eq_true,decide_eq_true_eq,ge_iff_le,and_assoc]
 ·simp [cK,hw]
theorem gG (b:Int):aA Sg 68 [I b] (fun x=>x = .tup [U (if b=8 then 255 else if b=16 then 65535 else 0),B (decide (b=8∨b=16))]):=by
 refine aD Tryz.func68 [.tmp 2, .tmp 3] ?_
 repeat' (first|refine aC ?_|(refine aK (fun hb => ?_) (fun hb => ?_) <;> try exact aE))
 ·subst hb;rfl
 ·subst hb;rfl
 ·rw [if_neg (by assumption),if_neg (by assumption),decide_eq_false (by omega)]
theorem iQ (b:Int):aA Sg 14 [I b] (fun x=>x = .tup [U (if b=8 then 255 else if b=16 then 65535 else 0),B (decide (b=8∨b=16))]):=by
 refine aD Tryz.func14 [.tmp 2, .tmp 3] ?_
 repeat' (first|refine aC ?_|(refine aK (fun hb => ?_) (fun hb => ?_) <;> try exact aE))
 ·subst hb;rfl
 ·subst hb;rfl
 ·rw [if_neg (by assumption),if_neg (by assumption),decide_eq_false (by omega)]
theorem BK (m:Int):aA Sg 185 [I m] (fun x=>x = .b (B (decide (1≤m∧m≤12)))):=by
 refine aD Tryz.func185 [.tmp 2] ?_;repeat' (refine aC ?_)
 refine eV ?_
 (try simp only [Bool.and_eq_true,Bool.or_eq_true,Bool.not_eq_true',Bool.not_eq_false',decide_eq_true_eq,decide_eq_false_iff_not,ge_iff_le,gt_iff_lt,beq_iff_eq,bne_iff_ne,ne_eq,Bool.or_eq_false_iff,Bool.and_eq_false_imp,Bool.not_true,Bool.not_false])
 try omega
theorem vK (n:Int):aA Sg 100 [I n] (fun x=>x = .b (B (decide (n < -1048576∨1048576<n)))):=by
 refine aD Tryz.func100 [.tmp 2] ?_;repeat' (refine aC ?_)
 refine eV ?_
 (try simp only [Bool.and_eq_true,Bool.or_eq_true,Bool.not_eq_true',Bool.not_eq_false',decide_eq_true_eq,decide_eq_false_iff_not,ge_iff_le,gt_iff_lt,beq_iff_eq,bne_iff_ne,ne_eq,Bool.or_eq_false_iff,Bool.and_eq_false_imp,Bool.not_true,Bool.not_false])
 try omega
theorem qG (w h:Int) (p:Pixel):aA Sg 34 [I w,I h,ag (aS p)] (fun x=>x = .b (ag (aI ⟨w,h,true,p,⟨0,0,0,[]⟩,⟨0,0,0,[]⟩,⟨0,0,0,[]⟩,⟨0,0,0,[]⟩,⟨0,0,0,[]⟩⟩))):=by
 refine dY ?_;refine aD Tryz.func34 [.cell 6 43] ?_;repeat' (refine aC ?_)
 refine Gv (gj ?_);simp only [List.map_cons,List.map_nil,dF,fx];and_intros;all_goals first|exact .inl rfl|exact .inl trivial|exact .inr ed|trivial|skip
def cj (k:Int) (l:List Int):Bool:=l.all fun v=>decide (-k≤v∧v≤k)
theorem Cc (k:Int) (l:List Int) (hk:0≤k) (hk2:k≤9223372036854775807) (hl:l.length≤4611686018427387904):aA Sg 116 [I k, .c (.p (eI l))] (fun x=>x = .b (B (cj k l))):=by
 refine aD Tryz.func116 [.tmp 4] ?_;repeat' (refine aC ?_)
 refine aH (X:=Nat) (fun i=>aT [(0, .b (I k)),(7, .b (.c (.p (eI l)))),(8, .b (I l.length)),(9, .b (I i))] [] 1) (fun i=>i≤l.length∧(l.take i).all (fun v=>decide (-k≤v∧v≤k))=true) (fun i=>l.length - i) 0 ?_ ?_ ?_
 ·exact ⟨by omega,rfl⟩
 ·refine au [] ?_ ?_;and_intros;all_goals try exact aj
 ·rintro i ⟨hi,ht⟩
  repeat' (first|refine aC ?_|(refine aK (fun hb => ?_) (fun hb => ?_) <;> try exact aE))
  ·have:cj k l=false:=by
    rw [cj,List.all_eq_false];refine ⟨l.getD i default, ?_, ?_⟩
    ·rw [List.getD_eq_getElem?_getD,List.getElem?_eq_getElem (by omega)];exact List.getElem_mem _
    ·simp only [decide_eq_true_eq];simp only [Int.toNat_natCast] at hb;omega
   rw [this]
  ·rw [ae];refine ak (i+1) ?_ ⟨by omega, ?_⟩ (by omega)
   ·refine au [] ?_ ?_;and_intros;all_goals try exact aj
   ·rw [List.take_add_one,List.all_append,ht,List.getElem?_eq_getElem (by omega)];simp only [Int.toNat_natCast,List.getD_eq_getElem?_getD,List.getElem?_eq_getElem (show i<l.length by omega),Option.getD_some] at hb;simp only [Option.toList_some,List.all_cons,List.all_nil,Bool.and_true,Bool.true_and,decide_eq_true_eq];omega
  ·have:cj k l=true:=by
    rw [cj]
    rwa [List.take_of_length_le (by omega)] at ht
   rw [this]
theorem CB (r:Rect):aA Sg 79 [ag (aQ r)] (fun x=>x = .b (B (mf r))):=by
 refine aD Tryz.func79 [.tmp 2] ?_;repeat' (first|refine an (fun K hK => ?_)|(refine aq hK ?_;try clear hK K))
 refine gF ?_ ?_ bG ?_ (Cc 1073741824 [r.x0,r.y0,r.x1,r.y1] (by omega) (by omega) (by simp));try simp (maxSteps:=999999)(disch:=omega) only [go_sem]
 try (refine hK _ ?_;clear hK K)
 ·first|refine lP ?_|refine nV ?_
  refine dz ?_;refine eV ?_;simp only [cj,mf,List.all_cons,List.all_nil,Bool.and_true,Bool.and_eq_true,decide_eq_true_eq];omega
 ·simp (maxSteps:=1000000) (disch:=omega) only [go_sem,fA,fN];refine ⟨mD,oG (gX fun i hi j hj => ?_)⟩;have h1:i=0∨i=1∨i=2∨i=3:=by omega
  have h2:j=0:=by omega
  subst h2;rcases h1 with rfl|rfl|rfl|rfl <;> rfl
 ·trivial
theorem cG (r:Rect):aA Sg 51 [ag (aQ r)] (fun x=>x = .b (B (aP r))):=by
 refine aD Tryz.func51 [.tmp 2] ?_;repeat' (first|refine an (fun K hK => ?_)|refine aa (CB _) ?_|refine ax ?_|(refine aq hK ?_;try clear hK K))
 refine eV ?_;simp only [aP,Bool.or_eq_true,decide_eq_true_eq,ge_iff_le,or_assoc]
theorem tK (r:Rect):aA Sg 121 [ag (aQ r)] (fun x=>x = .b (ag (aQ (gv r)))):=by
 refine aD Tryz.func121 [.cell 2 28] ?_
 repeat' (first|refine ax ?_|refine an (fun K hK => ?_)|refine aa (cG _) ?_|(refine aK (fun hb => ?_) (fun hb => ?_) <;> try exact aE)|(refine aq hK ?_;try clear hK K))
 ·rw [gv,if_pos hb];rfl
 ·rw [gv,if_neg (by simp [hb])];rfl
theorem Eu (r:Rect):aA Sg 105 [ag (aQ r)] (fun x=>x = .b (I (kU r))):=by
 refine aD Tryz.func105 [.tmp 2] ?_;repeat' (first|refine an (fun K hK => ?_)|refine aa (tK _) ?_|refine ax ?_|(refine aq hK ?_;try clear hK K))
 rw [yJ]
def pM (o:Int):List PV:=if 1≤o∧o≤12 then [cM.getD (o.toNat * 4) .any,cM.getD (o.toNat * 4+1) .any,cM.getD (o.toNat * 4+2) .any,cM.getD (o.toNat * 4+3) .any]
 else [.val (.string ⟨#[]⟩),PI 0,PI 0,PI 0]
theorem pc (o:Int):aA Sg 184 [I o] (fun x=>x = .tup [ag (pM o),B (decide (1≤o∧o≤12))]):=by
 refine aD Tryz.func184 [.cell 2 236, .tmp 3] ?_
 repeat' (first|refine aC ?_|(refine aK (fun hb => ?_) (fun hb => ?_) <;> try exact aE))
 ·rw [pM,if_neg (by omega),decide_eq_false (by omega)];rfl
 ·rw [pM,if_pos (by omega),decide_eq_true (by omega)];simp only [Nat.zero_add,Nat.add_zero];rfl
def zZ (o:Int):ByteArray:=match (pM o).getD 0 .any with
 | .val (.string s)=>s
 | _=>⟨#[]⟩
theorem pI (o:Int):∃ a b c,pM o=[.val (.string (zZ o)),PI a,PI b,PI c]∧((zZ o).toList == (ByteArray.mk #[]).toList) = !decide (1≤o∧o≤12):=by
 by_cases h:1≤o∧o≤12
 ·have:o=1∨o=2∨o=3∨o=4∨o=5∨o=6∨o=7∨o=8∨o=9∨o=10∨o=11∨o=12:=by omega
  rcases this with rfl|rfl|rfl|rfl|rfl|rfl|rfl|rfl|rfl|rfl|rfl|rfl <;> exact ⟨_,_,_,rfl,by decide +kernel⟩
 ·have e:pM o=[.val (.string ⟨#[]⟩),PI 0,PI 0,PI 0]:=by rw [pM,if_neg h]
  refine ⟨0,0,0, ?_, ?_⟩
  ·rw [zZ,e];rfl
  ·rw [zZ,e,decide_eq_false h];decide +kernel
theorem CW (o:Int):aA Sg 152 [I o] (fun x=>x = .b (.c (.p (.val (.string (zZ o)))))):=by
 obtain ⟨a,b,c,he,_⟩:=pI o;have hf:=pc o;rw [he] at hf;refine aD Tryz.func152 [.tmp 2] ?_;repeat' (first|with_reducible exact bq|refine an (fun K hK => ?_)|refine aa (hf) ?_|refine ax ?_|(refine aq hK ?_;try clear hK K))
def ji (o:Int):Bool:=decide (1≤o∧o≤12)
def ZE (m:Int):ByteArray:=match gT.getD m.toNat .any with
 | .val (.string s)=>s
 | _=>⟨#[]⟩
theorem DS (m:Int) (h:1≤m∧m≤12):gT.getD m.toNat .any = .val (.string (ZE m))∧((ZE m).toList == (ByteArray.mk #[]).toList)=false:=by
 have:m=1∨m=2∨m=3∨m=4∨m=5∨m=6∨m=7∨m=8∨m=9∨m=10∨m=11∨m=12:=by omega
 rcases this with rfl|rfl|rfl|rfl|rfl|rfl|rfl|rfl|rfl|rfl|rfl|rfl <;> exact ⟨rfl,by decide +kernel⟩
def zO (m:Int):ByteArray:=if 1≤m∧m≤12 then ZE m else ⟨#[]⟩
theorem xG (m:Int):((zO m).toList == (ByteArray.mk #[]).toList) = !ji m:=by
 by_cases h:1≤m∧m≤12
 ·rw [zO,if_pos h,(DS m h).2,ji,decide_eq_true h];rfl
 ·rw [zO,if_neg h,ji,decide_eq_false h];decide +kernel
theorem xE (m:Int):aA Sg 153 [I m] (fun x=>x = .b (.c (.p (.val (.string (zO m)))))):=by
 refine aD Tryz.func153 [.tmp 2] ?_
 repeat' (first|refine ax ?_|refine an (fun K hK => ?_)|refine aa (BK _) ?_|(refine aK (fun hb => ?_) (fun hb => ?_) <;> try exact aE)|(refine aq hK ?_;try clear hK K))
 ·rw [zO,if_neg (by omega)]
 ·rw [zO,if_pos (by omega)];have h:=DS m (by omega);simp only [Nat.zero_add,Nat.mul_one,Nat.add_zero];rw [h.1]
theorem EM (o:Int):aA Sg 172 [I o] (fun x=>x = .b (.c (.p (.val (.string (zZ o)))))):=by
 refine aD Tryz.func172 [.tmp 2] ?_
 repeat' (first|refine aC ?_|(refine aK (fun hb => ?_) (fun hb => ?_) <;> try exact aE))
 ·rw [zZ,pM,if_neg (by omega)];rfl
 ·have:o=1∨o=2∨o=3∨o=4∨o=5∨o=6∨o=7∨o=8∨o=9∨o=10∨o=11∨o=12:=by omega
  rcases this with rfl|rfl|rfl|rfl|rfl|rfl|rfl|rfl|rfl|rfl|rfl|rfl <;> rfl
theorem AA (o:Int):aA Sg 173 [I o] (fun x=>x = .b (.c (.p (.val (.string (zO o)))))):=by
 refine aD Tryz.func173 [.tmp 2] ?_
 repeat' (first|refine aC ?_|(refine aK (fun hb => ?_) (fun hb => ?_) <;> try exact aE))
 ·rw [zO,if_neg (by omega)]
 ·have:o=1∨o=2∨o=3∨o=4∨o=5∨o=6∨o=7∨o=8∨o=9∨o=10∨o=11∨o=12:=by omega
  rcases this with rfl|rfl|rfl|rfl|rfl|rfl|rfl|rfl|rfl|rfl|rfl|rfl <;> rfl
theorem pE (o:Int):aA Sg 135 [I o] (fun x=>x = .b (B (ji o))):=by
 obtain ⟨_,_,_,_,h⟩:=pI o;refine aD Tryz.func135 [.tmp 2] ?_;repeat' (first|refine an (fun K hK => ?_)|refine aa (EM _) ?_|refine ax ?_|(refine aq hK ?_;try clear hK K))
 refine eV ?_;rw [h];simp [ji]
theorem lB (o:Int):aA Sg 136 [I o] (fun x=>x = .b (B (ji o))):=by
 have h:=xG o;refine aD Tryz.func136 [.tmp 2] ?_;repeat' (first|refine an (fun K hK => ?_)|refine aa (AA _) ?_|refine ax ?_|(refine aq hK ?_;try clear hK K))
 refine eV ?_;rw [h];simp [ji]
def bV (n d:Int):Int:=if d=0 then 0 else if n % d≥d - n % d then n / d+1 else n / d
theorem mS {n d:Int} (hd:0<d):2 * (d * bV n d)≤2 * n+d∧2 * n<2 * (d * bV n d)+d:=by
 have h1:=Int.mul_ediv_add_emod n d;have h2:=Int.emod_nonneg n (show d≠0 by omega);have h3:=Int.emod_lt_of_pos n hd;unfold bV;rw [if_neg (by omega)];split
 ·rw [Int.mul_add,Int.mul_one];omega
 ·omega
theorem tr {n d k:Int} (hd:0<d) (h1:2 * (d * k)≤2 * n+d) (h2:2 * n<2 * (d * k)+d):bV n d=k:=by
 obtain ⟨a1,a2⟩:=mS (n:=n) hd;rcases Int.lt_trichotomy (bV n d) k with h|h|h
 ·have:=Int.mul_le_mul_of_nonneg_left (show bV n d+1≤k by omega) (Int.le_of_lt hd);rw [Int.mul_add,Int.mul_one] at this;omega
 ·exact h
 ·have:=Int.mul_le_mul_of_nonneg_left (show k+1≤bV n d by omega) (Int.le_of_lt hd);rw [Int.mul_add,Int.mul_one] at this;omega
theorem jn {n n' d:Int} (hd:0<d) (h:n≤n'):bV n d≤bV n' d:=by
 obtain ⟨a1,a2⟩:=mS (n:=n) hd;obtain ⟨b1,b2⟩:=mS (n:=n') hd;refine Int.not_lt.1 fun q => ?_;have:=Int.mul_le_mul_of_nonneg_left (show bV n' d+1≤bV n d by omega) (Int.le_of_lt hd);rw [Int.mul_add,Int.mul_one] at this;omega
theorem jJ {d k:Int} (hd:0<d):bV (d * k) d=k:=tr hd (by omega) (by omega)
theorem oY {d:Int} (hd:0<d):bV 0 d=0:=by
 unfold bV;split
 ·rfl
 ·rw [Int.zero_emod,Int.zero_ediv,if_neg (by omega)]
theorem dL {n d:Int} (hd:0<d) (h:0≤n):0≤bV n d:=by
 have:=jn hd h
 rwa [oY hd] at this
theorem rj {n d k:Int} (hd:0<d) (h:n≤d * k):bV n d≤k:=by
 have:=jn hd h
 rwa [jJ hd] at this
structure Ex where
 p:Int
 q:Int
 r:Int
 d:Int
 deriving DecidableEq,Inhabited
def nU (x:Ex) (t n:Int):Bool:=decide (n * x.d≤t * x.p∨(n * x.d - t * x.p) * (n * x.d - t * x.p)≤t * x.q * (t * x.q) * x.r)
theorem lG {a b:Int} (ha:0≤a) (h:a≤b):a * a≤b * b:=Int.mul_le_mul h h ha (by omega)
theorem XG {a b:Int} (hb:0≤b) (h:a * a≤b * b):a≤b:=by
 refine Int.not_lt.1 fun q => ?_;have h1:=Int.mul_lt_mul_of_pos_left q (show 0<a by omega);have h2:=Int.mul_le_mul_of_nonneg_right (Int.le_of_lt q) hb;omega
theorem mA {x:Ex} {t n n':Int} (hd:0≤x.d) (h:nU x t n'=true) (hn:n≤n'):nU x t n=true:=by
 simp only [nU,decide_eq_true_eq] at *
 have hm:=Int.mul_le_mul_of_nonneg_right hn hd;rcases h with h|h
 ·exact .inl (by omega)
 ·rcases Int.le_total (n * x.d) (t * x.p) with q|q
  ·exact .inl q
  ·exact .inr (Int.le_trans (lG (by omega) (by omega)) h)
def vo (t:Int→Bool):Nat→Int→Int
 | 0,n=>n
 | i+1,n=>vo t i (if t (n+2 ^ i)=true then n+2 ^ i else n)
theorem wS {t:Int→Bool} (hm:∀ a b,a≤b→t b=true→t a=true):∀ (i:Nat) (n:Int),t n=true→t (n+2 ^ i)=false→t (vo t i n)=true∧t (vo t i n+1)=false∧n≤vo t i n∧vo t i n<n+2 ^ i
 | 0,n,h1,h2=>⟨h1,h2,Int.le_refl _,by show n<n+2 ^ 0;rw [show (2:Int) ^ 0=1 from rfl];omega⟩
 | i+1,n,h1,h2=>by
  have e:(2:Int) ^ (i+1)=2 ^ i+2 ^ i:=by rw [Int.pow_succ];omega
  have hp:(0:Int)<2 ^ i:=Int.pow_pos (by decide);rw [e] at h2 ⊢;rw [show vo t (i+1) n=vo t i (if t (n+2 ^ i)=true then n+2 ^ i else n) from rfl];split
  ·rename_i h;have:=wS hm i _ h (by rw [show n+2 ^ i+2 ^ i=n+(2 ^ i+2 ^ i) by omega];exact h2);exact ⟨this.1,this.2.1,by omega,by omega⟩
  ·rename_i h;have:=wS hm i _ h1 (by simpa using h);exact ⟨this.1,this.2.1,by omega,by omega⟩
def cE (x:Ex):Int:=vo (nU x 1) 63 0
def hx (x:Ex):Int:=if nU x 2 (2 * cE x+1)=true then cE x+1 else cE x
structure ExOk (x:Ex):Prop where
 p0:0≤x.p
 p1:x.p<79228162514264337593543950336
 q0:0≤x.q
 q1:x.q<70368744177664
 r0:0≤x.r
 r1:x.r<8589934592
 d0:1≤x.d
 d1:x.d<18446744073709551616
 b:nU x 1 4611686018427387904=false
theorem iG {x:Ex} (h:ExOk x):nU x 1 (cE x)=true∧nU x 1 (cE x+1)=false∧0≤cE x∧cE x<4611686018427387904:=by
 have hm:∀ a b,a≤b→nU x 1 b=true→nU x 1 a=true:=fun a b hab hb=>mA (by have:=h.d0;omega) hb hab;have h0:nU x 1 0=true:=by
  have:=h.p0;simp only [nU,decide_eq_true_eq];omega
 have h63:nU x 1 (0+2 ^ 63)=false:=by
  rw [← Bool.not_eq_true];intro q;have:=hm 4611686018427387904 _ (by decide) q;rw [h.b] at this;cases this
 obtain ⟨a,b,c,d⟩:=wS hm _ _ h0 h63;refine ⟨a,b,c,Int.not_le.1 fun q => ?_⟩;have:=hm _ _ q a;rw [h.b] at this;cases this
theorem lI {x:Ex} (h:ExOk x):nU x 2 (2 * hx x - 1)=true∧nU x 2 (2 * hx x+1)=false∧0≤hx x:=by
 obtain ⟨h1,h2,h3,h4⟩:=iG h;have hd:=h.d0;have dbl:∀ n,nU x 1 n=nU x 2 (2 * n):=fun n=>by
  simp only [nU];congr 1;refine propext ⟨fun q => ?_,fun q => ?_⟩
  ·rcases q with q|q
   ·exact .inl (by rw [Int.mul_assoc];omega)
   ·refine .inr ?_;have e1:(2 * n * x.d - 2 * x.p)=2 * (n * x.d - 1 * x.p):=by rw [Int.mul_assoc];omega
    rw [e1];generalize n * x.d - 1 * x.p=u at *
    simp only [Int.one_mul] at q;have e2:2 * u * (2 * u)=4 * (u * u):=by grind
    have e3:2 * x.q * (2 * x.q) * x.r=4 * (x.q * x.q * x.r):=by grind
    omega
  ·rcases q with q|q
   ·exact .inl (by rw [Int.mul_assoc] at q;omega)
   ·refine .inr ?_;have e1:(2 * n * x.d - 2 * x.p)=2 * (n * x.d - 1 * x.p):=by rw [Int.mul_assoc];omega
    rw [e1] at q;generalize n * x.d - 1 * x.p=u at *
    simp only [Int.one_mul];have e2:2 * u * (2 * u)=4 * (u * u):=by grind
    have e3:2 * x.q * (2 * x.q) * x.r=4 * (x.q * x.q * x.r):=by grind
    omega
 rw [dbl] at h1 h2;unfold hx;split
 ·rename_i h5;refine ⟨by rw [show 2 * (cE x+1) - 1=2 * cE x+1 by omega];exact h5, ?_,by omega⟩;rw [← Bool.not_eq_true];intro q;have:=mA (by omega) q (show 2 * (cE x+1)≤2 * (cE x+1)+1 by omega);rw [h2] at this;cases this
 ·rename_i h5;exact ⟨mA (by omega) h1 (by omega),by simpa using h5,h3⟩
theorem QP {x:Ex} (h:ExOk x) {k:Int} (h1:nU x 2 (2 * k - 1)=true) (h2:nU x 2 (2 * k+1)=false):hx x=k:=by
 obtain ⟨a1,a2,_⟩:=lI h;have hd:=h.d0;rcases Int.lt_trichotomy (hx x) k with q|q|q
 ·have:=mA (by omega) h1 (show 2 * hx x+1≤2 * k - 1 by omega);rw [a2] at this;cases this
 ·exact q
 ·have:=mA (by omega) a1 (show 2 * k+1≤2 * hx x - 1 by omega);rw [h2] at this;cases this
theorem Sd {x:Ex} {n m:Int} (h:ExOk x) (hm:0<m) (h1:x.p * m≤n * x.d) (h2:x.q * x.q * x.r * (m * m)≤(n * x.d - x.p * m) * (n * x.d - x.p * m)):hx x≤bV n m:=by
 obtain ⟨a1,_,a3⟩:=lI h;obtain ⟨b1,b2⟩:=mS (n:=n) hm;have hd:=h.d0;have key:(2 * hx x - 1) * m≤2 * n:=by
  simp only [nU,decide_eq_true_eq] at a1;generalize hx x=k at *
  have dm:(2 * k - 1) * m * x.d≤2 * n * x.d:=by
   rcases a1 with a1|a1
   ·have:=Int.mul_le_mul_of_nonneg_right a1 (Int.le_of_lt hm);grind
   ·have e1:((2 * k - 1) * x.d - 2 * x.p) * m * (((2 * k - 1) * x.d - 2 * x.p) * m)=((2 * k - 1) * x.d - 2 * x.p) * ((2 * k - 1) * x.d - 2 * x.p) * (m * m):=by grind
    have e2:=Int.mul_le_mul_of_nonneg_right a1 (Int.le_of_lt (Int.mul_pos hm hm));have e3:2 * (n * x.d - x.p * m) * (2 * (n * x.d - x.p * m))=4 * ((n * x.d - x.p * m) * (n * x.d - x.p * m)):=by grind
    have e4:2 * x.q * (2 * x.q) * x.r * (m * m)=4 * (x.q * x.q * x.r * (m * m)):=by grind
    have e5:=XG (a:=((2 * k - 1) * x.d - 2 * x.p) * m) (b:=2 * (n * x.d - x.p * m)) (by omega) (by omega);grind
  exact Int.le_of_mul_le_mul_right dm (by omega)
 refine Int.not_lt.1 fun q => ?_;have:=Int.mul_le_mul_of_nonneg_left (show bV n m+1≤hx x by omega) (Int.le_of_lt hm);rw [Int.mul_add,Int.mul_one] at this;have e:(2 * hx x - 1) * m=2 * (m * hx x) - m:=by grind
 omega
def kI (s a d b:Int):Int:=if 2 * s≤a then 2 * s * d else a * b - 2 * (b - d) * (a - s)
def mE (s a d b:Int):Ex :=
 if b=0 then ⟨0,0,0,1⟩ else if 2 * s≤a then ⟨d * a * b - (a - 2 * s) * d * (b - d),0,0,b⟩
 else if 4 * d≤b then ⟨d * a * (b * b)+(2 * s - a) * d * (16 * d * d+3 * b * b - 12 * d * b),0,0,b * b⟩ else ⟨2 * d * (a - s),2 * s - a,d * b,1⟩
def nI (s a d b:Int):Ex:=if d=0 then ⟨0,0,0,1⟩ else if b * (a - s)≤d * a then ⟨a * b,0,0,1⟩ else ⟨a * a * d,0,0,a - s⟩
def qO (s a d b:Int):Ex:=if d=b then ⟨a * b,0,0,1⟩ else if s * b≤(b - d) * a then ⟨0,0,0,1⟩ else ⟨a * b * s - (b - d) * a * a,0,0,s⟩
def aR (mode s a d b:Int):Ex :=
 if mode=1 then ⟨s * b,0,0,1⟩ else if mode=2 then ⟨s * d,0,0,1⟩ else if mode=3 then ⟨s * b+d * a - s * d,0,0,1⟩
 else if mode=4 then ⟨kI d b s a,0,0,1⟩ else if mode=5 then ⟨min (s * b) (d * a),0,0,1⟩ else if mode=6 then ⟨max (s * b) (d * a),0,0,1⟩
 else if mode=7 then nI s a d b else if mode=8 then qO s a d b else if mode=9 then ⟨kI s a d b,0,0,1⟩ else if mode=10 then mE s a d b
 else if mode=11 then ⟨max (s * b) (d * a) - min (s * b) (d * a),0,0,1⟩ else ⟨s * b+d * a - 2 * s * d,0,0,1⟩
def jl (op a b m:Int):Int :=
 if op=2∨op=4 then m else if op=5∨op=8∨op=11∨op=12 then m - b else if op=6∨op=10 then b else 0
def jY (op a b m:Int):Int :=
 if op=3∨op=5 then m else if op=4∨op=9∨op=10∨op=12 then m - a else if op=7∨op=11 then a else 0
def dp (op mode m cs sl cb ab:Int):Ex :=
 ⟨(aR mode cs sl cb ab).p * jl op sl ab m+(m - ab) * cs * jl op sl ab m * (aR mode cs sl cb ab).d+jY op sl ab m * cb * m * (aR mode cs sl cb ab).d,
  jl op sl ab m * (aR mode cs sl cb ab).q,(aR mode cs sl cb ab).r,m * m * (aR mode cs sl cb ab).d⟩
def dN (op mode m cs sl cb ab:Int):Int:=hx (dp op mode m cs sl cb ab)
def dP (op a b m:Int):Int:=bV (jl op a b m * a+jY op a b m * b) m
def fk (op f g m:Int):Int :=
 if op=2∨op=8∨op=11 then f else if op=3∨op=9∨op=10 then g else if op=4∨op=5∨op=12 then bV (m * f+(m - f) * g) m
 else if op=6∨op=7 then bV (f * g) m else 0
def fe (mode m cs sl fs c cb ab:Int):Ex :=
 ⟨(aR mode cs sl cb ab).p+((m - fs) * c+(fs - sl) * cb+(m - ab) * cs) * (aR mode cs sl cb ab).d,(aR mode cs sl cb ab).q,(aR mode cs sl cb ab).r,m * (aR mode cs sl cb ab).d⟩
def dE (mode m cs sl fs c cb ab:Int):Int:=hx (fe mode m cs sl fs c cb ab)
def dA (m a f acc b:Int):Int:=bV ((m - f) * acc+(f - a) * b+m * a) m
structure Full (m:Int):Prop where
 h:m=255∨m=65535
theorem Full.pos {m:Int} (h:Full m):0<m:=by rcases h.h with q|q <;> omega
theorem Full.le {m:Int} (h:Full m):m≤65535:=by rcases h.h with q|q <;> omega
structure Pre (s a m:Int):Prop where
 s0:0≤s
 sa:s≤a
 am:a≤m
structure TermOk (x:Ex) (a b:Int):Prop where
 p0:0≤x.p
 q0:0≤x.q
 q1:x.q≤65535
 r0:0≤x.r
 r1:x.r≤4294836225
 d0:1≤x.d
 d1:x.d≤4294836225
 le:x.p≤a * b * x.d
 sq:x.q * x.q * x.r≤(a * b * x.d - x.p) * (a * b * x.d - x.p)
theorem ao {a b:Int} (ha:0≤a) (hb:0≤b):0≤a * b:=Int.mul_nonneg ha hb
theorem az {a b c d:Int} (h1:a≤c) (h2:b≤d) (h3:0≤b) (h4:0≤c):a * b≤c * d:=Int.mul_le_mul h1 h2 h3 h4
theorem uj (a:Int):0≤a * a:=by
 rcases Int.le_total 0 a with h|h
 ·exact Int.mul_nonneg h h
 ·exact Int.mul_nonneg_of_nonpos_of_nonpos h h
theorem dc {p a b:Int} (h0:0≤p) (h1:p≤a * b):TermOk ⟨p,0,0,1⟩ a b :=
 ⟨h0,Int.le_refl _,by grind,Int.le_refl _,by grind,by grind,by grind,by grind,by simpa using uj _⟩
theorem pD {p d a b:Int} (hd:1≤d) (hd1:d≤4294836225) (h0:0≤p) (h1:p≤a * b * d):TermOk ⟨p,0,0,d⟩ a b :=
 ⟨h0,Int.le_refl _,by grind,Int.le_refl _,by grind,hd,hd1,h1,by simpa using uj _⟩
theorem mV {s a d b:Int} (hs:0≤s) (hsa:s≤a) (hd:0≤d) (hdb:d≤b):0≤kI s a d b∧kI s a d b≤a * b:=by
 unfold kI;split
 ·have h1:0≤s * d:=ao hs hd;have h2:2 * s * d≤a * b:=az (by omega) hdb hd (by omega);grind
 ·have h1:0≤(b - d) * (a - s):=ao (by omega) (by omega);have h2:(b - d) * (2 * (a - s))≤b * a:=az (by omega) (by omega) (by omega) (by omega);grind
theorem xi {s a d b:Int} (hs0:0≤s) (hsa:s≤a) (ham:a≤65535) (hd0:0≤d) (hdb:d≤b) (hbm:b≤65535):TermOk (nI s a d b) a b:=by
 have ab0:0≤a * b:=ao (by omega) (by omega);unfold nI;split
 ·grind [dc]
 split
 ·grind [dc]
 ·rename_i h1 h2;have has:0<a - s:=by
   refine Int.not_le.1 fun q=>h2 ?_;rw [show a - s=0 by omega,Int.mul_zero];exact ao hd0 (by omega)
  refine pD (by omega) (by omega) (ao (ao (by omega) (by omega)) hd0) ?_;have:=Int.mul_le_mul_of_nonneg_left (show d * a≤b * (a - s) from Int.le_of_lt (Int.not_le.1 h2)) (show 0≤a by omega);grind
theorem sN {s a d b:Int} (hs0:0≤s) (hsa:s≤a) (ham:a≤65535) (hd0:0≤d) (hdb:d≤b) (hbm:b≤65535):TermOk (qO s a d b) a b:=by
 have ab0:0≤a * b:=ao (by omega) (by omega);unfold qO;split
 ·grind [dc]
 split
 ·grind [dc]
 ·rename_i h1 h2;have hs1:0<s:=by
   refine Int.not_le.1 fun q=>h2 ?_;rw [show s=0 by omega,Int.zero_mul];exact ao (by omega) (by omega)
  have h3:a * b * s - (b - d) * a * a=a * (s * b - (b - d) * a):=by grind
  refine pD (by omega) (by omega) ?_ ?_
  ·rw [h3];exact ao (by omega) (Int.sub_nonneg_of_le (Int.le_of_lt (Int.not_le.1 h2)))
  ·have:=ao (ao (show 0≤b - d by omega) (show 0≤a by omega)) (show 0≤a by omega);omega
theorem sE {d b:Int} (hd0:0≤d) (h4:4 * d≤b):0≤16 * d * d+3 * b * b - 12 * d * b∧16 * d * d+3 * b * b - 12 * d * b≤3 * (b * b):=by
 have g1:0≤(b - 4 * d) * (b - 4 * d):=uj _;have g2:0≤(b - 4 * d) * b:=ao (by omega) (by omega);have g3:0≤(b - 4 * d) * d:=ao (by omega) (by omega);have g4:0≤b * d:=ao (by omega) (by omega);grind
theorem sR {s a d b:Int} (hs0:0≤s) (hsa:s≤a) (ham:a≤65535) (hd0:0≤d) (hdb:d≤b) (hbm:b≤65535):TermOk (mE s a d b) a b:=by
 have ab0:0≤a * b:=ao (by omega) (by omega);have da0:0≤d * a:=ao hd0 (by omega);have da1:d * a≤a * b:=by rw [Int.mul_comm a b];exact az hdb (Int.le_refl _) (by omega) (by omega)
 unfold mE;split
 ·grind [dc]
 rename_i hb0;split
 ·rename_i hs2;refine pD (by omega) (by omega) ?_ ?_
  ·have h1:(a - 2 * s) * (b - d)≤a * b:=az (by omega) (by omega) (by omega) (by omega);have h2:=Int.mul_le_mul_of_nonneg_left h1 hd0;grind
  ·have h1:0≤(a - 2 * s) * d * (b - d):=ao (ao (by omega) hd0) (by omega);have h2:=Int.mul_le_mul_of_nonneg_right da1 (show 0≤b by omega);omega
 rename_i hsa2;split
 ·rename_i h4;have hbb:b * b≤65535 * 65535:=az (by omega) (by omega) (by omega) (by omega);have hb1:1 * 1≤b * b:=az (by omega) (by omega) (by omega) (by omega);obtain ⟨hpol,hpol2⟩:=sE hd0 h4;refine pD (by omega) (by omega) ?_ ?_
  ·exact Int.add_nonneg (ao da0 (by omega)) (ao (ao (by omega) hd0) hpol)
  ·have h1:(2 * s - a) * d * (16 * d * d+3 * b * b - 12 * d * b)≤a * d * (3 * (b * b)) :=
    az (az (by omega) (Int.le_refl _) hd0 (by omega)) hpol2 hpol (ao (by omega) hd0)
   have h2:=Int.mul_le_mul_of_nonneg_left h4 (ao (show 0≤a by omega) (show 0≤b * b by omega));grind
 ·rename_i h4;have h1:0≤d * (a - s):=ao hd0 (by omega);have h2:d * (a - s)≤b * (a - s):=az hdb (Int.le_refl _) (by omega) (by omega);have e1:2 * d * (a - s)=2 * (d * (a - s)):=by grind
  have e3:a * b * 1 - 2 * d * (a - s)=(2 * s - a) * b+2 * (b * (a - s) - d * (a - s)):=by grind
  have h3:0≤(2 * s - a) * b:=ao (by omega) (by omega);have h4:(2 * s - a) * (2 * s - a) * (d * b)≤(2 * s - a) * (2 * s - a) * (b * b):=Int.mul_le_mul_of_nonneg_left (az hdb (Int.le_refl _) (by omega) (by omega)) (uj _);have h5:(2 * s - a) * b * ((2 * s - a) * b)≤(a * b * 1 - 2 * d * (a - s)) * (a * b * 1 - 2 * d * (a - s)):=lG h3 (by omega);have e4:(2 * s - a) * b * ((2 * s - a) * b)=(2 * s - a) * (2 * s - a) * (b * b):=by grind
  have hdb2:d * b≤65535 * 65535:=az (by omega) (by omega) (by omega) (by omega);rw [e4] at h5;refine ⟨?_, ?_, ?_, ?_, ?_, ?_, ?_, ?_, ?_⟩
  ·grind
  ·grind
  ·grind
  ·exact ao hd0 (by omega)
  ·exact hdb2
  ·grind
  ·grind
  ·grind
  grind
theorem kT {p:Prop} [Decidable p] {x y:Ex} {a b:Int} (h1:TermOk x a b) (h2:TermOk y a b):TermOk (if p then x else y) a b:=by grind
theorem kk {mode s a d b m:Int} (hm:Full m) (hs:Pre s a m) (hd:Pre d b m):TermOk (aR mode s a d b) a b:=by
 obtain ⟨hs0,hsa,ham⟩:=hs;obtain ⟨hd0,hdb,hbm⟩:=hd;have hmle:=hm.le;have sb0:0≤s * b:=ao hs0 (by omega);have da0:0≤d * a:=ao hd0 (by omega);have sd0:0≤s * d:=ao hs0 hd0;have sb1:s * b≤a * b:=az hsa (Int.le_refl _) (by omega) (by omega);have da1:d * a≤a * b:=by rw [Int.mul_comm a b];exact az hdb (Int.le_refl _) (by omega) (by omega)
 have sd1:s * d≤a * b:=az hsa hdb hd0 (by omega);have sd2:s * d≤s * b:=az (Int.le_refl _) hdb hd0 hs0;have sd3:s * d≤d * a:=by rw [Int.mul_comm s d];exact az (Int.le_refl _) hsa hs0 hd0
 have scr:0≤(a - s) * (b - d):=ao (by omega) (by omega);have escr:(a - s) * (b - d)=a * b - s * b - d * a+s * d:=by grind
 have e2:2 * s * d=2 * (s * d):=Int.mul_assoc _ _ _;rw [escr] at scr;have hh1:=mV hs0 hsa hd0 hdb;have hh2:=mV hd0 hdb hs0 hsa;rw [Int.mul_comm b a] at hh2;have t7:=xi hs0 hsa (by omega) hd0 hdb (by omega);have t8:=sN hs0 hsa (by omega) hd0 hdb (by omega);have t10:=sR hs0 hsa (by omega) hd0 hdb (by omega);have t3:TermOk ⟨s * b+d * a - s * d,0,0,1⟩ a b:=dc (by omega) (by omega);have t5:TermOk ⟨min (s * b) (d * a),0,0,1⟩ a b:=dc (by omega) (by omega);have t6:TermOk ⟨max (s * b) (d * a),0,0,1⟩ a b:=dc (by omega) (by omega);have t11:TermOk ⟨max (s * b) (d * a) - min (s * b) (d * a),0,0,1⟩ a b:=dc (by omega) (by omega);have t12:TermOk ⟨s * b+d * a - 2 * s * d,0,0,1⟩ a b:=dc (by omega) (by omega);exact kT (dc sb0 sb1) (kT (dc sd0 sd1) (kT t3 (kT (dc hh2.1 hh2.2) (kT t5 (kT t6 (kT t7 (kT t8 (kT (dc hh1.1 hh1.2) (kT t10 (kT t11 t12))))))))))
section
theorem ki {op a b m:Int} (ha:0≤a) (ham:a≤m) (hb:0≤b) (hbm:b≤m):0≤jl op a b m∧jl op a b m≤m:=by grind [jl]
theorem lJ {op a b m:Int} (ha:0≤a) (ham:a≤m) (hb:0≤b) (hbm:b≤m):0≤jY op a b m∧jY op a b m≤m:=by grind [jY]
theorem Sk {x : Ex} {A : Int} (p0 : 0 ≤ x.p) (q0 : 0 ≤ x.q) (q1 : x.q < 70368744177664) (r0 : 0 ≤ x.r) (r1 : x.r < 8589934592) (d0 : 1 ≤ x.d) (d1 : x.d < 18446744073709551616)
  (pA:x.p≤A) (sq:x.q * x.q * x.r≤(A - x.p) * (A - x.p)) (hA:A≤131072 * x.d):ExOk x:=by
 refine ⟨p0,by omega,q0,q1,r0,r1,d0,d1, ?_⟩;simp only [nU,decide_eq_false_iff_not,Int.one_mul];rintro (h|h)
 ·omega
 ·have h1:(A - x.p+1) * (A - x.p+1)≤(4611686018427387904 * x.d - x.p) * (4611686018427387904 * x.d - x.p):=lG (by omega) (by omega);grind
theorem Zw {m:Int} (hm:Full m):m * m≤4294836225∧1≤m * m:=by
 rcases hm.h with rfl|rfl <;> decide
section
variable {op mode m cs sl cb ab:Int}
def rP (op m sl ab:Int):Int:=jl op sl ab m * sl+jY op sl ab m * ab
theorem RV (hm:Full m) (h1:0≤sl) (h2:sl≤m) (h3:0≤ab) (h4:ab≤m):0≤rP op m sl ab∧rP op m sl ab≤131070 * m:=by
 have ⟨a1,a2⟩:=ki (op:=op) h1 h2 h3 h4;have ⟨b1,b2⟩:=lJ (op:=op) h1 h2 h3 h4;have hle:=hm.le;have e1:jl op sl ab m * sl≤m * 65535:=az a2 (by omega) h1 (by omega);have e2:jY op sl ab m * ab≤m * 65535:=az b2 (by omega) h3 (by omega);have e3:=ao a1 h1;have e4:=ao b1 h3;grind [rP]
theorem BG (hm : Full m) (hs : Pre cs sl m) (hd : Pre cb ab m) :
  0≤(dp op mode m cs sl cb ab).p∧(dp op mode m cs sl cb ab).p≤rP op m sl ab * m * (aR mode cs sl cb ab).d ∧
   (dp op mode m cs sl cb ab).q * (dp op mode m cs sl cb ab).q * (dp op mode m cs sl cb ab).r ≤
    (rP op m sl ab * m * (aR mode cs sl cb ab).d - (dp op mode m cs sl cb ab).p) * (rP op m sl ab * m * (aR mode cs sl cb ab).d - (dp op mode m cs sl cb ab).p):=by
 have ht:=kk (mode:=mode) hm hs hd;obtain ⟨s0,sa,am⟩:=hs;obtain ⟨d0,db,bm⟩:=hd;have ⟨a1,a2⟩:=ki (op:=op) (show 0≤sl by omega) am (show 0≤ab by omega) bm;have ⟨b1,b2⟩:=lJ (op:=op) (show 0≤sl by omega) am (show 0≤ab by omega) bm;have hp:=hm.pos;obtain ⟨p0,q0,q1,r0,r1,dd0,dd1,ple,psq⟩:=ht;unfold dp rP;generalize aR mode cs sl cb ab=t at *
 generalize jl op sl ab m=fa at *
 generalize jY op sl ab m=fb at *
 dsimp only;have k1:0≤fa * ((m - ab) * (sl - cs) * t.d):=ao a1 (ao (ao (by omega) (by omega)) (by omega));have k2:0≤fb * ((ab - cb) * m * t.d):=ao b1 (ao (ao (by omega) (by omega)) (by omega));have k3:0≤fa * (sl * ab * t.d - t.p):=ao a1 (by omega);have e:(fa * sl+fb * ab) * m * t.d - (t.p * fa+(m - ab) * cs * fa * t.d+fb * cb * m * t.d)=fa * (sl * ab * t.d - t.p)+fa * ((m - ab) * (sl - cs) * t.d)+fb * ((ab - cb) * m * t.d):=by grind
 refine ⟨?_,by omega, ?_⟩
 ·exact Int.add_nonneg (Int.add_nonneg (ao p0 a1) (ao (ao (ao (by omega) s0) a1) (by omega))) (ao (ao (ao b1 d0) (by omega)) (by omega))
 ·rw [e];have h1:fa * (sl * ab * t.d - t.p) * (fa * (sl * ab * t.d - t.p))≤(fa * (sl * ab * t.d - t.p)+fa * ((m - ab) * (sl - cs) * t.d)+fb * ((ab - cb) * m * t.d)) * (fa * (sl * ab * t.d - t.p)+fa * ((m - ab) * (sl - cs) * t.d)+fb * ((ab - cb) * m * t.d)) :=
   lG k3 (by omega)
  refine Int.le_trans ?_ h1;have h2:=Int.mul_le_mul_of_nonneg_left psq (uj fa);grind
theorem kK (hm:Full m) (hs:Pre cs sl m) (hd:Pre cb ab m):ExOk (dp op mode m cs sl cb ab):=by
 obtain ⟨v0,v1,v2⟩:=BG (op:=op) (mode:=mode) hm hs hd;have ht:=kk (mode:=mode) hm hs hd;have ⟨n0,n1⟩:=RV (op:=op) hm (show 0≤sl by have:=hs.s0;have:=hs.sa;omega) hs.am (show 0≤ab by have:=hd.s0;have:=hd.sa;omega) hd.am;have ⟨a1,a2⟩:=ki (op:=op) (show 0≤sl by have:=hs.s0;have:=hs.sa;omega) hs.am (show 0≤ab by have:=hd.s0;have:=hd.sa;omega) hd.am;have hmle:=hm.le;have hp:=hm.pos;obtain ⟨mm1,mm2⟩:=Zw hm;refine Sk v0 ?_ ?_ ht.r0 ?_ ?_ ?_ v1 v2 ?_
 ·exact ao a1 ht.q0
 ·show jl op sl ab m * (aR mode cs sl cb ab).q<_;have:jl op sl ab m * (aR mode cs sl cb ab).q≤65535 * 65535:=az (by omega) ht.q1 ht.q0 (by omega);omega
 ·have:=ht.r1;grind [dp,aR]
 ·show 1≤m * m * (aR mode cs sl cb ab).d;have:1 * 1≤m * m * (aR mode cs sl cb ab).d:=az mm2 ht.d0 (by omega) (by omega);omega
 ·show m * m * (aR mode cs sl cb ab).d<_;have:m * m * (aR mode cs sl cb ab).d≤4294836225 * 4294836225:=az mm1 ht.d1 (by have:=ht.d0;omega) (by omega);omega
 ·show rP op m sl ab * m * (aR mode cs sl cb ab).d≤131072 * (m * m * (aR mode cs sl cb ab).d)
  have hd0:=ht.d0;generalize (aR mode cs sl cb ab).d=D at *
  have e1:rP op m sl ab * m * D≤131070 * m * m * D:=az (az n1 (Int.le_refl _) (by omega) (by omega)) (Int.le_refl _) (by omega) (ao (by omega) (by omega));grind
theorem vJ (hm:Full m) (hs:Pre cs sl m) (hd:Pre cb ab m):0≤dN op mode m cs sl cb ab:=(lI (kK hm hs hd)).2.2
theorem oE (hm:Full m) (hs:Pre cs sl m) (hd:Pre cb ab m):dN op mode m cs sl cb ab≤dP op sl ab m:=by
 obtain ⟨v0,v1,v2⟩:=BG (op:=op) (mode:=mode) hm hs hd;refine Sd (kK hm hs hd) hm.pos ?_ ?_
 ·show (dp op mode m cs sl cb ab).p * m≤rP op m sl ab * (m * m * (aR mode cs sl cb ab).d)
  have:=Int.mul_le_mul_of_nonneg_right v1 (Int.le_of_lt hm.pos);grind
 ·have e:rP op m sl ab * (m * m * (aR mode cs sl cb ab).d) - (dp op mode m cs sl cb ab).p * m=(rP op m sl ab * m * (aR mode cs sl cb ab).d - (dp op mode m cs sl cb ab).p) * m:=by grind
  show (dp op mode m cs sl cb ab).q * (dp op mode m cs sl cb ab).q * (dp op mode m cs sl cb ab).r * (m * m)≤(rP op m sl ab * (m * m * (aR mode cs sl cb ab).d) - (dp op mode m cs sl cb ab).p * m) * (rP op m sl ab * (m * m * (aR mode cs sl cb ab).d) - (dp op mode m cs sl cb ab).p * m)
  rw [e];have:=Int.mul_le_mul_of_nonneg_right v2 (uj m);grind
variable {fs c acc:Int}
def GR (m fs sl acc ab:Int):Int:=(m - fs) * acc+(fs - sl) * ab+m * sl
theorem CQ (hm : Full m) (hs : Pre cs sl m) (hd : Pre cb ab m) (hf : sl ≤ fs) (hfm : fs ≤ m) (hc : 0 ≤ c) (hca : c ≤ acc) :
  0≤(fe mode m cs sl fs c cb ab).p∧(fe mode m cs sl fs c cb ab).p≤GR m fs sl acc ab * (aR mode cs sl cb ab).d ∧
   (fe mode m cs sl fs c cb ab).q * (fe mode m cs sl fs c cb ab).q * (fe mode m cs sl fs c cb ab).r ≤
    (GR m fs sl acc ab * (aR mode cs sl cb ab).d - (fe mode m cs sl fs c cb ab).p) * (GR m fs sl acc ab * (aR mode cs sl cb ab).d - (fe mode m cs sl fs c cb ab).p):=by
 have ht:=kk (mode:=mode) hm hs hd;obtain ⟨s0,sa,am⟩:=hs;obtain ⟨d0,db,bm⟩:=hd;have hp:=hm.pos;obtain ⟨p0,q0,q1,r0,r1,dd0,dd1,ple,psq⟩:=ht;unfold fe GR;generalize aR mode cs sl cb ab=t at *
 dsimp only;have k1:0≤(m - fs) * (acc - c) * t.d:=ao (ao (by omega) (by omega)) (by omega);have k2:0≤(fs - sl) * (ab - cb) * t.d:=ao (ao (by omega) (by omega)) (by omega);have k3:0≤(m - ab) * (sl - cs) * t.d:=ao (ao (by omega) (by omega)) (by omega);have e:((m - fs) * acc+(fs - sl) * ab+m * sl) * t.d - (t.p+((m - fs) * c+(fs - sl) * cb+(m - ab) * cs) * t.d)=(sl * ab * t.d - t.p)+(m - fs) * (acc - c) * t.d+(fs - sl) * (ab - cb) * t.d+(m - ab) * (sl - cs) * t.d:=by grind
 refine ⟨?_,by omega, ?_⟩
 ·exact Int.add_nonneg p0 (ao (Int.add_nonneg (Int.add_nonneg (ao (by omega) hc) (ao (by omega) d0)) (ao (by omega) s0)) (by omega))
 ·rw [e];exact Int.le_trans psq (lG (by omega) (by omega))
theorem MT (hm:Full m) (h1:0≤sl) (h2:sl≤fs) (h3:fs≤m) (h4:0≤acc) (h5:acc≤m) (h6:0≤ab) (h7:ab≤m):0≤GR m fs sl acc ab∧GR m fs sl acc ab≤m * m:=by
 have k1:0≤(m - fs) * (m - acc):=ao (by omega) (by omega);have k2:0≤(fs - sl) * (m - ab):=ao (by omega) (by omega);have k4:0≤(m - fs) * acc:=ao (by omega) h4;have k5:0≤(fs - sl) * ab:=ao (by omega) h6;have k6:0≤m * sl:=ao (by omega) h1;grind [GR]
theorem oj (hm:Full m) (hs:Pre cs sl m) (hd:Pre cb ab m) (hf:sl≤fs) (hfm:fs≤m) (hc:0≤c) (hcm:c≤m):ExOk (fe mode m cs sl fs c cb ab):=by
 obtain ⟨v0,v1,v2⟩:=CQ (mode:=mode) (acc:=m) hm hs hd hf hfm hc hcm;have ht:=kk (mode:=mode) hm hs hd;have hp:=hm.pos;have hle:=hm.le;have ⟨n0,n1⟩:=MT (acc:=m) hm (show 0≤sl by have:=hs.s0;have:=hs.sa;omega) hf hfm (by omega) (Int.le_refl _) (show 0≤ab by have:=hd.s0;have:=hd.sa;omega) hd.am;refine Sk v0 ht.q0 ?_ ht.r0 ?_ ?_ ?_ v1 v2 ?_
 ·have:=ht.q1;grind [fe,aR]
 ·have:=ht.r1;grind [fe,aR]
 ·show 1≤m * (aR mode cs sl cb ab).d;have:1 * 1≤m * (aR mode cs sl cb ab).d:=az hp ht.d0 (by omega) (by omega);omega
 ·show m * (aR mode cs sl cb ab).d<_;have:m * (aR mode cs sl cb ab).d≤65535 * 4294836225:=az hle ht.d1 (by have:=ht.d0;omega) (by omega);omega
 ·show GR m fs sl m ab * (aR mode cs sl cb ab).d≤131072 * (m * (aR mode cs sl cb ab).d)
  have hd0:=ht.d0;generalize (aR mode cs sl cb ab).d=D at *
  have e1:GR m fs sl m ab * D≤65535 * m * D:=az (Int.le_trans n1 (az hle (Int.le_refl _) (by omega) (by omega))) (Int.le_refl _) (by omega) (by omega);grind
theorem xq (hm:Full m) (hs:Pre cs sl m) (hd:Pre cb ab m) (hf:sl≤fs) (hfm:fs≤m) (hc:0≤c) (hcm:c≤m):0≤dE mode m cs sl fs c cb ab:=(lI (oj hm hs hd hf hfm hc hcm)).2.2
theorem oe (hm:Full m) (hs:Pre cs sl m) (hd:Pre cb ab m) (hf:sl≤fs) (hfm:fs≤m) (hc:0≤c) (hca:c≤acc) (ham:acc≤m):dE mode m cs sl fs c cb ab≤dA m sl fs acc ab:=by
 obtain ⟨v0,v1,v2⟩:=CQ (mode:=mode) hm hs hd hf hfm hc hca;refine Sd (oj hm hs hd hf hfm hc (by omega)) hm.pos ?_ ?_
 ·show (fe mode m cs sl fs c cb ab).p * m≤GR m fs sl acc ab * (m * (aR mode cs sl cb ab).d)
  have:=Int.mul_le_mul_of_nonneg_right v1 (Int.le_of_lt hm.pos);grind
 ·have e:GR m fs sl acc ab * (m * (aR mode cs sl cb ab).d) - (fe mode m cs sl fs c cb ab).p * m=(GR m fs sl acc ab * (aR mode cs sl cb ab).d - (fe mode m cs sl fs c cb ab).p) * m:=by grind
  show (fe mode m cs sl fs c cb ab).q * (fe mode m cs sl fs c cb ab).q * (fe mode m cs sl fs c cb ab).r * (m * m)≤(GR m fs sl acc ab * (m * (aR mode cs sl cb ab).d) - (fe mode m cs sl fs c cb ab).p * m) * (GR m fs sl acc ab * (m * (aR mode cs sl cb ab).d) - (fe mode m cs sl fs c cb ab).p * m)
  rw [e];have:=Int.mul_le_mul_of_nonneg_right v2 (uj m);grind
end
end
section
section
variable {op m a b f g:Int}
theorem Cy (hm:Full m) (ha:0≤a) (ham:a≤m) (hb:0≤b) (hbm:b≤m):0≤dP op a b m:=by
 have ⟨a1,a2⟩:=ki (op:=op) ha ham hb hbm;have ⟨b1,b2⟩:=lJ (op:=op) ha ham hb hbm;exact dL hm.pos (Int.add_nonneg (ao a1 ha) (ao b1 hb))
def TW (op f g m:Int):Int :=
 if op=2∨op=8∨op=11 then m * f else if op=3∨op=9∨op=10 then m * g else if op=4∨op=5∨op=12 then m * f+(m - f) * g
 else if op=6∨op=7 then f * g else 0
theorem qA (hm:Full m):fk op f g m=bV (TW op f g m) m:=by
 unfold fk TW;grind [bV,oY,Full.pos,jJ]
theorem TH (hf:0≤f) (hfm:f≤m) (hg:0≤g) (hgm:g≤m):0≤TW op f g m∧TW op f g m≤m * m:=by
 have k1:0≤m * f:=ao (by omega) hf;have k2:0≤m * g:=ao (by omega) hg;have k3:0≤(m - f) * g:=ao (by omega) hg;have k4:0≤f * g:=ao hf hg;have k5:m * f≤m * m:=az (Int.le_refl _) hfm hf (by omega);have k6:m * g≤m * m:=az (Int.le_refl _) hgm hg (by omega);have k7:(m - f) * g≤(m - f) * m:=az (Int.le_refl _) hgm hg (by omega);have k8:f * g≤m * m:=az hfm hgm hg (by omega);have e:(m - f) * m=m * m - m * f:=by grind
 have k9:0≤m * m:=ao (by omega) (by omega);unfold TW;omega
theorem ov (hm:Full m) (hf:0≤f) (hfm:f≤m) (hg:0≤g) (hgm:g≤m):0≤fk op f g m∧fk op f g m≤m:=by
 rw [qA hm];obtain ⟨h1,h2⟩:=TH (op:=op) hf hfm hg hgm;exact ⟨dL hm.pos h1,rj hm.pos h2⟩
theorem uu (hm:Full m) (ha:0≤a) (haf:a≤f) (hfm:f≤m) (hb:0≤b) (hbg:b≤g) (hgm:g≤m):dP op a b m≤fk op f g m:=by
 rw [qA hm];refine jn hm.pos ?_;have k1:m * a≤m * f:=az (Int.le_refl _) haf ha (by omega);have k2:m * b≤m * g:=az (Int.le_refl _) hbg hb (by omega);have k3:0≤a * b:=ao ha hb;have k4:a * b≤f * g:=az haf hbg hb (by omega);have k5:0≤(m - g) * (f - a):=ao (by omega) (by omega);have k6:0≤(m - a) * (g - b):=ao (by omega) (by omega);have k7:0≤m * a:=ao (by omega) ha;have k8:0≤m * b:=ao (by omega) hb;have k9:0≤(m - b) * (f - a):=ao (by omega) (by omega);have k10:0≤(m - f) * (g - b):=ao (by omega) (by omega);have e1:(m - g) * (f - a)=m * f - m * a - f * g+a * g:=by grind
 have e2:(m - a) * (g - b)=m * g - m * b - a * g+a * b:=by grind
 have e3:(m - b) * a=m * a - a * b:=by grind
 have e4:(m - a) * b=m * b - a * b:=by grind
 have e5:(m - f) * g=m * g - f * g:=by grind
 have e6:b * a=a * b:=Int.mul_comm _ _;unfold TW jl jY;grind
theorem oM (hm:Full m) (ha:0≤a) (ham:a≤m) (hb:0≤b) (hbm:b≤m):dP op a b m≤m :=
 Int.le_trans (uu hm ha (Int.le_refl _) ham hb (Int.le_refl _) hbm) (ov hm ha ham hb hbm).2
theorem Hl {a b b':Int} (hm:Full m) (ha:0≤a) (ham:a≤m) (h:b≤b'):dP 4 a b m≤dP 4 a b' m:=by
 refine jn hm.pos ?_;rw [show jl 4 a b m=m from rfl,show jY 4 a b m=m - a from rfl,show jl 4 a b' m=m from rfl,show jY 4 a b' m=m - a from rfl];have:=Int.mul_le_mul_of_nonneg_left h (show 0≤m - a by omega);omega
end
section
variable {m a f acc acc' b:Int}
theorem kA (hm:Full m) (ha:0≤a) (haf:a≤f) (hfm:f≤m) (h1:0≤acc) (h2:acc≤m) (h3:0≤b) (h4:b≤m):0≤dA m a f acc b∧dA m a f acc b≤m:=by
 have ⟨n0,n1⟩:=MT (fs:=f) (sl:=a) (acc:=acc) (ab:=b) hm ha haf hfm h1 h2 h3 h4;exact ⟨dL hm.pos n0,rj hm.pos n1⟩
theorem BW {b':Int} (hm:Full m) (haf:a≤f) (hfm:f≤m) (h:acc≤acc') (hb:b≤b'):dA m a f acc b≤dA m a f acc' b':=by
 refine jn hm.pos ?_;have h1:=Int.mul_le_mul_of_nonneg_left h (show 0≤m - f by omega);have h2:=Int.mul_le_mul_of_nonneg_left hb (show 0≤f - a by omega);omega
theorem AG {g:Int} (hm:Full m) (ha:0≤a) (haf:a≤f) (hfm:f≤m) (h1:0≤acc) (hg:acc≤g) (hgm:g≤m):dA m a f acc 0≤fk 4 f g m:=by
 rw [qA hm];refine jn hm.pos ?_;rw [show TW 4 f g m=m * f+(m - f) * g from rfl];have h2:=Int.mul_le_mul_of_nonneg_left hg (show 0≤m - f by omega);have h3:=Int.mul_le_mul_of_nonneg_left haf (show 0≤m by omega);omega
end
structure Acc where
 c0:Int
 c1:Int
 c2:Int
 a:Int
 own:Int
 f:Int
 deriving DecidableEq,Inhabited
structure PixV (p:Pixel) (m:Int):Prop where
 n0:0≤p.c0
 n1:0≤p.c1
 n2:0≤p.c2
 l0:p.c0≤p.a
 l1:p.c1≤p.a
 l2:p.c2≤p.a
 af:p.a≤p.f
 fm:p.f≤m
structure AccV (x:Acc) (b:Pixel) (m:Int):Prop where
 n0:0≤x.c0
 n1:0≤x.c1
 n2:0≤x.c2
 l0:x.c0≤x.a
 l1:x.c1≤x.a
 l2:x.c2≤x.a
 o0:0≤x.own
 oa:x.own≤x.a
 of:x.own≤x.f
 am:x.a≤m
 fm:x.f≤m
 bk:PixV b m
 bf:b.f=b.a
theorem PixV.a0 {p:Pixel} {m:Int} (h:PixV p m):0≤p.a:=Int.le_trans h.n0 h.l0
theorem PixV.am {p:Pixel} {m:Int} (h:PixV p m):p.a≤m:=Int.le_trans h.af h.fm
theorem PixV.f0 {p:Pixel} {m:Int} (h:PixV p m):0≤p.f:=Int.le_trans h.a0 h.af
theorem AccV.a0 {x:Acc} {b:Pixel} {m:Int} (h:AccV x b m):0≤x.a:=Int.le_trans h.n0 h.l0
theorem AccV.f0 {x:Acc} {b:Pixel} {m:Int} (h:AccV x b m):0≤x.f:=Int.le_trans h.o0 h.of
theorem AccV.om {x:Acc} {b:Pixel} {m:Int} (h:AccV x b m):x.own≤m:=Int.le_trans h.oa h.am
def bQ:Pixel:=⟨0,0,0,0,0⟩
def sy:Acc:=⟨0,0,0,0,0,0⟩
theorem ta {m:Int} (hm:Full m):PixV bQ m:=by
 have:=hm.pos;constructor <;> simp only [bQ] <;> omega
theorem SQ {m:Int} (hm:Full m):AccV sy bQ m:=by
 have:=hm.pos;refine ⟨?_, ?_, ?_, ?_, ?_, ?_, ?_, ?_, ?_, ?_, ?_,ta hm,rfl⟩ <;> simp only [sy] <;> omega
def eA (isolated knockout:Bool) (outer:Acc) (back:Pixel):Pixel :=
 if isolated=true then bQ else if knockout=true then back else ⟨outer.c0,outer.c1,outer.c2,outer.a,outer.a⟩
def oU (b:Pixel):Acc:=⟨b.c0,b.c1,b.c2,b.a,0,0⟩
def cT (ko:Bool) (op mode m:Int) (s:Pixel) (x:Acc) (b:Pixel):Acc :=
 if ko=true then ⟨dE mode m s.c0 s.a s.f x.c0 b.c0 b.a,dE mode m s.c1 s.a s.f x.c1 b.c1 b.a,dE mode m s.c2 s.a s.f x.c2 b.c2 b.a,dA m s.a s.f x.a b.a,dA m s.a s.f x.own 0,fk op s.f x.f m⟩
 else ⟨dN op mode m s.c0 s.a x.c0 x.a,dN op mode m s.c1 s.a x.c1 x.a,dN op mode m s.c2 s.a x.c2 x.a,dP op s.a x.a m,dP op s.a x.own m,fk op s.f x.f m⟩
def iI (c k own m:Int):Int:=if (m - own) * k<m * c then min (bV (m * c - (m - own) * k) m) own else 0
def bI (x:Acc) (b:Pixel) (m:Int):Pixel:=⟨iI x.c0 b.c0 x.own m,iI x.c1 b.c1 x.own m,iI x.c2 b.c2 x.own m,x.own,x.f⟩
def bF (p:Pixel) (k m:Int):Pixel:=⟨bV (p.c0 * k) m,bV (p.c1 * k) m,bV (p.c2 * k) m,bV (p.a * k) m,bV (p.f * k) m⟩
theorem Pu {i k:Bool} {x:Acc} {b:Pixel} {m:Int} (hm:Full m) (h:AccV x b m):PixV (eA i k x b) m∧(eA i k x b).f=(eA i k x b).a:=by
 have hp:=hm.pos;unfold eA;split
 ·grind [bQ,ta]
 split
 ·exact ⟨h.bk,h.bf⟩
 ·exact ⟨⟨h.n0,h.n1,h.n2,h.l0,h.l1,h.l2,Int.le_refl _,h.am⟩,rfl⟩
theorem Rr {b:Pixel} {m:Int} (h:PixV b m) (hf:b.f=b.a):AccV (oU b) b m :=
 ⟨h.n0,h.n1,h.n2,h.l0,h.l1,h.l2,Int.le_refl _,h.a0,Int.le_refl _,h.am,Int.le_trans h.f0 h.fm,h,hf⟩
theorem mX {p:Pixel} {k m:Int} (hm:Full m) (h:PixV p m) (hk:0≤k) (hkm:k≤m):PixV (bF p k m) m:=by
 have mono:∀ {x y:Int},x≤y→bV (x * k) m≤bV (y * k) m:=fun q=>jn hm.pos (Int.mul_le_mul_of_nonneg_right q hk);refine ⟨dL hm.pos (ao h.n0 hk),dL hm.pos (ao h.n1 hk),dL hm.pos (ao h.n2 hk),mono h.l0,mono h.l1,mono h.l2,mono h.af,rj hm.pos ?_⟩;rw [Int.mul_comm m m];exact az h.fm hkm hk (Int.le_of_lt hm.pos)
theorem Fk {p:Pixel} {m:Int} (hm:Full m):bF p m m=p:=by
 have e:∀ x:Int,bV (x * m) m=x:=fun x=>by rw [Int.mul_comm,jJ hm.pos]
 simp_all [bF]
theorem vY {p:Pixel} {m:Int} (hm:Full m):bF p 0 m=bQ:=by simp only [bF,Int.mul_zero,oY hm.pos];rfl
theorem pU {k m:Int} (hm:Full m):bF bQ k m=bQ:=by simp only [bF,bQ,Int.zero_mul,oY hm.pos]
theorem mN {x:Acc} {b:Pixel} {m:Int} (hm:Full m) (h:AccV x b m):PixV (bI x b m) m:=by
 have c0:∀ {c k:Int},0≤iI c k x.own m:=fun {c k}=>by
  unfold iI;split
  ·have:=dL (n:=m * c - (m - x.own) * k) hm.pos (by omega);have:=h.o0;omega
  omega
 have c1:∀ {c k:Int},iI c k x.own m≤x.own:=fun {c k}=>by
  unfold iI;split
  ·omega
  ·exact h.o0
 exact ⟨c0,c0,c0,c1,c1,c1,h.of,h.fm⟩
theorem UV {ko:Bool} {op mode m:Int} {s:Pixel} {x:Acc} {b:Pixel} (hm:Full m) (hs:PixV s m) (h:AccV x b m) (hop:op=4∨ko=false∧x.own=x.a):AccV (cT ko op mode m s x b) b m:=by
 have b0:=h.bk;unfold cT;split
 ·rename_i hk;have h4:op=4:=hop.elim id fun q=>by grind
  subst h4;have kb:=kA (a:=s.a) (f:=s.f) (acc:=x.a) (b:=b.a) hm hs.a0 hs.af hs.fm h.a0 h.am b0.a0 b0.am;have ko':=kA (a:=s.a) (f:=s.f) (acc:=x.own) (b:=0) hm hs.a0 hs.af hs.fm h.o0 h.om (Int.le_refl _) (Int.le_of_lt hm.pos);have p0:Pre s.c0 s.a m:=⟨hs.n0,hs.l0,hs.am⟩
  have p1:Pre s.c1 s.a m:=⟨hs.n1,hs.l1,hs.am⟩
  have p2:Pre s.c2 s.a m:=⟨hs.n2,hs.l2,hs.am⟩
  have d0:Pre b.c0 b.a m:=⟨b0.n0,b0.l0,b0.am⟩
  have d1:Pre b.c1 b.a m:=⟨b0.n1,b0.l1,b0.am⟩
  have d2:Pre b.c2 b.a m:=⟨b0.n2,b0.l2,b0.am⟩
  have t0:=h.l0;have t1:=h.l1;have t2:=h.l2;have t3:=h.am;have sh:=(ov (op:=4) hm hs.f0 hs.fm h.f0 h.fm).2
  exact ⟨xq hm p0 d0 hs.af hs.fm h.n0 (by omega),xq hm p1 d1 hs.af hs.fm h.n1 (by omega),xq hm p2 d2 hs.af hs.fm h.n2 (by omega),
   oe hm p0 d0 hs.af hs.fm h.n0 t0 t3,oe hm p1 d1 hs.af hs.fm h.n1 t1 t3,oe hm p2 d2 hs.af hs.fm h.n2 t2 t3,ko'.1,
   BW hm hs.af hs.fm h.oa b0.a0,AG hm hs.a0 hs.af hs.fm h.o0 h.of h.fm,kb.2,sh,b0,h.bf⟩
 ·have p0:Pre s.c0 s.a m:=⟨hs.n0,hs.l0,hs.am⟩
  have p1:Pre s.c1 s.a m:=⟨hs.n1,hs.l1,hs.am⟩
  have p2:Pre s.c2 s.a m:=⟨hs.n2,hs.l2,hs.am⟩
  have d0:Pre x.c0 x.a m:=⟨h.n0,h.l0,h.am⟩
  have d1:Pre x.c1 x.a m:=⟨h.n1,h.l1,h.am⟩
  have d2:Pre x.c2 x.a m:=⟨h.n2,h.l2,h.am⟩
  have hoa:dP op s.a x.own m≤dP op s.a x.a m:=by
   rcases hop with rfl|⟨_,q⟩
   ·exact Hl hm hs.a0 hs.am h.oa
   ·grind
  have sh:=(ov (op:=op) hm hs.f0 hs.fm h.f0 h.fm).2
  exact ⟨vJ hm p0 d0,vJ hm p1 d1,vJ hm p2 d2,oE hm p0 d0,oE hm p1 d1,oE hm p2 d2,Cy hm hs.a0 hs.am h.o0 h.om,hoa,
   uu hm hs.a0 hs.af hs.fm h.o0 h.of h.fm,oM hm hs.a0 hs.am h.a0 h.am,sh,b0,h.bf⟩
theorem La {ko:Bool} {op mode m:Int} {s:Pixel} {x:Acc} {b:Pixel} (hb:b.a=0) (h:x.own=x.a):(cT ko op mode m s x b).own=(cT ko op mode m s x b).a:=by grind [cT,dA,dP]
end
end Go.Proofs.YtcbifofjjpfbcaaGreatDoor
