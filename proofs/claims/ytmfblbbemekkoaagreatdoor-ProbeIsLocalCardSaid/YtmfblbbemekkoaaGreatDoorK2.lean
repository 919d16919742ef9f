/- Part of the proof: SlK, SlL, SlM. -/
import Derived.Test.YtmfblbbemekkoaaGreatDoorK1
set_option linter.unusedSimpArgs false
namespace Go.SL
open Go
section
variable {S:Env} {E:Ent} {st:St} {ρ:ey} {a:Act} {w:World} {Q:Exit→Act→World→Prop}
theorem wZ {o : Oper} {s : Sem Value} {v : Value} {w' : World} {next : Act → World → Prop} (he : execOp a.eval o = (do pure (Next.value (← s)) : Sem Next)) (hr : s.run S.P w = .ok v w') (hn : next (a.put o.dst v) w') :
  o.wp S.P a w next Q:=by
 unfold Oper.wp
 rw [he]
 simp only [Sem.run_bind,hr,Result.andThen_ok,Sem.run_pure]
 exact hn
theorem OD {o : Oper} {s : Sem Unit} {w' : World} {next : Act → World → Prop} (he : execOp a.eval o = (do s; pure Next.skip : Sem Next)) (hr : s.run S.P w = .ok () w') (hn : next (a.put o.dst undef) w') :
  o.wp S.P a w next Q:=by
 unfold Oper.wp
 rw [he]
 simp only [Sem.run_bind,hr,Result.andThen_ok,Sem.run_pure]
 exact hn
theorem rj.nxt' {K : SV → St → Prop} {Kn : St → Prop} {d : Option Nat} {v : Value} {w' : World} (hd : ∀ k, d = some k → k < E.N) (hK : ∀ r st', K r st' → Kn (st'.set d r)) (h : rj S E K a v w') :
  iZ S E Kn (a.put d v) w':=by
 obtain ⟨st',ρ',r,g,hr,hl,hk⟩:=h
 exact iZ.mk_set g hd hl hr (hK _ _ hk)
theorem zO {ρ:ey} {ok:Nat→Prop} {u:Value}:aU ρ ok w .any u:=trivial
theorem Au {x:SV} {k:IntKind} {n:Int} {ok:Nat→Prop} {u:Value} (h:x = .b (.c (.p (.val (.int k n))))) (hd:aU ρ ok w x u):u = .int k n:=by subst h;exact hd
theorem AW {o : Oper} {K : SV → St → Prop} {Kn : St → Prop} (h : cu S st (st.ev S) o.op K) (hc : ∀ x ∈ o.op.operands, (st.ev S x).cond) (hd : ∀ k, o.dst = some k → k < E.N) (g : Gam S E st ρ a w)
  (hK:∀ r st',K r st'→Kn (st'.set o.dst r)):o.wp S.P a w (iZ S E Kn) Q:=by
 have D:∀ x,x ∈ o.op.operands→aU ρ (bj E st.bx ρ w) w (st.ev S x).strip (a.eval x):=fun x hx=>gN (g.ev x).1 (hc x hx)
 have L:∀ x,(st.ev S x).strip.lt st.nx:=fun x=>nv (g.ev x).2
 cases hop:o.op with
 | build t parts =>
  rw [hop] at h
  simp only [cu] at h
  split at h
  ·rename_i pl z hb hz
   split at h
   ·rename_i vc cs hf
    obtain ⟨v,hr,hv,hl⟩:=xk hb hz hf h.1 g (fun p hp=>hc p.2 (by rw [hop];simp only [Op.operands,List.mem_toArray,List.mem_map];exact ⟨p,hp,rfl⟩))
    exact wZ (by simp only [execOp,hop]) hr (iZ.mk_set g hd hl hv (hK _ _ h.2))
   ·exact h.elim
  ·exact h.elim
 | alloc t =>
  rw [hop] at h
  simp only [cu] at h
  split at h
  ·rename_i z hz
   obtain ⟨v,w',hr,hm⟩:=vQ hz g h
   exact wZ (by simp only [execOp,hop]) hr (hm.nxt' hd hK)
  ·exact h.elim
 | box t x =>
  rw [hop] at h
  simp only [cu] at h
  split at h
  ·rename_i v hx
   have hdx:=D x (by rw [hop];simp [Op.operands])
   have hlx:=L x
   rw [hx] at hdx hlx
   obtain ⟨y,w',hr,hm⟩:=AV (t:=t) h.1 hdx hlx g h.2
   exact wZ (by simp only [execOp,hop]) hr (hm.nxt' hd hK)
  ·exact h.elim
 | buildSlice t len parts =>
  rw [hop] at h
  simp only [cu] at h
  split at h
  ·rename_i e s ag he
   split at h
   ·rename_i z hz
    split at h
    ·rename_i vc cs hf
     obtain ⟨⟨h1,h2,h3,h4,h5⟩,hk⟩:=h
     obtain ⟨y,w',hr,hm⟩:=oy he hz hf h1 h2 h3 h4 h5 g (fun p hp=>hc p.2 (by rw [hop];simp only [Op.operands,List.mem_toArray,List.mem_map];exact ⟨p,hp,rfl⟩)) hk
     exact wZ (by simp only [execOp,hop]) hr (hm.nxt' hd hK)
    ·exact h.elim
   ·exact h.elim
  ·exact h.elim
 | store t p x =>
  rw [hop] at h
  simp only [cu] at h
  have hdp:=D p (by rw [hop];simp [Op.operands])
  have hdx:=D x (by rw [hop];simp [Op.operands])
  have hlx:=L x
  split at h
  ·rename_i id off v sz ag hp hx ht
   split at h
   ·rename_i cs hb
    obtain ⟨⟨h1,h2,h3⟩,hk⟩:=h
    rw [hp] at hdp
    rw [hx] at hdx hlx
    obtain ⟨w',hr,g',hk'⟩:=rq ht hb h1 h2 h3 hdp hdx hlx g hk
    exact OD (by simp only [execOp,hop]) hr (iZ.mk_set (r := .any) g' hd trivial zO (hK _ _ hk'))
   ·exact h.elim
  ·rename_i id s i off v sz ag hp hx ht
   split at h
   ·rename_i e s' n f hb
    obtain ⟨⟨rfl,h1,h2,h3,h4,h5⟩,hk⟩:=h
    rw [hp] at hdp
    rw [hx] at hdx hlx
    obtain ⟨w',hr,g',hk'⟩:=rf ht hb h1 h3 h2 h4 hdp hdx g hk
    exact OD (by simp only [execOp,hop]) hr (iZ.mk_set (r := .any) g' hd trivial zO (hK _ _ hk'))
   ·exact h.elim
  ·exact h.elim
 | makeSlice t l c =>
  rw [hop] at h
  simp only [cu] at h
  split at h
  ·rename_i kl l' kc c' e s ag hl hcc he
   split at h
   ·rename_i z i hz hi
    obtain ⟨⟨h1,h2,h3,h4,h5,h6⟩,hk⟩:=h
    obtain ⟨y,w',hr,hm⟩:=pn (kl:=kl) (kc:=kc) he hz hi h1 h2 h3 h4 h5 h6 g hk
    have e1:=Au hl (D l (by rw [hop];simp [Op.operands]))
    have e2:=Au hcc (D c (by rw [hop];simp [Op.operands]))
    exact wZ (by simp only [execOp,hop,e1,e2]) hr (hm.nxt' hd hK)
   ·exact h.elim
  ·exact h.elim
 | call c =>
  obtain ⟨callee,args,ts⟩:=c
  rw [hop] at h
  simp only [cu] at h
  split at h
  ·rename_i x y t t' h2 h3
   have ha:args = #[x,y]:=by rw [← Array.toArray_toList (xs:=args),h2]
   have ht:ts = #[t,t']:=by rw [← Array.toArray_toList (xs:=ts),h3]
   subst ha;subst ht
   have hdx:=D x (by rw [hop];simp [Op.operands,Call.operands])
   have hdy:=D y (by rw [hop];simp [Op.operands,Call.operands])
   split at h
   ·rename_i e s ag vc sz m gg he hsrc
    split at h
    ·rename_i i z hi hz hx
     obtain ⟨⟨h1,rfl,h3,h4,h5,h6,h7⟩,hk⟩:=h
     rw [hx] at hdx
     have ex:a.eval x = .slice none 0 0:=hdx
     obtain ⟨v,w',hr,hm⟩:=pv (ty:=o.type) he hz hi hsrc h1 h3 h4 h5 h6 h7 g hdy hk
     exact wZ (s:=Builtin.append_ #[t,t] o.type #[.slice none 0 0,a.eval y]) (by simp [execOp,hop,resolve,invoke,builtin,ex]) hr (hm.nxt' hd hK)
    ·rename_i i z id n hi hz hx
     split at h
     ·rename_i e' s' n' f hb
      obtain ⟨⟨h1,rfl,rfl,rfl,hnn,h3,h4,h5,h6,h7⟩,hk⟩:=h
      rw [hx] at hdx
      obtain ⟨v,w',hr,hm⟩:=pw (ty:=o.type) he hz hi hsrc h1 h3 h4 h5 h6 h7 g hdy hb hnn hdx hk
      exact wZ (s:=Builtin.append_ #[t,t] o.type #[a.eval x,a.eval y]) (by simp [execOp,hop,resolve,invoke,builtin]) hr (hm.nxt' hd hK)
     ·exact h.elim
    ·exact h.elim
   ·exact h.elim
  ·rename_i x y t t' h2 h3
   have ha:args = #[x,y]:=by rw [← Array.toArray_toList (xs:=args),h2]
   have ht:ts = #[t,t']:=by rw [← Array.toArray_toList (xs:=ts),h3]
   subst ha;subst ht
   have hdx:=D x (by rw [hop];simp [Op.operands,Call.operands])
   have hdy:=D y (by rw [hop];simp [Op.operands,Call.operands])
   split at h
   ·rename_i e s ag id s1 lo n sz m gg he hx hy
    split at h
    ·rename_i e' s2 n' f hb
     obtain ⟨⟨rfl,rfl,rfl,h1,h2',h3'⟩,hk⟩:=h
     rw [hx] at hdx
     rw [hy] at hdy
     obtain ⟨v,w',hr,hm⟩:=yD (t':=t') (ty:=o.type) he hb h1 h2' h3' hdx hdy g hk
     exact wZ (s:=Builtin.copy_ #[t,t'] o.type #[a.eval x,a.eval y]) (by simp [execOp,hop,resolve,invoke,builtin]) hr (hm.nxt' hd hK)
    ·exact h.elim
   ·exact h.elim
  ·rename_i f _ _ _
   exact ym (ts:=ts) hop hd (fun x hx=>hc x (by rw [hop];simp [Op.operands,Call.operands];exact .inr (by simpa using hx))) g hK h
  ·rename_i t
   split at h
   ·rename_i f xs hx
    have hcal:=hc (.tmp t) (by rw [hop];simp [Op.operands,Call.operands])
    have hdx:=gN (g.ev (.tmp t)).1 hcal
    exact EH (ts:=ts) hop hx hdx hd (fun x hx=>hc x (by rw [hop];simp [Op.operands,Call.operands];exact .inr (by simpa using hx))) g hK h
   ·exact h.elim
  ·exact h.elim
 | _=>rw [hop] at h;exact h.elim
theorem nS {o:Oper} {K:St→Prop} (h:gM S st o K) (hd:∀ k,o.dst=some k→k<E.N) (g:Gam S E st ρ a w):o.wp S.P a w (iZ S E K) Q:=by
 unfold gM at h
 split at h
 ·rename_i vc r hr
  obtain ⟨v,hrun,hv,hl⟩:=pV hr h.1 g
  exact rL hrun (iZ.mk_set g hd hl hv h.2)
 ·exact AW h.2 (fun x hx=>ky h.1 (List.mem_map.2 ⟨x,by simpa using hx,rfl⟩)) hd g (fun _ _ hk=>hk)
theorem uP {d : Option Nat} {want t : Bool} (h : fX st d want = some t) (g : Gam S E st ρ a w) (ops : Array Oper) (j : Nat) (hj : (ops[j]?).bind (·.dst) = d) :
  (yielded ops a.tmps j == some want)=t:=by
 unfold fX at h
 split at h
 ·rename_i k
  have hs:=g.slt k
  have key:∀ b,a.tmps.getD k undef = .bool b→yielded ops a.tmps j=some b:=fun b hb=>by
   unfold yielded
   rw [hj]
   have hlt:k<a.tmps.size:=by
    rcases Nat.lt_or_ge k a.tmps.size with h'|h'
    ·exact h'
    ·rw [aF?,Array.getElem?_eq_none h'] at hb;simp [undef] at hb
   have:a.tmps[k]?=some (.bool b):=by
    rw [Array.getElem?_eq_getElem hlt]
    simp [hlt] at hb
    rw [hb]
   simp [this]
  split at h
  ·rename_i b hf
   rw [hf] at hs
   simp only [Option.some.injEq] at h
   subst h
   rw [key b hs]
   rfl
  ·rename_i p b hf
   rw [hf] at hs
   simp only [Option.some.injEq] at h
   subst h
   cases p with
   | true=>rw [key b (hs.1 rfl)];rfl
   | false =>
    have hu:=hs.2 rfl
    have:yielded ops a.tmps j=none:=by
     unfold yielded
     rw [hj]
     simp only [Option.bind_some]
     cases hk:a.tmps[k]? with
     | none=>rfl
     | some v =>
      have hv:v=undef:=by rw [aF?,hk] at hu;exact hu
      subst hv
      rfl
    rw [this]
    rfl
  ·simp at h
 ·simp at h
theorem Gl {d:Option Nat} {x:BV} (g:Gam S E (st.set d (.b x)) ρ a w):Gam S E (st.set d (.grd true x)) ρ a w:=by
 cases d with
 | none=>exact g
 | some k =>
  refine ⟨g.dfr,g.sz,g.frm,fun s => ?_,g.wfb,g.bxs,g.new,g.inj,g.rx0,fun s => ?_,g.glb,g.kept⟩
  ·have:=g.wfs s
   simp only [St.set] at this ⊢
   split
   ·rename_i h;rw [if_pos h] at this;exact this
   ·rename_i h;rw [if_neg h] at this;exact this
  ·have:=g.slt s
   simp only [St.set] at this ⊢
   split
   ·rename_i h;rw [if_pos h] at this;exact ⟨fun _=>this,fun h=>by cases h⟩
   ·rename_i h;rw [if_neg h] at this;exact this
theorem BF {ops : Array Oper} {o : Oper} {K : St → Prop} (h : dD S ops st o K) (hd : ∀ k, o.dst = some k → k < E.N) (g : Gam S E st ρ a w) :
  if Region.wanted o (yielded ops a.tmps) then o.wp S.P a w (iZ S E K) Q else iZ S E K (a.put o.dst undef) w:=by
 unfold dD at h
 split at h
 ·rename_i hg
  rw [if_pos (by simp [Region.wanted,hg])]
  exact nS h hd g
 ·rename_i j want hg
  split at h
  ·rename_i t ht
   have hy:=uP ht g ops j rfl
   have hw:Region.wanted o (yielded ops a.tmps)=t:=by simp only [Region.wanted,hg];exact hy
   split at h
   ·rename_i vc r hr
    obtain ⟨hlr,hvc,hk⟩:=h
    cases t with
    | true =>
     rw [if_pos hw]
     obtain ⟨v,hrun,hv,hl⟩:=pV hr (hvc rfl) g
     exact rL hrun (iZ.mk_set (r := .grd true r) g hd hlr ⟨fun _=>hv,fun h=>by cases h⟩ hk)
    | false =>
     rw [if_neg (by rw [hw];simp)]
     exact iZ.mk_set (r := .grd false r) g hd hlr ⟨fun h=>(by cases h),fun _=>rfl⟩ hk
   ·rename_i vc p r hr
    obtain ⟨hlr,hvc,hk⟩:=h
    cases t with
    | true =>
     rw [if_pos hw]
     obtain ⟨v,hrun,hv,hl⟩:=pV hr (hvc rfl).1 g
     exact rL hrun (iZ.mk_set (r := .grd true r) g hd hlr ⟨fun _=>hv.1 (hvc rfl).2,fun h=>by cases h⟩ hk)
    | false =>
     rw [if_neg (by rw [hw];simp)]
     exact iZ.mk_set (r := .grd false r) g hd hlr ⟨fun h=>(by cases h),fun _=>rfl⟩ hk
   ·rcases h with h|⟨x,hlx,h1,hk⟩
    ·cases t with
     | true=>rw [if_pos hw];exact nS (h.1 rfl) hd g
     | false =>
      rw [if_neg (by rw [hw];simp)]
      exact iZ.mk_set (r := .any) g hd trivial trivial (h.2 rfl)
    ·cases t with
     | true =>
      rw [if_pos hw]
      refine Oper.wp_mono (fun a' w' hn => ?_) (nS (h1 rfl) hd g)
      obtain ⟨st',ρ',g',rfl⟩:=hn
      exact ⟨_,ρ',Gl g',hk⟩
     | false =>
      rw [if_neg (by rw [hw];simp)]
      exact iZ.mk_set (r := .grd false x) g hd hlx ⟨fun h=>(by cases h),fun _=>rfl⟩ hk
  ·exact h.elim
def sZ (N:Nat) (o:Oper):Bool:=match o.dst with
 | some d=>decide (d<N)
 | none=>true
theorem zm {N:Nat} {o:Oper} (h:sZ N o=true):∀ k,o.dst=some k→k<N:=by
 intro k hk
 unfold sZ at h
 rw [hk] at h
 simpa using h
theorem Ad {ops : Array Oper} {i : Nat} {o : Oper} {K : St → Prop} {K' : Act → World → Prop} (hi : ops[i]? = some o) (h : dD S ops st o K) (hd : sZ E.N o = true) (g : Gam S E st ρ a w)
  (hK:∀ a w,iZ S E K a w→K' a w):wpOp S.P ops Q i K' a w:=by
 unfold wpOp
 simp only [hi]
 have:=BF (Q:=Q) h (zm hd) g
 split
 ·rename_i hw
  rw [if_pos hw] at this
  exact .inl (Oper.wp_mono hK this)
 ·rename_i hw
  rw [if_neg hw] at this
  exact hK _ _ this
theorem mn {ops : Array Oper} {K : St → Prop} (hN : ops.toList.all (sZ E.N) = true) (hQ : ∀ a w, iZ S E K a w → Q .normal a w) : ∀ (l : List Oper) (k : Nat), (∀ j, l[j]? = ops[k + j]?) → ∀ {st : St} {ρ : ey} {a : Act} {w : World},
  aK S ops l st K→Gam S E st ρ a w→wpOps S.P ops Q (List.range' k l.length) a w
 | [],k,_,st,ρ,a,w,h,g=>by simp only [List.length_nil,List.range'_zero,wpOps];exact hQ _ _ ⟨st,ρ,g,h⟩
 | o :: l,k,hl,st,ρ,a,w,h,g=>by
  have h0:ops[k]?=some o:=by simpa using (hl 0).symm
  have hmem:o ∈ ops.toList:=by
   have:=Array.mem_of_getElem? h0
   simpa using this
  rw [List.length_cons,List.range'_succ,wpOps_cons]
  exact Ad h0 h (List.all_eq_true.1 hN o hmem) g fun a w ⟨st',ρ',g',hk⟩ =>
   mn hN hQ l (k+1) (fun j=>by have:=hl (j+1);simpa [Nat.add_assoc,Nat.add_comm 1 j] using this) hk g'
def fN (S:Env) (ops:Array Oper):Nat→Array Bool→St→(St→Prop)→Prop
 | 0,listed,st,K=>Region.ready .any ops listed=[]∧K st
 | fuel + 1, listed, st, K => (Region.ready .any ops listed = [] → K st) ∧
   ∀ i ∈ Region.ready .any ops listed,match ops[i]? with
    | some o=>dD S ops st o fun st'=>fN S ops fuel (listed.setIfInBounds i true) st' K
    | none=>fN S ops fuel (listed.setIfInBounds i true) st K
theorem jO {ops : Array Oper} {K : St → Prop} (hN : ops.toList.all (sZ E.N) = true) (hQ : ∀ a w, iZ S E K a w → Q .normal a w) : ∀ (fuel : Nat) (listed : Array Bool) {st : St} {ρ : ey} {a : Act} {w : World},
  fN S ops fuel listed st K→Gam S E st ρ a w→wpAny S.P .any ops Q fuel listed a w
 | 0,listed,st,ρ,a,w,h,g=>⟨h.1,hQ _ _ ⟨st,ρ,g,h.2⟩⟩
 | fuel+1,listed,st,ρ,a,w,h,g=>by
  refine ⟨fun hr=>hQ _ _ ⟨st,ρ,g,h.1 hr⟩,fun i hi => ?_⟩
  have:=h.2 i hi
  cases ho:ops[i]? with
  | none =>
   rw [ho] at this
   unfold wpOp
   simp only [ho]
   exact jO hN hQ fuel _ this g
  | some o =>
   rw [ho] at this
   have hmem:o ∈ ops.toList:=by
    have:=Array.mem_of_getElem? ho
    simpa using this
   exact Ad ho this (List.all_eq_true.1 hN o hmem) g fun a w ⟨st',ρ',g',hk⟩=>jO hN hQ fuel _ hk g'
def vP (r:Nat→Option Nat) (ρ:ey):ey:=fun i=>match r i with
 | some k=>ρ k
 | none => .slice none 0 0
def wv (r:Nat→Option Nat) (bx bx':Nat→Option Bx):CV→CV→Prop
 | _, .p .any=>True
 | .p x, .p y=>x=y∨PV.le x y
 | .p x, .own id' n'=>x = .val (.slice none 0 0)∧n'=0∧r id'=none
 | .ptr id off, .ptr id' off'=>r id'=some id∧off=off'
 | .clo f ps, .clo f' ps'=>f=f'∧ps.map (·.2)=ps'.map (·.2)∧ps'.map (fun p=>r p.1)=ps.map (fun p=>some p.1)
 | .pel id sz i off, .pel id' sz' i' off'=>r id'=some id∧sz=sz'∧i=i'∧off=off'
 | .sub id sz lo n, .sub id' sz' lo' n'=>r id'=some id∧sz=sz'∧lo=lo'∧n=n'
 | .own id n, .own id' n'=>r id'=some id∧n=n'
 | .own id n, .p (.lst sz n' f')=>∃ e m f,bx id=some (.arr e sz m f)∧n=n'∧n≤m∧(∀ i,i<n→∀ j,j<sz→PV.le (f i j) (f' i j))∧∀ id',bx' id'≠none→r id'≠some id
 | .ipt sz g off, .ipt sz' g' off'=>sz=sz'∧off=off'∧(g=g'∨∀ j,j<sz→PV.le (g j) (g' j))
 | _,_=>False
def FM (r:Nat→Option Nat) (bx bx':Nat→Option Bx):List CV→List CV→Prop
 | [],[]=>True
 | x :: l,y :: l'=>wv r bx bx' x y∧FM r bx bx' l l'
 | _,_=>False
def MQ (r:Nat→Option Nat) (bx bx':Nat→Option Bx):BV→BV→Prop
 | _, .c (.p .any)=>True
 | .c x, .c y=>wv r bx bx' x y
 | .agg l, .agg l'=>FM r bx bx' l l'
 | _,_=>False
def xD (r:Nat→Option Nat) (bx bx':Nat→Option Bx):SV→SV→Prop
 | _, .any=>True
 | .b x, .b y=>MQ r bx bx' x y
 | x,y=>x=y∧∃ n,x.lt n∧∀ id,id<n→r id=some id
def MN (r:Nat→Option Nat) (bx bx':Nat→Option Bx):Bx→Bx→Prop
 | .fix l, .fix l'=>FM r bx bx' l l'
 | .arr e sz n f, .arr e' sz' n' f'=>e=e'∧sz=sz'∧n=n'∧(f=f'∨∀ i,i<n→∀ j,j<sz→PV.le (f i j) (f' i j))
 | _,_=>False
def ku (r:Nat→Option Nat) (bx bx':Nat→Option Bx) (i:Nat) (x:Bx):Prop :=
 match r i with
 | some k=>∃ y,bx k=some y∧MN r bx bx' y x
 | none=>∃ e s f,x = .arr e s 0 f∧0<s
structure Le (st st':St):Prop where
 ex:∃ r:Nat→Option Nat,r 0=some 0∧(0<st.nx→0<st'.nx)∧(∀ i j k,st'.bx i≠none→st'.bx j≠none→r i=some k→r j=some k→i=j) ∧
  (∀ s,xD r st.bx st'.bx (st.fr s) (st'.fr s))∧(∀ i x,st'.bx i=some x→ku r st.bx st'.bx i x)∧(∀ s,xD r st.bx st'.bx (st.kf s) (st'.kf s))
 wfs:∀ s,(st'.fr s).lt st'.nx
 wfb:∀ id b,st'.bx id=some b→id<st'.nx∧b.lt st'.nx
 wfk:∀ s,(st'.kf s).lt st'.nx
theorem cP {r:Nat→Option Nat} {ρ:ey} {i k:Nat} (h:r i=some k):vP r ρ i=ρ k:=by simp [vP,h]
theorem ik {r:Nat→Option Nat} {ρ:ey} {i:Nat} (h:r i=none):vP r ρ i = .slice none 0 0:=by simp [vP,h]
theorem zI {r : Nat → Option Nat} {st st' : St} (g : Gam S E st ρ a w) (hsub : ∀ i k, st'.bx i ≠ none → r i = some k → st.bx k ≠ none) (hk : dQ (bj E st.bx ρ w) (bj E st'.bx (vP r ρ) w) w w) {x y : CV} {u : Value} (h : wv r st.bx st'.bx x y)
  (hx:bB ρ (bj E st.bx ρ w) w x u):bB (vP r ρ) (bj E st'.bx (vP r ρ) w) w y u:=by
 unfold wv at h
 split at h
 ·trivial
 ·rcases h with rfl|h
  ·exact aV.mono hk hx
  ·exact aV.mono hk (h _ _ _ hx)
 ·obtain ⟨rfl,rfl,hr⟩:=h
  have hu:u = .slice none 0 0:=hx
  exact ⟨none,0,0,ik hr,Nat.le_refl _,Nat.le_refl _,fun h=>absurd h (Nat.lt_irrefl 0),hu⟩
 ·obtain ⟨hr,rfl⟩:=h;simp only [bB,cP hr];exact hx
 ·rename_i f ps f' ps'
  obtain ⟨rfl,h2,h1⟩:=h
  obtain ⟨vs,hu,hs,hc⟩:=hx
  have hl:ps.length=ps'.length:=by have:=congrArg List.length h2;simpa using this
  refine ⟨vs,hu,hs.trans hl,fun j hj => ?_⟩
  obtain ⟨b,o,e1,e2⟩:=hc j (by omega)
  have q1:r (ps'.getD j (0,0)).1=some (ps.getD j (0,0)).1:=by
   have:=congrArg (fun l=>l[j]?) h1
   simpa [List.getD_eq_getElem?_getD,hj,hl ▸ hj] using this
  have q2:(ps'.getD j (0,0)).2=(ps.getD j (0,0)).2:=by
   have:=congrArg (fun l=>l[j]?) h2
   have:=this.symm;simpa [List.getD_eq_getElem?_getD,hj,hl ▸ hj] using this
  exact ⟨b,o,by rw [cP q1];exact e1,by rw [q2];exact e2⟩
 ·obtain ⟨hr,rfl,rfl,rfl⟩:=h;simp only [bB,cP hr];exact hx
 ·obtain ⟨hr,rfl,rfl,rfl⟩:=h;simp only [bB,cP hr];exact hx
 ·obtain ⟨hr,rfl⟩:=h;simp only [bB,cP hr];exact hx
 ·rename_i id n sz n' f'
  obtain ⟨e,m,f,hb,rfl,hnm,hle,hid⟩:=h
  obtain ⟨A,m',c,hr,h1,h2,h3,hu⟩:=hx
  obtain ⟨h0,xs,hown,hone,hd⟩:=g.bxs id _ hb
  refine ⟨A,c,hu,by omega,fun hpos => ?_⟩
  rcases hown.2 with ⟨e1,e2⟩|⟨gb,cap,cur,hv,_,hh,hnc,_,hcs,htk⟩
  ·omega
  ·rw [hr] at hv
   simp only [Value.slice.injEq] at hv
   obtain ⟨rfl,rfl,rfl⟩:=hv
   have hgb:kT (ρ id)=some gb:=by rw [hr];rfl
   refine ⟨gb,0,rfl,⟨bq hh,fun hlt => ?_,fun i hi hbi => ?_⟩,fun i hi j hj => ?_⟩
   ·rcases (g.new id _ gb hb hgb).2 with h|⟨_,_,_,h,_⟩
    ·omega
    ·cases h
   ·cases hri:r i with
    | none=>rw [ik hri] at hbi;cases hbi
    | some k =>
     rw [cP hri] at hbi
     exact hid i hi (by rw [hri,g.inj k id gb (hsub i k hi hri) (by rw [hb];simp) hbi hgb])
   ·have hlt:i * sz+j<m' * sz:=cJ (by omega) hj
    have hlt2:i * sz+j<cur.size:=by rw [hcs];exact Nat.lt_of_lt_of_le hlt (Nat.mul_le_mul_right _ hnc)
    have hlx:i * sz+j<xs.length:=by rw [hown.1];exact hlt
    have hxe:xs.getD (i * sz+j) undef=cur.getD (i * sz+j) undef:=by
     rw [← htk];simp [List.getElem?_take,hlt]
    refine ⟨cur.getD (i * sz+j) undef,by rw [Nat.zero_add];exact bn hh hlt2, ?_, ?_⟩
    ·rw [← hxe,List.getD_eq_getElem?_getD,List.getElem?_eq_getElem hlx]
     exact hone _ (List.getElem_mem hlx)
    ·rw [← hxe]
     exact aV.mono hk (hle i hi j hj _ _ _ (hd i (by omega) j hj))
 ·rename_i sz gg off sz' gg' off'
  obtain ⟨rfl,rfl,hg⟩:=h
  obtain ⟨b,o,hu,hok,hc⟩:=hx
  refine ⟨b,o,hu,(hk b hok).1,fun j hj => ?_⟩
  obtain ⟨x,hx,h1,hd⟩:=hc j hj
  refine ⟨x,hx,h1,aV.mono hk ?_⟩
  rcases hg with rfl|hg
  ·exact hd
  ·exact hg j hj _ _ _ hd
 ·exact h.elim
theorem pQ {r : Nat → Option Nat} {st st' : St} (g : Gam S E st ρ a w) (hsub : ∀ i k, st'.bx i ≠ none → r i = some k → st.bx k ≠ none) (hk : dQ (bj E st.bx ρ w) (bj E st'.bx (vP r ρ) w) w w) :
  ∀ {l l':List CV},FM r st.bx st'.bx l l'→l.length=l'.length∧∀ {u:Nat→Value},(∀ j,bB ρ (bj E st.bx ρ w) w (l.getD j .any) (u j)) →
   ∀ j,bB (vP r ρ) (bj E st'.bx (vP r ρ) w) w (l'.getD j .any) (u j)
 | [],[],_=>⟨rfl,fun _ j=>by simp [bB,aV]⟩
 | x :: l,y :: l',⟨h1,h2⟩=>by
  obtain ⟨q1,q2⟩:=pQ g hsub hk h2
  refine ⟨by simp [q1],fun {u} hu j => ?_⟩
  cases j with
  | zero=>exact zI g hsub hk h1 (hu 0)
  | succ j=>exact q2 (u:=fun k=>u (k+1)) (fun k=>hu (k+1)) j
theorem Hw {r : Nat → Option Nat} {st st' : St} (g : Gam S E st ρ a w) (hsub : ∀ i k, st'.bx i ≠ none → r i = some k → st.bx k ≠ none) (hk : dQ (bj E st.bx ρ w) (bj E st'.bx (vP r ρ) w) w w) {x y : BV} {u : Value}
  (h:MQ r st.bx st'.bx x y) (hx:bu ρ (bj E st.bx ρ w) w x u):bu (vP r ρ) (bj E st'.bx (vP r ρ) w) w y u:=by
 unfold MQ at h
 split at h
 ·trivial
 ·exact zI g hsub hk h hx
 ·obtain ⟨us,hu,hs,h1,hd⟩:=hx
  obtain ⟨q1,q2⟩:=pQ g hsub hk h
  exact ⟨us,hu,by omega,h1,q2 hd⟩
 ·exact h.elim
theorem zs {r : Nat → Option Nat} {st st' : St} (g : Gam S E st ρ a w) (hsub : ∀ i k, st'.bx i ≠ none → r i = some k → st.bx k ≠ none) (hk : dQ (bj E st.bx ρ w) (bj E st'.bx (vP r ρ) w) w w) {x y : SV} {u : Value}
  (h:xD r st.bx st'.bx x y) (hx:aU ρ (bj E st.bx ρ w) w x u):aU (vP r ρ) (bj E st'.bx (vP r ρ) w) w y u:=by
 unfold xD at h
 split at h
 ·trivial
 ·exact Hw g hsub hk h hx
 ·obtain ⟨rfl,n,hl,hr⟩:=h
  exact aU.mono hk (fun id hid=>cP (hr id hid)) hl hx
theorem Mh {st':St} (h:Le st st') (g:Gam S E st ρ a w):∃ ρ',Gam S E st' ρ' a w:=by
 obtain ⟨⟨r,hr0,hnx,hinj,hs,hb,hkf⟩,hwfs,hwfb,hwfk⟩:=h
 have hsub:∀ i k,st'.bx i≠none→r i=some k→st.bx k≠none:=fun i k hi hr=>by
  cases hx:st'.bx i with
  | none=>exact absurd hx hi
  | some x =>
   have:=hb i x hx
   simp only [ku,hr] at this
   obtain ⟨y,hy,_⟩:=this;rw [hy];simp
 have hk:dQ (bj E st.bx ρ w) (bj E st'.bx (vP r ρ) w) w w:=fun b ⟨h1,h2,h3⟩=>⟨⟨h1,h2,fun i hi=>by
  cases hri:r i with
  | none=>rw [ik hri];simp [kT]
  | some k=>rw [cP hri];exact h3 k (hsub i k hi hri)⟩,fun _=>rfl⟩
 refine ⟨vP r ρ,g.dfr,g.sz,g.frm,hwfs,hwfb,fun i x hx => ?_,fun i x b hx hbl => ?_,fun i j b h1 h2 h3 h4 => ?_,fun b o l hrx => ?_,
  fun s=>zs g hsub hk (hs s) (g.slt s),fun gg n f hg => ?_,fun s=>⟨hwfk s,zs g hsub hk (hkf s) (g.kept s).2⟩⟩
 ·have hbi:=hb i x hx
  unfold ku at hbi
  cases hri:r i with
  | none =>
   rw [hri] at hbi
   obtain ⟨e,s,f,rfl,hs0⟩:=hbi
   rw [ik hri]
   exact ⟨hs0,[],⟨by simp, .inl ⟨rfl,rfl⟩⟩,by simp,fun i hi=>absurd hi (Nat.not_lt_zero _)⟩
  | some k =>
   rw [hri] at hbi
   obtain ⟨y,hy,hle⟩:=hbi
   have hd:=g.bxs k y hy
   rw [cP hri]
   cases y with
   | fix l =>
    cases x with
    | fix l' =>
     obtain ⟨b,o,cells,t,hv,hh,hsz,h1,hdd⟩:=hd
     obtain ⟨q1,q2⟩:=pQ g hsub hk hle
     exact ⟨b,o,cells,t,hv,hh,by omega,fun j hj=>h1 j (by omega),q2 hdd⟩
    | arr=>exact hle.elim
   | arr e sz n f =>
    cases x with
    | fix l'=>exact hle.elim
    | arr e' sz' n' f' =>
     obtain ⟨rfl,rfl,rfl,hf⟩:=hle
     obtain ⟨h0,xs,hown,h1,hdd⟩:=hd
     refine ⟨h0,xs,hown,h1,fun i' hi' j hj=>aV.mono hk ?_⟩
     rcases hf with rfl|hf
     ·exact hdd i' hi' j hj
     ·exact hf i' hi' j hj _ _ _ (hdd i' hi' j hj)
 ·have hbi:=hb i x hx
  unfold ku at hbi
  cases hri:r i with
  | none=>rw [ik hri] at hbl;cases hbl
  | some k =>
   rw [hri] at hbi
   rw [cP hri] at hbl
   obtain ⟨y,hy,hle⟩:=hbi
   obtain ⟨h1,h2⟩:=g.new k y b hy hbl
   refine ⟨h1, ?_⟩
   rcases h2 with h2|⟨o,cs,e1,e2,e3⟩
   ·exact .inl h2
   ·subst e2
    cases x with
    | fix l' =>
     have:=(pQ g hsub hk hle).1
     exact .inr ⟨o,l',by rw [cP hri];exact e1,rfl,by rw [← this];exact e3⟩
    | arr=>exact hle.elim
 ·cases hri:r i with
  | none=>rw [ik hri] at h3;cases h3
  | some k =>
   cases hrj:r j with
   | none=>rw [ik hrj] at h4;cases h4
   | some k' =>
    rw [cP hri] at h3
    rw [cP hrj] at h4
    have:=g.inj k k' b (hsub i k h1 hri) (hsub j k' h2 hrj) h3 h4
    subst this
    exact hinj i j k h1 h2 hri hrj
 ·obtain ⟨h1,h2⟩:=g.rx0 b o l hrx
  exact ⟨hnx h1,by rw [cP hr0];exact h2⟩
 ·obtain ⟨h1,h2⟩:=g.glb gg n f hg
  refine ⟨(hk gg h1).1,fun j hj => ?_⟩
  obtain ⟨x,hx,h3,hd⟩:=h2 j hj
  exact ⟨x,hx,h3,aV.mono hk hd⟩
def Wk (K:St→Prop) (st:St):Prop:=∃ st',Le st st'∧K st'
theorem Wk.nxt {K:St→Prop} (h:Wk K st) (g:Gam S E st ρ a w):iZ S E K a w:=by
 obtain ⟨st',hle,hk⟩:=h
 obtain ⟨ρ',g'⟩:=Mh hle g
 exact ⟨st',ρ',g',hk⟩
inductive AExit where
 | normal
 | exit (id:Nat)
 | ret
def fv (n:St→Prop) (Q:AExit→St→Prop):AExit→St→Prop
 | .normal,st=>n st
 | e,st=>Q e st
def iW (id:Nat) (Q:AExit→St→Prop):AExit→St→Prop
 | .exit id',st=>if id'=id then Q .normal st else Q (.exit id') st
 | e,st=>Q e st
def cw (S:Env):Code→(AExit→St→Prop)→St→Prop
 | .skip,Q,st=>Q .normal st
 | .region _ ops draw,Q,st=>if draw=true then fN S ops ops.size (Array.replicate ops.size false) st (Q .normal) else aK S ops ops.toList st (Q .normal)
 | .seq x y,Q,st=>cw S x (fv (fun st=>Wk (cw S y Q) st∨cw S y Q st) Q) st
 | .cond c x y,Q,st=>match st.ev S c with
  | .b (.c (.p (.val (.bool t))))=>(t=true→cw S x Q st)∧(t=false→cw S y Q st)
  | _=>False
 | .block id c,Q,st=>cw S c (iW id Q) st
 | .loop c,Q,st=>∃ (I:Nat→St→Prop) (n:Nat),Wk (I n) st∧∀ n st,I n st→cw S c (fv (fun st'=>Wk (fun st2=>∃ n',n'<n∧I n' st2) st') Q) st
 | .exit id,Q,st=>Q (.exit id) st
 | .label _,Q,st=>Q .normal st
 | .ret,Q,st=>Q .ret st
 | _,_,_=>False
def cf (N:Nat):Code→Bool
 | .region _ ops _=>ops.toList.all (sZ N)
 | .seq x y=>cf N x && cf N y
 | .cond _ x y=>cf N x && cf N y
 | .block _ c=>cf N c
 | .loop c=>cf N c
 | _=>true
def yz (S:Env) (E:Ent) (Q:AExit→St→Prop):Exit→Act→World→Prop
 | .normal,a,w=>iZ S E (Q .normal) a w
 | .exit id,a,w=>iZ S E (Q (.exit id)) a w
 | .ret,a,w=>iZ S E (Q .ret) a w
 | _,_,_=>False
theorem Gam.drew (g:Gam S E st ρ a w):Gam S E st ρ a { w with drawn:=w.drawn+1 }:=g.grow ⟨rfl,rfl,rfl,Nat.le_refl _,fun _ _=>rfl⟩
theorem cQ (hm:S.P.follows .mixedOrders=true):∀ (c:Code) {Q:AExit→St→Prop} {st:St} {ρ:ey} {a:Act} {w:World},cf E.N c=true→cw S c Q st→Gam S E st ρ a w→c.wp S.P (yz S E Q) a w
 | .skip,Q,st,ρ,a,w,_,h,g=>wp_skip ⟨st,ρ,g,h⟩
 | .label _,Q,st,ρ,a,w,_,h,g=>wp_label ⟨st,ρ,g,h⟩
 | .exit id,Q,st,ρ,a,w,_,h,g=>wp_exit ⟨st,ρ,g,h⟩
 | .ret,Q,st,ρ,a,w,_,h,g=>wp_ret ⟨st,ρ,g,h⟩
 | .region id ops draw,Q,st,ρ,a,w,hN,h,g=>by
  simp only [cw] at h
  simp only [cf] at hN
  cases draw with
  | true =>
   rw [if_pos rfl] at h
   exact wp_region_any hm (jO hN (fun _ _ h=>h) _ _ h g.drew)
  | false =>
   rw [if_neg (by simp)] at h
   refine wp_region ?_
   have:=mn (Q:=yz S E Q) hN (fun _ _ h=>h) ops.toList 0 (fun j=>by simp) h g
   rw [List.range_eq_range']
   simpa using this
 | .seq x y,Q,st,ρ,a,w,hN,h,g=>by
  simp only [cf,Bool.and_eq_true] at hN
  refine wp_seq (wp_mono (cQ hm x hN.1 h g) fun e a w hq => ?_)
  cases e with
  | normal =>
   obtain ⟨st',ρ',g',hk⟩:=hq
   rcases hk with hk|hk
   ·obtain ⟨st2,ρ2,g2,hk2⟩:=Wk.nxt hk g'
    exact cQ hm y hN.2 hk2 g2
   ·exact cQ hm y hN.2 hk g'
  | _=>exact hq
 | .cond c x y,Q,st,ρ,a,w,hN,h,g=>by
  simp only [cf,Bool.and_eq_true] at hN
  simp only [cw] at h
  split at h
  ·rename_i t ht
   have hd:=(g.ev c).1
   rw [ht] at hd
   have hc:a.eval c = .bool t:=hd
   cases t with
   | true=>exact wp_cond_true hc (cQ hm x hN.1 (h.1 rfl) g)
   | false=>exact wp_cond_false hc (cQ hm y hN.2 (h.2 rfl) g)
  ·exact h.elim
 | .block id c,Q,st,ρ,a,w,hN,h,g=>by
  refine wp_block (wp_mono (cQ hm c hN h g) fun e a w hq => ?_)
  cases e with
  | exit id' =>
   obtain ⟨st',ρ',g',hk⟩:=hq
   simp only [iW] at hk
   simp only [Exit.inBlock]
   split
   ·rename_i he;rw [if_pos he] at hk;exact ⟨st',ρ',g',hk⟩
   ·rename_i he;rw [if_neg he] at hk;exact ⟨st',ρ',g',hk⟩
  | _=>exact hq
 | .loop c,Q,st,ρ,a,w,hN,h,g=>by
  obtain ⟨I,n0,h0,hr⟩:=h
  have key:∀ k n st ρ a w,n<k→I n st→Gam S E st ρ a w→Code.rounds S.P c (yz S E Q) k a w:=by
   intro k
   induction k with
   | zero=>intro n st ρ a w hlt;omega
   | succ k ih =>
    intro n st ρ a w hlt hI g
    rw [rounds_succ]
    refine wp_mono (cQ hm c hN (hr n st hI) g) fun e a w hq => ?_
    cases e with
    | normal =>
     obtain ⟨st',ρ',g',hk⟩:=hq
     obtain ⟨st2,ρ2,g2,n',hlt',hk1⟩:=Wk.nxt hk g'
     exact ih n' st2 ρ2 a w (by omega) hk1 g2
    | _=>exact hq
  obtain ⟨st2,ρ2,g2,h2⟩:=Wk.nxt h0 g
  exact wp_loop_rounds (n0+1) (key _ n0 st2 ρ2 a w (Nat.lt_succ_self _) h2 g2)
 | .rangeFunc ..,Q,st,ρ,a,w,_,h,g=>h.elim
 | .scope _,Q,st,ρ,a,w,_,h,g=>h.elim
 | .goto _,Q,st,ρ,a,w,_,h,g=>h.elim
 | .refuse _,Q,st,ρ,a,w,_,h,g=>h.elim
end
end Go.SL
namespace Go.SL
open Go
section
variable {S:Env}
def jB:List (Nat × SV)→Nat→SV
 | [],_ => .any
 | (k,v) :: r,s=>if s=k then v else jB r s
def fu:List (Nat × Bx)→Nat→Option Bx
 | [],_=>none
 | (k,x) :: r,i=>if i=k then some x else fu r i
def gp:List BV→Nat→Nat→SV
 | [],_,_ => .any
 | x :: r,k,s=>if s=k then .b x else gp r (k+1) s
def pZ (args:List BV):St := { fr:=gp args 0,bx:=fun _=>none,nx:=0 }
def PW (cs:List PV) (args:List BV):St :=
 { fr:=fun s=>if s=0 then .b (.c (.ptr 0 0)) else gp args 1 s,bx:=fun i=>if i=0 then some (.fix (cs.map CV.p)) else none,nx:=1 }
def IC (S:Env) (st:St):ResultVar→Option (Prop × BV)
 | .tmp t=>match st.fr t with
  | .b x=>some (True,Am st.bx x)
  | _=>none
 | .cell p t=>match ct S t st.bx (st.fr p) with
  | some (vc, .b x)=>some (vc,Am st.bx x)
  | _=>none
def oi (S:Env) (st:St):List ResultVar→Option (Prop × List BV)
 | []=>some (True,[])
 | r :: l=>match IC S st r,oi S st l with
  | some (p,x),some (q,xs)=>some (p∧q,x :: xs)
  | _,_=>none
def vF (S:Env) (rs:List ResultVar) (R:SV→Prop) (st:St):Prop :=
 match oi S st rs with
 | some (p,[x])=>p∧x.lt 0∧R (.b x)
 | some (p,xs)=>p∧(∀ x ∈ xs,BV.lt 0 x)∧R (.tup xs)
 | none=>False
def FP (S:Env) (rs:List ResultVar) (R:SV→Prop):AExit→St→Prop
 | .ret,st=>vF S rs R st
 | .normal,st=>vF S rs R st
 | _,_=>False
def Cz (S:Env) (rs:List ResultVar) (R:SV→List PV→Prop) (st:St):Prop :=
 ∃ ps:List PV,st.bx 0=some (.fix (ps.map CV.p))∧vF S rs (fun r=>R r ps) st
def Ns (S:Env) (rs:List ResultVar) (R:SV→List PV→Prop):AExit→St→Prop
 | .ret,st=>Cz S rs R st
 | .normal,st=>Cz S rs R st
 | _,_=>False
variable {E:Ent} {st:St} {ρ:ey} {a:Act} {w:World}
theorem lH {x : CV} {u : Value} {ok : Nat → Prop} (g : Gam S E st ρ a w) (hok : ∀ b, bj E st.bx ρ w b → ok b) (hnew : ∀ b, b < w.heap.size → E.w0.heap.size ≤ b → ok b)
  (h:bB ρ (bj E st.bx ρ w) w x u):bB ρ ok w (dH st.bx x) u:=by
 have hk:dQ (bj E st.bx ρ w) ok w w:=fun b hb=>⟨hok b hb,fun _=>rfl⟩
 have gen:bB ρ ok w x u:=by
  cases x with
  | p x=>exact aV.mono hk h
  | ptr id off=>exact h
  | pel id sz i off=>exact h
  | own id n=>exact h
  | ipt sz g off=>exact bB.mono (nx:=0) hk (fun _ _=>rfl) trivial h
  | clo f ps=>exact h
  | sub id sz lo n=>exact h
 unfold dH
 split
 ·rename_i id n
  split
  ·rename_i e sz n' f hb
   split
   ·rename_i hn
    obtain ⟨A,m,c,hr,h1,h2,h3,hu⟩:=h
    obtain ⟨h0,xs,hown,hone,hd⟩:=g.bxs id _ hb
    refine ⟨A,c,hu,by omega,fun hpos => ?_⟩
    rcases hown.2 with ⟨e1,e2⟩|⟨gb,cap,cur,hv,_,hh,hnc,_,hcs,htk⟩
    ·omega
    ·rw [hr] at hv
     simp only [Value.slice.injEq] at hv
     obtain ⟨rfl,rfl,rfl⟩:=hv
     have hgb:kT (ρ id)=some gb:=by rw [hr];rfl
     have hge:E.w0.heap.size≤gb:=by
      rcases (g.new id _ gb hb hgb).2 with h|⟨_,_,_,h,_⟩
      ·exact h
      ·cases h
     refine ⟨gb,0,rfl,hnew gb (bq hh) hge,fun i hi j hj => ?_⟩
     have hlt:i * sz+j<m * sz:=cJ (by omega) hj
     have hlt2:i * sz+j<cur.size:=by rw [hcs];exact Nat.lt_of_lt_of_le hlt (Nat.mul_le_mul_right _ hnc)
     have hlx:i * sz+j<xs.length:=by rw [hown.1];exact hlt
     have hxe:xs.getD (i * sz+j) undef=cur.getD (i * sz+j) undef:=by
      rw [← htk];simp [List.getElem?_take,hlt]
     refine ⟨cur.getD (i * sz+j) undef,by rw [Nat.zero_add];exact bn hh hlt2, ?_, ?_⟩
     ·rw [← hxe,List.getD_eq_getElem?_getD,List.getElem?_eq_getElem hlx]
      exact hone _ (List.getElem_mem hlx)
     ·rw [← hxe]
      exact aV.mono hk (hd i (by omega) j hj)
   ·exact gen
  ·exact gen
 ·exact gen
theorem tD {x : BV} {u : Value} {ok : Nat → Prop} (g : Gam S E st ρ a w) (hok : ∀ b, bj E st.bx ρ w b → ok b) (hnew : ∀ b, b < w.heap.size → E.w0.heap.size ≤ b → ok b)
  (h:bu ρ (bj E st.bx ρ w) w x u):bu ρ ok w (Am st.bx x) u:=by
 cases x with
 | c x=>exact lH g hok hnew h
 | agg cs =>
  obtain ⟨us,rfl,hs,h1,hd⟩:=h
  refine ⟨us,rfl,by simp [hs],h1,fun j => ?_⟩
  by_cases hj:j<cs.length
  ·have e:(cs.map (dH st.bx)).getD j .any=dH st.bx (cs.getD j .any):=by simp [List.getD_eq_getElem?_getD,hj]
   rw [e]
   exact lH g hok hnew (hd j)
  ·rw [List.getD_eq_getElem?_getD,List.getElem?_eq_none (by simp;omega)];trivial
def nA (tmps:Array Value):ResultVar→Sem Value
 | .tmp t=>pure (tmps.getD t undef)
 | .cell a t=>do loadVar t (← asAddr (tmps.getD a undef))
def oc (P:Program) (tmps:Array Value) (w:World) (r:ResultVar) (v:Value):Prop:=(nA tmps r).run P w = .ok v w
theorem De {r : ResultVar} {p : Prop} {x : BV} {ok : Nat → Prop} (h : IC S st r = some (p, x)) (hp : p) (g : Gam S E st ρ a w) (hok : ∀ b, bj E st.bx ρ w b → ok b)
  (hnew:∀ b,b<w.heap.size→E.w0.heap.size≤b→ok b):∃ v,oc S.P a.tmps w r v∧bu ρ ok w x v:=by
 unfold IC at h
 split at h
 ·rename_i t
  have hs:=g.slt t
  split at h
  ·rename_i y hy
   rw [hy] at hs
   simp only [Option.some.injEq,Prod.mk.injEq] at h
   obtain ⟨_,rfl⟩:=h
   exact ⟨_,rfl,tD g hok hnew hs⟩
  ·simp at h
 ·rename_i q t
  split at h
  ·rename_i vc y hl
   simp only [Option.some.injEq,Prod.mk.injEq] at h
   obtain ⟨rfl,rfl⟩:=h
   obtain ⟨v,hr,hv,_⟩:=rD hl hp g (g.slt q)
   refine ⟨v, ?_,tD g hok hnew hv⟩
   unfold oc nA
   simp only [Instr.loadAt,Sem.run_bind] at hr ⊢
   cases hq:a.tmps.getD q undef <;> simp only [hq,Instr.sureAddr,run_stuck,Result.andThen_halt,reduceCtorEq] at hr
   rename_i ad
   cases ad with
   | none=>simp [Instr.sureAddr] at hr
   | some ad=>simpa [asAddr,Instr.sureAddr] using hr
  ·simp at h
theorem mj {ok : Nat → Prop} (g : Gam S E st ρ a w) (hok : ∀ b, bj E st.bx ρ w b → ok b) (hnew : ∀ b, b < w.heap.size → E.w0.heap.size ≤ b → ok b) : ∀ {rs : List ResultVar} {p : Prop} {xs : List BV},
  oi S st rs=some (p,xs)→p→∃ vs:List Value,(rs.mapM (nA a.tmps)).run S.P w = .ok vs w∧vs.length=xs.length∧∀ j,bu ρ ok w (xs.getD j .any) (vs.getD j undef)
 | [],p,xs,h,_=>by
  simp only [oi,Option.some.injEq,Prod.mk.injEq] at h
  obtain ⟨_,rfl⟩:=h
  exact ⟨[],by simp,rfl,fun j=>by simp [bu,bB,aV]⟩
 | r :: rs,p,xs,h,hp=>by
  simp only [oi] at h
  split at h
  ·rename_i p1 x1 p2 xs2 h1 h2
   simp only [Option.some.injEq,Prod.mk.injEq] at h
   obtain ⟨rfl,rfl⟩:=h
   obtain ⟨v,hv,hd⟩:=De h1 hp.1 g hok hnew
   obtain ⟨vs,hvs,hl,hds⟩:=mj g hok hnew h2 hp.2
   refine ⟨v :: vs, ?_,by simp [hl],fun j => ?_⟩
   ·unfold oc at hv
    rw [List.mapM_cons]
    simp only [Sem.run_bind,hv,Result.andThen_ok,hvs,Sem.run_pure]
   ·cases j with
    | zero=>exact hd
    | succ j=>exact hds j
  ·simp at h
theorem iC {fn : Func} {vs : List Value} (h : (fn.results.toList.mapM (nA a.tmps)).run S.P w = .ok vs w) :
  (results fn a.tmps).run S.P w = .ok (match vs with|[v]=>v|_ => .tuple vs.toArray) w:=by
 have e : results fn a.tmps = (do
   let vs ← fn.results.mapM (nA a.tmps)
   pure (if h:vs.size=1 then vs[0] else .tuple vs)):=by
  unfold results
  congr 2
 rw [e,Sem.run_bind,Array.mapM_eq_mapM_toList]
 simp only [Sem.run_map,h,Result.andThen_ok,Sem.run_pure]
 match vs with
 | []=>rfl
 | [v]=>rfl
 | _ :: _ :: _=>rfl
theorem Il {rs : List ResultVar} {R : SV → Prop} {fn : Func} {ok : Nat → Prop} (hrs : fn.results.toList = rs) (h : vF S rs R st) (g : Gam S E st ρ a w) (hok : ∀ b, bj E st.bx ρ w b → ok b)
  (hnew:∀ b,b<w.heap.size→E.w0.heap.size≤b→ok b):∃ v r,(results fn a.tmps).run S.P w = .ok v w∧R r∧SV.lt 0 r∧aU bo ok w r v:=by
 unfold vF at h
 have dn:∀ {x:BV} {u:Value},x.lt 0→bu ρ ok w x u→bu bo ok w x u:=fun hl hd=>dP hl hd
 split at h
 ·rename_i p x hr
  obtain ⟨hp,hl,hR⟩:=h
  obtain ⟨vs,hvs,hlen,hd⟩:=mj g hok hnew hr hp
  match vs,hlen with
  | [v],_=>exact ⟨v, .b x,iC (by rw [hrs];exact hvs),hR,hl,dn hl (hd 0)⟩
 ·rename_i p xs hne hr
  obtain ⟨hp,hl,hR⟩:=h
  obtain ⟨vs,hvs,hlen,hd⟩:=mj g hok hnew hr hp
  refine ⟨.tuple vs.toArray, .tup xs, ?_,hR,hl,vs.toArray,rfl,by simpa using hlen,fun j => ?_⟩
  ·rw [iC (by rw [hrs];exact hvs)]
   match vs,hlen with
   | [],_=>rfl
   | [v],hlen =>
    match xs,hlen with
    | [x],_=>exact absurd rfl (hne x)
   | _ :: _ :: _,_=>rfl
  ·by_cases hj:j<xs.length
   ·have e:vs.toArray.getD j undef=vs.getD j undef:=by simp [List.getD_eq_getElem?_getD]
    rw [e]
    refine dn (hl _ ?_) (hd j)
    rw [List.getD_eq_getElem?_getD,List.getElem?_eq_getElem hj];exact List.getElem_mem hj
   ·rw [List.getD_eq_getElem?_getD,List.getElem?_eq_none (by omega)];trivial
 ·exact h.elim
theorem bA:∀ (args:List BV) (k s:Nat),gp args k s=if k≤s∧s<k+args.length then .b (args.getD (s - k) .any) else .any
 | [],k,s=>by
  rw [if_neg (by simp only [List.length_nil];omega)]
  rfl
 | x :: r,k,s=>by
  simp only [gp,List.length_cons]
  by_cases h:s=k
  ·subst h;simp
  ·rw [if_neg h,bA r (k+1) s]
   by_cases h2:k+1≤s∧s<k+1+r.length
   ·rw [if_pos h2,if_pos (by omega),show s - k=(s - (k+1))+1 by omega];rfl
   ·rw [if_neg h2,if_neg (by omega)]
theorem FR {f : FuncId} {fn : Func} {c : Code} {rs : List ResultVar} {args : List BV} {R : SV → Prop} (hf : S.P.funcs[f]? = some fn) (hb : fn.body = some c) (hrs : fn.results.toList = rs) (hname : (fn.name == "runtime.NumGoroutine") = false)
  (hm:S.P.follows .mixedOrders=true) (hN:cf fn.ntmps c=true) (hlen:args.length≤fn.ntmps) (hl:∀ x ∈ args,BV.lt 0 x) (h:cw S c (FP S rs R) (pZ args)):aD S f args R:=by
 subst hrs
 refine ⟨⟨fn,hf,hname,by rw [hb];rfl⟩,fun ok w vs hok hgl hsz hden => ?_⟩
 refine calls_of_wp hf hb ?_
 let E:Ent := { w0:=w,ok0:=ok,rx:=none,N:=fn.ntmps }
 have hokA:∀ b,ok b→bj E (fun _=>none) bo w b:=fun b hb=>⟨hok b hb,fun _=>hb,fun _ h=>absurd rfl h⟩
 have hk:dQ ok (bj E (fun _=>none) bo w) w w:=fun b hb=>⟨hokA b hb,fun _=>rfl⟩
 have g:Gam S E (pZ args) bo { tmps:=vs ++ Array.replicate (fn.ntmps - vs.size) undef,defers:=[] } w:=by
  refine ⟨rfl,by simp [E];omega,⟨rfl,rfl,rfl,Nat.le_refl _,fun _ _ _=>rfl,fun _ _ _ h=>(by cases h)⟩,fun s => ?_,fun _ _ h=>(by cases h),fun _ _ h=>(by cases h),fun _ _ _ h=>(by cases h),fun _ _ _ h=>absurd rfl h,
   fun _ _ _ h=>(by cases h),fun s => ?_,fun gg n f hg => ?_,fun s=>⟨trivial,trivial⟩⟩
  ·simp only [pZ,bA]
   split
   ·rename_i hs
    refine hl _ ?_
    rw [List.getD_eq_getElem?_getD,List.getElem?_eq_getElem (by omega)];exact List.getElem_mem _
   ·trivial
  ·simp only [pZ,bA]
   split
   ·rename_i hs
    have e:(vs ++ Array.replicate (fn.ntmps - vs.size) undef).getD s undef=vs.getD s undef:=by
     have:s<vs.size:=by omega
     simp [this]
     rw [Array.getElem?_append_left this]
     simp [this]
    rw [e]
    exact bu.mono (nx:=0) hk (fun _ _=>rfl) (hl _ (by rw [List.getD_eq_getElem?_getD,List.getElem?_eq_getElem (by omega)];exact List.getElem_mem _)) (hden (s - 0))
   ·trivial
  ·obtain ⟨h1,h2⟩:=hgl gg n f hg
   refine ⟨hokA gg h1,fun j hj => ?_⟩
   obtain ⟨x,hx,h3,hd⟩:=h2 j hj
   exact ⟨x,hx,h3,aV.mono hk hd⟩
 have fin : ∀ {a' : Act} {w' : World}, iZ S E (vF S fn.results.toList R) a' w' → a'.defers = [] ∧ ∃ v, (results fn a'.tmps).run S.P w' = .ok v w' ∧
   ∃ v2 r,Ending.returned v = .returned v2∧R r∧SV.lt 0 r∧RowKit.Below w.heap.size w w'∧aU bo (EO ok w w') w' r v2:=fun {a' w'} ⟨st',ρ',g',hq⟩=>by
  obtain ⟨v,r,h1,h2,h3,h4⟩:=Il (ok:=EO ok w w') rfl hq g' (fun b hb=>⟨hb.1,hb.2.1⟩) (fun b h1 h2=>⟨h1,fun h3=>by have:w.heap.size≤b:=h2;omega⟩)
  exact ⟨g'.dfr,v,h1,v,r,rfl,h2,h3,⟨g'.frm.os,g'.frm.tape,g'.frm.output,g'.frm.size,fun k hk=>g'.frm.block k hk (fun _ _ h=>by cases h)⟩,h4⟩
 refine wp_mono (cQ hm c hN h g) fun e a' w' hq => ?_
 cases e with
 | normal=>exact fin hq
 | ret=>exact fin hq
 | exit id=>obtain ⟨_,_,_,h⟩:=hq;exact h.elim
 | _=>exact hq.elim
end
end Go.SL
namespace Go.SL
open Go
section
variable {S:Env}
theorem CallP.mono {st:St} {f:FuncId} {args:List BV} {K K':SV→St→Prop} (hK:∀ r s,K r s→K' r s) (h:CallP S st f args K):CallP S st f args K':=by
 cases h with
 | pure args' X h ha hl hk=>exact .pure args' X h ha hl (hK _ _ hk)
 | lend args' X h ha hl hf hk hp=>exact .lend args' X h ha hl hf (hK _ _ hk) hp
 | recv id off cs0 cs rest args' X Y h he hb hoff hcs ha hl hr hy hk=>exact .recv id off cs0 cs rest args' X Y h he hb hoff hcs ha hl hr hy (hK _ _ hk)
 | recvEl id sz i e n g cs rest args' X Y h he hb hi hsz hcs ha hl hr hy hk=>exact .recvEl id sz i e n g cs rest args' X Y h he hb hi hsz hcs ha hl hr hy (hK _ _ hk)
 | inl X bx' nx' h hr hw hk hn=>exact .inl X bx' nx' h hr hw (hK _ _ hk) hn
 | own args' e sz n g h ha hl hr hk=>exact .own args' e sz n g h ha hl hr (hK _ _ hk)
 | ext args' X h ha hl hk=>exact .ext args' X h ha hl (hK _ _ hk)
theorem rS {st:St} {ev:Operand→SV} {op:Op} {K K':SV→St→Prop} (hK:∀ r s,K r s→K' r s) (h:cu S st ev op K):cu S st ev op K':=by
 cases op with
 | build t parts =>
  simp only [cu] at *
  split at h
  ·split at h
   ·exact ⟨h.1,hK _ _ h.2⟩
   ·exact h.elim
  ·exact h.elim
 | alloc t =>
  simp only [cu] at *
  split at h
  ·exact hK _ _ h
  ·exact h.elim
 | box t x =>
  simp only [cu] at *
  split at h
  ·exact ⟨h.1,hK _ _ h.2⟩
  ·exact h.elim
 | buildSlice t len parts =>
  simp only [cu] at *
  split at h
  ·split at h
   ·split at h
    ·exact ⟨h.1,hK _ _ h.2⟩
    ·exact h.elim
   ·exact h.elim
  ·exact h.elim
 | store t p x =>
  simp only [cu] at *
  split at h
  ·split at h
   ·exact ⟨h.1,hK _ _ h.2⟩
   ·exact h.elim
  ·split at h
   ·exact ⟨h.1,hK _ _ h.2⟩
   ·exact h.elim
  ·exact h.elim
 | makeSlice t l c =>
  simp only [cu] at *
  split at h
  ·split at h
   ·exact ⟨h.1,hK _ _ h.2⟩
   ·exact h.elim
  ·exact h.elim
 | call c =>
  simp only [cu] at *
  split at h
  ·split at h
   ·split at h
    ·exact ⟨h.1,hK _ _ h.2⟩
    ·split at h
     ·exact ⟨h.1,hK _ _ h.2⟩
     ·exact h.elim
    ·exact h.elim
   ·exact h.elim
  ·split at h
   ·split at h
    ·exact ⟨h.1,hK _ _ h.2⟩
    ·exact h.elim
   ·exact h.elim
  ·exact h.mono hK
  ·split at h
   ·exact CallP.mono hK h
   ·exact h.elim
  ·exact h.elim
 | _=>exact h
theorem wQ {st:St} {o:Oper} {K K':St→Prop} (hK:∀ s,K s→K' s) (h:gM S st o K):gM S st o K':=by
 unfold gM at *
 split at h
 ·exact ⟨h.1,hK _ h.2⟩
 ·exact ⟨h.1,rS (fun _ _ hk=>hK _ hk) h.2⟩
theorem qM {ops:Array Oper} {st:St} {o:Oper} {K K':St→Prop} (hK:∀ s,K s→K' s) (h:dD S ops st o K):dD S ops st o K':=by
 unfold dD at *
 split at h
 ·exact wQ hK h
 ·split at h
  ·split at h
   ·exact ⟨h.1,h.2.1,hK _ h.2.2⟩
   ·exact ⟨h.1,h.2.1,hK _ h.2.2⟩
   ·rcases h with h|⟨x,h1,h2,h3⟩
    ·exact .inl ⟨fun ht=>wQ hK (h.1 ht),fun ht=>hK _ (h.2 ht)⟩
    ·exact .inr ⟨x,h1,h2,hK _ h3⟩
  ·exact h.elim
theorem tq {ops:Array Oper} {K K':St→Prop} (hK:∀ s,K s→K' s):∀ {l:List Oper} {st:St},aK S ops l st K→aK S ops l st K'
 | [],_,h=>hK _ h
 | _ :: _,_,h=>qM (fun _ hk=>tq hK hk) h
theorem ov {ops:Array Oper} {K K':St→Prop} (hK:∀ s,K s→K' s):∀ {n:Nat} {listed:Array Bool} {st:St},fN S ops n listed st K→fN S ops n listed st K'
 | 0,_,_,h=>⟨h.1,hK _ h.2⟩
 | n+1,listed,st,h=>by
  refine ⟨fun hr=>hK _ (h.1 hr),fun i hi => ?_⟩
  have:=h.2 i hi
  split at this
  ·exact qM (fun _ hk=>ov hK hk) this
  ·exact ov hK this
theorem Wk.mono {K K':St→Prop} {st:St} (hK:∀ s,K s→K' s) (h:Wk K st):Wk K' st:=let ⟨s,hl,hk⟩:=h; ⟨s,hl,hK _ hk⟩
theorem gZ {n n':St→Prop} {Q Q':AExit→St→Prop} (hn:∀ s,n s→n' s) (hq:∀ e s,Q e s→Q' e s):∀ e s,fv n Q e s→fv n' Q' e s
 | .normal,s,h=>hn s h
 | .exit _,s,h=>hq _ s h
 | .ret,s,h=>hq _ s h
theorem cC:∀ (c:Code) {Q Q':AExit→St→Prop} {st:St},(∀ e s,Q e s→Q' e s)→cw S c Q st→cw S c Q' st
 | .skip,_,_,_,hq,h=>hq _ _ h
 | .label _,_,_,_,hq,h=>hq _ _ h
 | .exit _,_,_,_,hq,h=>hq _ _ h
 | .ret,_,_,_,hq,h=>hq _ _ h
 | .region _ ops draw,_,_,_,hq,h=>by
  simp only [cw] at *
  split
  ·rename_i hd;rw [if_pos hd] at h;exact ov (fun s=>hq _ s) h
  ·rename_i hd;rw [if_neg hd] at h;exact tq (fun s=>hq _ s) h
 | .seq x y,_,_,_,hq,h=>cC x (gZ (fun _ hs=>hs.imp (Wk.mono fun _=>cC y hq) (cC y hq)) hq) h
 | .cond c x y,_,_,_,hq,h=>by
  simp only [cw] at *
  split at h
  ·exact ⟨fun ht=>cC x hq (h.1 ht),fun ht=>cC y hq (h.2 ht)⟩
  ·exact h.elim
 | .block id c, _, _, _, hq, h => cC c (fun e s hs => by
   cases e with
   | exit id' =>
    simp only [iW] at *
    split
    ·rename_i he;rw [if_pos he] at hs;exact hq _ _ hs
    ·rename_i he;rw [if_neg he] at hs;exact hq _ _ hs
   | _=>exact hq _ _ hs) h
 | .loop c,_,_,_,hq,h=>by
  obtain ⟨I,n,h0,hr⟩:=h
  exact ⟨I,n,h0,fun n s hI=>cC c (gZ (fun _ hs=>hs) hq) (hr n s hI)⟩
 | .rangeFunc ..,_,_,_,_,h=>h
 | .scope _,_,_,_,_,h=>h
 | .goto _,_,_,_,_,h=>h
 | .refuse _,_,_,_,_,h=>h
variable {st:St} {Q:AExit→St→Prop}
theorem rl {x y:Code} (h:cw S x (fv (cw S y Q) Q) st):cw S (.seq x y) Q st:=cC x (gZ (fun _ hs => .inr hs) (fun _ _ h=>h)) h
theorem KT {x y:Code} (M:St→Prop) (h:cw S x (fv (Wk M) Q) st) (h2:∀ s,M s→cw S y Q s):cw S (.seq x y) Q st :=
 cC x (gZ (fun _ hs => .inl (hs.mono h2)) (fun _ _ h=>h)) h
theorem uS (h:Q .normal st):cw S .skip Q st:=h
theorem kW (h:Q .ret st):cw S .ret Q st:=h
theorem HZ {id:Nat} (h:Q (.exit id) st):cw S (.exit id) Q st:=h
theorem xd {id:Nat} {c:Code} (h:cw S c (iW id Q) st):cw S (.block id c) Q st:=h
theorem og {id:Nat} {l:List Oper} (h:aK S l.toArray l st (Q .normal)):cw S (.region id l.toArray false) Q st:=by
 simp only [cw];exact h
theorem jS {c:Operand} {x y:Code} {t:Bool} (hc:st.ev S c = .t t) (h1:t=true→cw S x Q st) (h2:t=false→cw S y Q st):cw S (.cond c x y) Q st:=by
 simp only [cw,hc];exact ⟨h1,h2⟩
theorem aS {X : Type} {c : Code} (F : X → St) (I : X → Prop) (m : X → Nat) (x0 : X) (h0 : I x0) (hle : Le st (F x0))
  (hr:∀ x,I x→cw S c (fv (Wk fun s=>∃ x',s=F x'∧I x'∧m x'<m x) Q) (F x)):cw S (.loop c) Q st:=by
 refine ⟨fun n s=>∃ x,s=F x∧I x∧m x=n,m x0,⟨F x0,hle,x0,rfl,h0,rfl⟩,fun n s hs => ?_⟩
 obtain ⟨x,rfl,hI,rfl⟩:=hs
 exact cC c (gZ (fun _ hs=>hs.mono fun _ ⟨x',h1,h2,h3⟩=>⟨m x',h3,x',h1,h2,rfl⟩) (fun _ _ h=>h)) (hr x hI)
end
end Go.SL
