/- Part of the proof: SlK, SlL, SlM. -/
import Derived.Test.YtcbifofjjpfbcaaGreatDoorM1
set_option linter.unusedSimpArgs false
namespace Go.SL
open Go
section
variable {S:Env} {E:Ent} {st:St} {ρ:fQ} {a:Act} {w:World} {Q:Exit→Act→World→Prop}
theorem BT {o : Oper} {s : Sem Value} {v : Value} {w' : World} {next : Act → World → Prop} (he : execOp a.eval o = (do pure (Next.value (← s)) : Sem Next)) (hr : s.run S.P w = .ok v w') (hn : next (a.put o.dst v) w') :
  o.wp S.P a w next Q:=by
 unfold Oper.wp
 rw [he]
 simp only [Sem.run_bind,hr,Result.andThen_ok,Sem.run_pure]
 exact hn
theorem TB {o : Oper} {s : Sem Unit} {w' : World} {next : Act → World → Prop} (he : execOp a.eval o = (do s; pure Next.skip : Sem Next)) (hr : s.run S.P w = .ok () w') (hn : next (a.put o.dst undef) w') :
  o.wp S.P a w next Q:=by
 unfold Oper.wp
 rw [he]
 simp only [Sem.run_bind,hr,Result.andThen_ok,Sem.run_pure]
 exact hn
theorem tM.nxt' {K : SV → St → Prop} {Kn : St → Prop} {d : Option Nat} {v : Value} {w' : World} (hd : ∀ k, d = some k → k < E.N) (hK : ∀ r st', K r st' → Kn (st'.set d r)) (h : tM S E K a v w') :
  kO S E Kn (a.put d v) w':=by
 obtain ⟨st',ρ',r,g,hr,hl,hk⟩:=h
 exact kO.mk_set g hd hl hr (hK _ _ hk)
theorem DI {ρ:fQ} {ok:Nat→Prop} {u:Value}:bu ρ ok w .any u:=trivial
theorem DH {x:SV} {k:IntKind} {n:Int} {ok:Nat→Prop} {u:Value} (h:x = .b (.c (.p (.val (.int k n))))) (hd:bu ρ ok w x u):u = .int k n:=by subst h;exact hd
theorem FC {o : Oper} {K : SV → St → Prop} {Kn : St → Prop} (h : dk S st (st.ev S) o.op K) (hc : ∀ x ∈ o.op.operands, (st.ev S x).cond) (hd : ∀ k, o.dst = some k → k < E.N) (g : Gam S E st ρ a w)
  (hK:∀ r st',K r st'→Kn (st'.set o.dst r)):o.wp S.P a w (kO S E Kn) Q:=by
 have D:∀ x,x ∈ o.op.operands→bu ρ (bL E st.bx ρ w) w (st.ev S x).strip (a.eval x):=fun x hx=>jt (g.ev x).1 (hc x hx)
 have L:∀ x,(st.ev S x).strip.lt st.nx:=fun x=>qt (g.ev x).2
 cases hop:o.op with
 | build t parts =>
  rw [hop] at h
  simp only [dk] at h
  split at h
  ·rename_i pl z hb hz
   split at h
   ·rename_i vc cs hf
    obtain ⟨v,hr,hv,hl⟩:=AD hb hz hf h.1 g (fun p hp=>hc p.2 (by rw [hop];simp only [Op.operands,List.mem_toArray,List.mem_map];exact ⟨p,hp,rfl⟩))
    exact BT (by simp only [execOp,hop]) hr (kO.mk_set g hd hl hv (hK _ _ h.2))
   ·exact h.elim
  ·exact h.elim
 | alloc t =>
  rw [hop] at h
  simp only [dk] at h
  split at h
  ·rename_i z hz
   obtain ⟨v,w',hr,hm⟩:=BC hz g h
   exact BT (by simp only [execOp,hop]) hr (hm.nxt' hd hK)
  ·exact h.elim
 | box t x =>
  rw [hop] at h
  simp only [dk] at h
  split at h
  ·rename_i v hx
   have hdx:=D x (by rw [hop];simp [Op.operands])
   have hlx:=L x
   rw [hx] at hdx hlx
   obtain ⟨y,w',hr,hm⟩:=Fx (t:=t) h.1 hdx hlx g h.2
   exact BT (by simp only [execOp,hop]) hr (hm.nxt' hd hK)
  ·exact h.elim
 | buildSlice t len parts =>
  rw [hop] at h
  simp only [dk] at h
  split at h
  ·rename_i e s ag he
   split at h
   ·rename_i z hz
    split at h
    ·rename_i vc cs hf
     obtain ⟨⟨h1,h2,h3,h4,h5⟩,hk⟩:=h
     obtain ⟨y,w',hr,hm⟩:=rf he hz hf h1 h2 h3 h4 h5 g (fun p hp=>hc p.2 (by rw [hop];simp only [Op.operands,List.mem_toArray,List.mem_map];exact ⟨p,hp,rfl⟩)) hk
     exact BT (by simp only [execOp,hop]) hr (hm.nxt' hd hK)
    ·exact h.elim
   ·exact h.elim
  ·exact h.elim
 | store t p x =>
  rw [hop] at h
  simp only [dk] at h
  have hdp:=D p (by rw [hop];simp [Op.operands])
  have hdx:=D x (by rw [hop];simp [Op.operands])
  have hlx:=L x
  split at h
  ·rename_i id off v sz ag hp hx ht
   split at h
   ·rename_i cs hb
    obtain ⟨⟨h1,h2,h3⟩,hk⟩:=h
    rw [hp] at hdp
    rw [hx] at hdx hlx
    obtain ⟨w',hr,g',hk'⟩:=uQ ht hb h1 h2 h3 hdp hdx hlx g hk
    exact TB (by simp only [execOp,hop]) hr (kO.mk_set (r := .any) g' hd trivial DI (hK _ _ hk'))
   ·exact h.elim
  ·rename_i id s i off v sz ag hp hx ht
   split at h
   ·rename_i e s' n f hb
    obtain ⟨⟨rfl,h1,h2,h3,h4,h5⟩,hk⟩:=h
    rw [hp] at hdp
    rw [hx] at hdx hlx
    obtain ⟨w',hr,g',hk'⟩:=vF ht hb h1 h3 h2 h4 hdp hdx g hk
    exact TB (by simp only [execOp,hop]) hr (kO.mk_set (r := .any) g' hd trivial DI (hK _ _ hk'))
   ·exact h.elim
  ·exact h.elim
 | makeSlice t l c =>
  rw [hop] at h
  simp only [dk] at h
  split at h
  ·rename_i kl l' kc c' e s ag hl hcc he
   split at h
   ·rename_i z i hz hi
    obtain ⟨⟨h1,h2,h3,h4,h5,h6⟩,hk⟩:=h
    obtain ⟨y,w',hr,hm⟩:=sI (kl:=kl) (kc:=kc) he hz hi h1 h2 h3 h4 h5 h6 g hk
    have e1:=DH hl (D l (by rw [hop];simp [Op.operands]))
    have e2:=DH hcc (D c (by rw [hop];simp [Op.operands]))
    exact BT (by simp only [execOp,hop,e1,e2]) hr (hm.nxt' hd hK)
   ·exact h.elim
  ·exact h.elim
 | call c =>
  obtain ⟨callee,args,ts⟩:=c
  rw [hop] at h
  simp only [dk] at h
  split at h
  ·rename_i x y t t' h2 h3
   have ha:args = #[x,y]:=by rw [← Array.toArray_toList (xs:=args),h2]
   have ht:ts = #[t,t']:=by rw [← Array.toArray_toList (xs:=ts),h3]
   subst ha;subst ht
   have hdx:=D x (by rw [hop];simp [Op.operands,Call.operands])
   have hdy:=D y (by rw [hop];simp [Op.operands,Call.operands])
   split at h
   ·rename_i e s ag vc sz m gg he hsrc
    split at h
    ·rename_i i z hi hz hx
     obtain ⟨⟨h1,rfl,h3,h4,h5,h6,h7⟩,hk⟩:=h
     rw [hx] at hdx
     have ex:a.eval x = .slice none 0 0:=hdx
     obtain ⟨v,w',hr,hm⟩:=sL (ty:=o.type) he hz hi hsrc h1 h3 h4 h5 h6 h7 g hdy hk
     exact BT (s:=Builtin.append_ #[t,t] o.type #[.slice none 0 0,a.eval y]) (by simp [execOp,hop,resolve,invoke,builtin,ex]) hr (hm.nxt' hd hK)
    ·rename_i i z id n hi hz hx
     split at h
     ·rename_i e' s' n' f hb
      obtain ⟨⟨h1,rfl,rfl,rfl,hnn,h3,h4,h5,h6,h7⟩,hk⟩:=h
      rw [hx] at hdx
      obtain ⟨v,w',hr,hm⟩:=sM (ty:=o.type) he hz hi hsrc h1 h3 h4 h5 h6 h7 g hdy hb hnn hdx hk
      exact BT (s:=Builtin.append_ #[t,t] o.type #[a.eval x,a.eval y]) (by simp [execOp,hop,resolve,invoke,builtin]) hr (hm.nxt' hd hK)
     ·exact h.elim
    ·exact h.elim
   ·exact h.elim
  ·rename_i x y t t' h2 h3
   have ha:args = #[x,y]:=by rw [← Array.toArray_toList (xs:=args),h2]
   have ht:ts = #[t,t']:=by rw [← Array.toArray_toList (xs:=ts),h3]
   subst ha;subst ht
   have hdx:=D x (by rw [hop];simp [Op.operands,Call.operands])
   have hdy:=D y (by rw [hop];simp [Op.operands,Call.operands])
   split at h
   ·rename_i e s ag id s1 lo n sz m gg he hx hy
    split at h
    ·rename_i e' s2 n' f hb
     obtain ⟨⟨rfl,rfl,rfl,h1,h2',h3'⟩,hk⟩:=h
     rw [hx] at hdx
     rw [hy] at hdy
     obtain ⟨v,w',hr,hm⟩:=CB (t':=t') (ty:=o.type) he hb h1 h2' h3' hdx hdy g hk
     exact BT (s:=Builtin.copy_ #[t,t'] o.type #[a.eval x,a.eval y]) (by simp [execOp,hop,resolve,invoke,builtin]) hr (hm.nxt' hd hK)
    ·exact h.elim
   ·exact h.elim
  ·rename_i f _ _ _
   exact CZ (ts:=ts) hop hd (fun x hx=>hc x (by rw [hop];simp [Op.operands,Call.operands];exact .inr (by simpa using hx))) g hK h
  ·rename_i t
   split at h
   ·rename_i f xs hx
    have hcal:=hc (.tmp t) (by rw [hop];simp [Op.operands,Call.operands])
    have hdx:=jt (g.ev (.tmp t)).1 hcal
    exact Jq (ts:=ts) hop hx hdx hd (fun x hx=>hc x (by rw [hop];simp [Op.operands,Call.operands];exact .inr (by simpa using hx))) g hK h
   ·exact h.elim
  ·exact h.elim
 | _=>rw [hop] at h;exact h.elim
theorem qC {o:Oper} {K:St→Prop} (h:jo S st o K) (hd:∀ k,o.dst=some k→k<E.N) (g:Gam S E st ρ a w):o.wp S.P a w (kO S E K) Q:=by
 unfold jo at h
 split at h
 ·rename_i vc r hr
  obtain ⟨v,hrun,hv,hl⟩:=uY hr h.1 g
  exact tC hrun (kO.mk_set g hd hl hv h.2)
 ·exact FC h.2 (fun x hx=>mY h.1 (List.mem_map.2 ⟨x,by simpa using hx,rfl⟩)) hd g (fun _ _ hk=>hk)
theorem yN {d : Option Nat} {want t : Bool} (h : iP st d want = some t) (g : Gam S E st ρ a w) (ops : Array Oper) (j : Nat) (hj : (ops[j]?).bind (·.dst) = d) :
  (yielded ops a.tmps j == some want)=t:=by
 unfold iP at h
 split at h
 ·rename_i k
  have hs:=g.slt k
  have key:∀ b,a.tmps.getD k undef = .bool b→yielded ops a.tmps j=some b:=fun b hb=>by
   unfold yielded
   rw [hj]
   have hlt:k<a.tmps.size:=by
    rcases Nat.lt_or_ge k a.tmps.size with h'|h'
    ·exact h'
    ·rw [aT?,Array.getElem?_eq_none h'] at hb;simp [undef] at hb
   have:a.tmps[k]?=some (.bool b):=by
    rw [Array.getElem?_eq_getElem hlt]
    simp [hlt] at hb
    rw [hb]
   simp [this]
  split at h
  ·rename_i b hf
   rw [hf] at hs
   simp only [Option.some.injEq] at h
   subst h
   rw [key b hs]
   rfl
  ·rename_i p b hf
   rw [hf] at hs
   simp only [Option.some.injEq] at h
   subst h
   cases p with
   | true=>rw [key b (hs.1 rfl)];rfl
   | false =>
    have hu:=hs.2 rfl
    have:yielded ops a.tmps j=none:=by
     unfold yielded
     rw [hj]
     simp only [Option.bind_some]
     cases hk:a.tmps[k]? with
     | none=>rfl
     | some v =>
      have hv:v=undef:=by rw [aT?,hk] at hu;exact hu
      subst hv
      rfl
    rw [this]
    rfl
  ·simp at h
 ·simp at h
theorem Ob {d:Option Nat} {x:BV} (g:Gam S E (st.set d (.b x)) ρ a w):Gam S E (st.set d (.grd true x)) ρ a w:=by
 cases d with
 | none=>exact g
 | some k =>
  refine ⟨g.dfr,g.sz,g.frm,fun s => ?_,g.wfb,g.bxs,g.new,g.inj,g.rx0,fun s => ?_,g.glb,g.kept⟩
  ·have:=g.wfs s
   simp only [St.set] at this ⊢
   split
   ·rename_i h;rw [if_pos h] at this;exact this
   ·rename_i h;rw [if_neg h] at this;exact this
  ·have:=g.slt s
   simp only [St.set] at this ⊢
   split
   ·rename_i h;rw [if_pos h] at this;exact ⟨fun _=>this,fun h=>by cases h⟩
   ·rename_i h;rw [if_neg h] at this;exact this
theorem FW {ops : Array Oper} {o : Oper} {K : St → Prop} (h : eP S ops st o K) (hd : ∀ k, o.dst = some k → k < E.N) (g : Gam S E st ρ a w) :
  if Region.wanted o (yielded ops a.tmps) then o.wp S.P a w (kO S E K) Q else kO S E K (a.put o.dst undef) w:=by
 unfold eP at h
 split at h
 ·rename_i hg
  rw [if_pos (by simp [Region.wanted,hg])]
  exact qC h hd g
 ·rename_i j want hg
  split at h
  ·rename_i t ht
   have hy:=yN ht g ops j rfl
   have hw:Region.wanted o (yielded ops a.tmps)=t:=by simp only [Region.wanted,hg];exact hy
   split at h
   ·rename_i vc r hr
    obtain ⟨hlr,hvc,hk⟩:=h
    cases t with
    | true =>
     rw [if_pos hw]
     obtain ⟨v,hrun,hv,hl⟩:=uY hr (hvc rfl) g
     exact tC hrun (kO.mk_set (r := .grd true r) g hd hlr ⟨fun _=>hv,fun h=>by cases h⟩ hk)
    | false =>
     rw [if_neg (by rw [hw];simp)]
     exact kO.mk_set (r := .grd false r) g hd hlr ⟨fun h=>(by cases h),fun _=>rfl⟩ hk
   ·rename_i vc p r hr
    obtain ⟨hlr,hvc,hk⟩:=h
    cases t with
    | true =>
     rw [if_pos hw]
     obtain ⟨v,hrun,hv,hl⟩:=uY hr (hvc rfl).1 g
     exact tC hrun (kO.mk_set (r := .grd true r) g hd hlr ⟨fun _=>hv.1 (hvc rfl).2,fun h=>by cases h⟩ hk)
    | false =>
     rw [if_neg (by rw [hw];simp)]
     exact kO.mk_set (r := .grd false r) g hd hlr ⟨fun h=>(by cases h),fun _=>rfl⟩ hk
   ·rcases h with h|⟨x,hlx,h1,hk⟩
    ·cases t with
     | true=>rw [if_pos hw];exact qC (h.1 rfl) hd g
     | false =>
      rw [if_neg (by rw [hw];simp)]
      exact kO.mk_set (r := .any) g hd trivial trivial (h.2 rfl)
    ·cases t with
     | true =>
      rw [if_pos hw]
      refine Oper.wp_mono (fun a' w' hn => ?_) (qC (h1 rfl) hd g)
      obtain ⟨st',ρ',g',rfl⟩:=hn
      exact ⟨_,ρ',Ob g',hk⟩
     | false =>
      rw [if_neg (by rw [hw];simp)]
      exact kO.mk_set (r := .grd false x) g hd hlx ⟨fun h=>(by cases h),fun _=>rfl⟩ hk
  ·exact h.elim
def wx (N:Nat) (o:Oper):Bool:=match o.dst with
 | some d=>decide (d<N)
 | none=>true
theorem Dx {N:Nat} {o:Oper} (h:wx N o=true):∀ k,o.dst=some k→k<N:=by
 intro k hk
 unfold wx at h
 rw [hk] at h
 simpa using h
theorem DS {ops : Array Oper} {i : Nat} {o : Oper} {K : St → Prop} {K' : Act → World → Prop} (hi : ops[i]? = some o) (h : eP S ops st o K) (hd : wx E.N o = true) (g : Gam S E st ρ a w)
  (hK:∀ a w,kO S E K a w→K' a w):wpOp S.P ops Q i K' a w:=by
 unfold wpOp
 simp only [hi]
 have:=FW (Q:=Q) h (Dx hd) g
 split
 ·rename_i hw
  rw [if_pos hw] at this
  exact .inl (Oper.wp_mono hK this)
 ·rename_i hw
  rw [if_neg hw] at this
  exact hK _ _ this
theorem oW {ops : Array Oper} {K : St → Prop} (hN : ops.toList.all (wx E.N) = true) (hQ : ∀ a w, kO S E K a w → Q .normal a w) : ∀ (l : List Oper) (k : Nat), (∀ j, l[j]? = ops[k + j]?) → ∀ {st : St} {ρ : fQ} {a : Act} {w : World},
  aZ S ops l st K→Gam S E st ρ a w→wpOps S.P ops Q (List.range' k l.length) a w
 | [],k,_,st,ρ,a,w,h,g=>by simp only [List.length_nil,List.range'_zero,wpOps];exact hQ _ _ ⟨st,ρ,g,h⟩
 | o :: l,k,hl,st,ρ,a,w,h,g=>by
  have h0:ops[k]?=some o:=by simpa using (hl 0).symm
  have hmem:o ∈ ops.toList:=by
   have:=Array.mem_of_getElem? h0
   simpa using this
  rw [List.length_cons,List.range'_succ,wpOps_cons]
  exact DS h0 h (List.all_eq_true.1 hN o hmem) g fun a w ⟨st',ρ',g',hk⟩ =>
   oW hN hQ l (k+1) (fun j=>by have:=hl (j+1);simpa [Nat.add_assoc,Nat.add_comm 1 j] using this) hk g'
def iL (S:Env) (ops:Array Oper):Nat→Array Bool→St→(St→Prop)→Prop
 | 0,listed,st,K=>Region.ready .any ops listed=[]∧K st
 | fuel + 1, listed, st, K => (Region.ready .any ops listed = [] → K st) ∧
   ∀ i ∈ Region.ready .any ops listed,match ops[i]? with
    | some o=>eP S ops st o fun st'=>iL S ops fuel (listed.setIfInBounds i true) st' K
    | none=>iL S ops fuel (listed.setIfInBounds i true) st K
theorem lF {ops : Array Oper} {K : St → Prop} (hN : ops.toList.all (wx E.N) = true) (hQ : ∀ a w, kO S E K a w → Q .normal a w) : ∀ (fuel : Nat) (listed : Array Bool) {st : St} {ρ : fQ} {a : Act} {w : World},
  iL S ops fuel listed st K→Gam S E st ρ a w→wpAny S.P .any ops Q fuel listed a w
 | 0,listed,st,ρ,a,w,h,g=>⟨h.1,hQ _ _ ⟨st,ρ,g,h.2⟩⟩
 | fuel+1,listed,st,ρ,a,w,h,g=>by
  refine ⟨fun hr=>hQ _ _ ⟨st,ρ,g,h.1 hr⟩,fun i hi => ?_⟩
  have:=h.2 i hi
  cases ho:ops[i]? with
  | none =>
   rw [ho] at this
   unfold wpOp
   simp only [ho]
   exact lF hN hQ fuel _ this g
  | some o =>
   rw [ho] at this
   have hmem:o ∈ ops.toList:=by
    have:=Array.mem_of_getElem? ho
    simpa using this
   exact DS ho this (List.all_eq_true.1 hN o hmem) g fun a w ⟨st',ρ',g',hk⟩=>lF hN hQ fuel _ hk g'
def zr (r:Nat→Option Nat) (ρ:fQ):fQ:=fun i=>match r i with
 | some k=>ρ k
 | none => .slice none 0 0
def zq (r:Nat→Option Nat) (bx bx':Nat→Option Bx):CV→CV→Prop
 | _, .p .any=>True
 | .p x, .p y=>x=y∨PV.le x y
 | .p x, .own id' n'=>x = .val (.slice none 0 0)∧n'=0∧r id'=none
 | .ptr id off, .ptr id' off'=>r id'=some id∧off=off'
 | .clo f ps, .clo f' ps'=>f=f'∧ps.map (·.2)=ps'.map (·.2)∧ps'.map (fun p=>r p.1)=ps.map (fun p=>some p.1)
 | .pel id sz i off, .pel id' sz' i' off'=>r id'=some id∧sz=sz'∧i=i'∧off=off'
 | .sub id sz lo n, .sub id' sz' lo' n'=>r id'=some id∧sz=sz'∧lo=lo'∧n=n'
 | .own id n, .own id' n'=>r id'=some id∧n=n'
 | .own id n, .p (.lst sz n' f')=>∃ e m f,bx id=some (.arr e sz m f)∧n=n'∧n≤m∧(∀ i,i<n→∀ j,j<sz→PV.le (f i j) (f' i j))∧∀ id',bx' id'≠none→r id'≠some id
 | .ipt sz g off, .ipt sz' g' off'=>sz=sz'∧off=off'∧(g=g'∨∀ j,j<sz→PV.le (g j) (g' j))
 | _,_=>False
def EX (r:Nat→Option Nat) (bx bx':Nat→Option Bx):List CV→List CV→Prop
 | [],[]=>True
 | x :: l,y :: l'=>zq r bx bx' x y∧EX r bx bx' l l'
 | _,_=>False
def Tq (r:Nat→Option Nat) (bx bx':Nat→Option Bx):BV→BV→Prop
 | _, .c (.p .any)=>True
 | .c x, .c y=>zq r bx bx' x y
 | .agg l, .agg l'=>EX r bx bx' l l'
 | _,_=>False
def zs (r:Nat→Option Nat) (bx bx':Nat→Option Bx):SV→SV→Prop
 | _, .any=>True
 | .b x, .b y=>Tq r bx bx' x y
 | x,y=>x=y∧∃ n,x.lt n∧∀ id,id<n→r id=some id
def Py (r:Nat→Option Nat) (bx bx':Nat→Option Bx):Bx→Bx→Prop
 | .fix l, .fix l'=>EX r bx bx' l l'
 | .arr e sz n f, .arr e' sz' n' f'=>e=e'∧sz=sz'∧n=n'∧(f=f'∨∀ i,i<n→∀ j,j<sz→PV.le (f i j) (f' i j))
 | _,_=>False
def fI (r:Nat→Option Nat) (bx bx':Nat→Option Bx) (i:Nat) (x:Bx):Prop :=
 match r i with
 | some k=>∃ y,bx k=some y∧Py r bx bx' y x
 | none=>∃ e s f,x = .arr e s 0 f∧0<s
structure Le (st st':St):Prop where
 ex:∃ r:Nat→Option Nat,r 0=some 0∧(0<st.nx→0<st'.nx)∧(∀ i j k,st'.bx i≠none→st'.bx j≠none→r i=some k→r j=some k→i=j) ∧
  (∀ s,zs r st.bx st'.bx (st.fr s) (st'.fr s))∧(∀ i x,st'.bx i=some x→fI r st.bx st'.bx i x)∧(∀ s,zs r st.bx st'.bx (st.kf s) (st'.kf s))
 wfs:∀ s,(st'.fr s).lt st'.nx
 wfb:∀ id b,st'.bx id=some b→id<st'.nx∧b.lt st'.nx
 wfk:∀ s,(st'.kf s).lt st'.nx
theorem dT {r:Nat→Option Nat} {ρ:fQ} {i k:Nat} (h:r i=some k):zr r ρ i=ρ k:=by simp [zr,h]
theorem jN {r:Nat→Option Nat} {ρ:fQ} {i:Nat} (h:r i=none):zr r ρ i = .slice none 0 0:=by simp [zr,h]
theorem EZ {r : Nat → Option Nat} {st st' : St} (g : Gam S E st ρ a w) (hsub : ∀ i k, st'.bx i ≠ none → r i = some k → st.bx k ≠ none) (hk : fG (bL E st.bx ρ w) (bL E st'.bx (zr r ρ) w) w w) {x y : CV} {u : Value} (h : zq r st.bx st'.bx x y)
  (hx:ca ρ (bL E st.bx ρ w) w x u):ca (zr r ρ) (bL E st'.bx (zr r ρ) w) w y u:=by
 unfold zq at h
 split at h
 ·trivial
 ·rcases h with rfl|h
  ·exact bt.mono hk hx
  ·exact bt.mono hk (h _ _ _ hx)
 ·obtain ⟨rfl,rfl,hr⟩:=h
  have hu:u = .slice none 0 0:=hx
  exact ⟨none,0,0,jN hr,Nat.le_refl _,Nat.le_refl _,fun h=>absurd h (Nat.lt_irrefl 0),hu⟩
 ·obtain ⟨hr,rfl⟩:=h;simp only [ca,dT hr];exact hx
 ·rename_i f ps f' ps'
  obtain ⟨rfl,h2,h1⟩:=h
  obtain ⟨vs,hu,hs,hc⟩:=hx
  have hl:ps.length=ps'.length:=by have:=congrArg List.length h2;simpa using this
  refine ⟨vs,hu,hs.trans hl,fun j hj => ?_⟩
  obtain ⟨b,o,e1,e2⟩:=hc j (by omega)
  have q1:r (ps'.getD j (0,0)).1=some (ps.getD j (0,0)).1:=by
   have:=congrArg (fun l=>l[j]?) h1
   simpa [List.getD_eq_getElem?_getD,hj,hl ▸ hj] using this
  have q2:(ps'.getD j (0,0)).2=(ps.getD j (0,0)).2:=by
   have:=congrArg (fun l=>l[j]?) h2
   have:=this.symm;simpa [List.getD_eq_getElem?_getD,hj,hl ▸ hj] using this
  exact ⟨b,o,by rw [dT q1];exact e1,by rw [q2];exact e2⟩
 ·obtain ⟨hr,rfl,rfl,rfl⟩:=h;simp only [ca,dT hr];exact hx
 ·obtain ⟨hr,rfl,rfl,rfl⟩:=h;simp only [ca,dT hr];exact hx
 ·obtain ⟨hr,rfl⟩:=h;simp only [ca,dT hr];exact hx
 ·rename_i id n sz n' f'
  obtain ⟨e,m,f,hb,rfl,hnm,hle,hid⟩:=h
  obtain ⟨A,m',c,hr,h1,h2,h3,hu⟩:=hx
  obtain ⟨h0,xs,hown,hone,hd⟩:=g.bxs id _ hb
  refine ⟨A,c,hu,by omega,fun hpos => ?_⟩
  rcases hown.2 with ⟨e1,e2⟩|⟨gb,cap,cur,hv,_,hh,hnc,_,hcs,htk⟩
  ·omega
  ·rw [hr] at hv
   simp only [Value.slice.injEq] at hv
   obtain ⟨rfl,rfl,rfl⟩:=hv
   have hgb:mZ (ρ id)=some gb:=by rw [hr];rfl
   refine ⟨gb,0,rfl,⟨bN hh,fun hlt => ?_,fun i hi hbi => ?_⟩,fun i hi j hj => ?_⟩
   ·rcases (g.new id _ gb hb hgb).2 with h|⟨_,_,_,h,_⟩
    ·omega
    ·cases h
   ·cases hri:r i with
    | none=>rw [jN hri] at hbi;cases hbi
    | some k =>
     rw [dT hri] at hbi
     exact hid i hi (by rw [hri,g.inj k id gb (hsub i k hi hri) (by rw [hb];simp) hbi hgb])
   ·have hlt:i * sz+j<m' * sz:=dq (by omega) hj
    have hlt2:i * sz+j<cur.size:=by rw [hcs];exact Nat.lt_of_lt_of_le hlt (Nat.mul_le_mul_right _ hnc)
    have hlx:i * sz+j<xs.length:=by rw [hown.1];exact hlt
    have hxe:xs.getD (i * sz+j) undef=cur.getD (i * sz+j) undef:=by
     rw [← htk];simp [List.getElem?_take,hlt]
    refine ⟨cur.getD (i * sz+j) undef,by rw [Nat.zero_add];exact bG hh hlt2, ?_, ?_⟩
    ·rw [← hxe,List.getD_eq_getElem?_getD,List.getElem?_eq_getElem hlx]
     exact hone _ (List.getElem_mem hlx)
    ·rw [← hxe]
     exact bt.mono hk (hle i hi j hj _ _ _ (hd i (by omega) j hj))
 ·rename_i sz gg off sz' gg' off'
  obtain ⟨rfl,rfl,hg⟩:=h
  obtain ⟨b,o,hu,hok,hc⟩:=hx
  refine ⟨b,o,hu,(hk b hok).1,fun j hj => ?_⟩
  obtain ⟨x,hx,h1,hd⟩:=hc j hj
  refine ⟨x,hx,h1,bt.mono hk ?_⟩
  rcases hg with rfl|hg
  ·exact hd
  ·exact hg j hj _ _ _ hd
 ·exact h.elim
theorem tn {r : Nat → Option Nat} {st st' : St} (g : Gam S E st ρ a w) (hsub : ∀ i k, st'.bx i ≠ none → r i = some k → st.bx k ≠ none) (hk : fG (bL E st.bx ρ w) (bL E st'.bx (zr r ρ) w) w w) :
  ∀ {l l':List CV},EX r st.bx st'.bx l l'→l.length=l'.length∧∀ {u:Nat→Value},(∀ j,ca ρ (bL E st.bx ρ w) w (l.getD j .any) (u j)) →
   ∀ j,ca (zr r ρ) (bL E st'.bx (zr r ρ) w) w (l'.getD j .any) (u j)
 | [],[],_=>⟨rfl,fun _ j=>by simp [ca,bt]⟩
 | x :: l,y :: l',⟨h1,h2⟩=>by
  obtain ⟨q1,q2⟩:=tn g hsub hk h2
  refine ⟨by simp [q1],fun {u} hu j => ?_⟩
  cases j with
  | zero=>exact EZ g hsub hk h1 (hu 0)
  | succ j=>exact q2 (u:=fun k=>u (k+1)) (fun k=>hu (k+1)) j
theorem MS {r : Nat → Option Nat} {st st' : St} (g : Gam S E st ρ a w) (hsub : ∀ i k, st'.bx i ≠ none → r i = some k → st.bx k ≠ none) (hk : fG (bL E st.bx ρ w) (bL E st'.bx (zr r ρ) w) w w) {x y : BV} {u : Value}
  (h:Tq r st.bx st'.bx x y) (hx:bR ρ (bL E st.bx ρ w) w x u):bR (zr r ρ) (bL E st'.bx (zr r ρ) w) w y u:=by
 unfold Tq at h
 split at h
 ·trivial
 ·exact EZ g hsub hk h hx
 ·obtain ⟨us,hu,hs,h1,hd⟩:=hx
  obtain ⟨q1,q2⟩:=tn g hsub hk h
  exact ⟨us,hu,by omega,h1,q2 hd⟩
 ·exact h.elim
theorem EW {r : Nat → Option Nat} {st st' : St} (g : Gam S E st ρ a w) (hsub : ∀ i k, st'.bx i ≠ none → r i = some k → st.bx k ≠ none) (hk : fG (bL E st.bx ρ w) (bL E st'.bx (zr r ρ) w) w w) {x y : SV} {u : Value}
  (h:zs r st.bx st'.bx x y) (hx:bu ρ (bL E st.bx ρ w) w x u):bu (zr r ρ) (bL E st'.bx (zr r ρ) w) w y u:=by
 unfold zs at h
 split at h
 ·trivial
 ·exact MS g hsub hk h hx
 ·obtain ⟨rfl,n,hl,hr⟩:=h
  exact bu.mono hk (fun id hid=>dT (hr id hid)) hl hx
theorem PN {st':St} (h:Le st st') (g:Gam S E st ρ a w):∃ ρ',Gam S E st' ρ' a w:=by
 obtain ⟨⟨r,hr0,hnx,hinj,hs,hb,hkf⟩,hwfs,hwfb,hwfk⟩:=h
 have hsub:∀ i k,st'.bx i≠none→r i=some k→st.bx k≠none:=fun i k hi hr=>by
  cases hx:st'.bx i with
  | none=>exact absurd hx hi
  | some x =>
   have:=hb i x hx
   simp only [fI,hr] at this
   obtain ⟨y,hy,_⟩:=this;rw [hy];simp
 have hk:fG (bL E st.bx ρ w) (bL E st'.bx (zr r ρ) w) w w:=fun b ⟨h1,h2,h3⟩=>⟨⟨h1,h2,fun i hi=>by
  cases hri:r i with
  | none=>rw [jN hri];simp [mZ]
  | some k=>rw [dT hri];exact h3 k (hsub i k hi hri)⟩,fun _=>rfl⟩
 refine ⟨zr r ρ,g.dfr,g.sz,g.frm,hwfs,hwfb,fun i x hx => ?_,fun i x b hx hbl => ?_,fun i j b h1 h2 h3 h4 => ?_,fun b o l hrx => ?_,
  fun s=>EW g hsub hk (hs s) (g.slt s),fun gg n f hg => ?_,fun s=>⟨hwfk s,EW g hsub hk (hkf s) (g.kept s).2⟩⟩
 ·have hbi:=hb i x hx
  unfold fI at hbi
  cases hri:r i with
  | none =>
   rw [hri] at hbi
   obtain ⟨e,s,f,rfl,hs0⟩:=hbi
   rw [jN hri]
   exact ⟨hs0,[],⟨by simp, .inl ⟨rfl,rfl⟩⟩,by simp,fun i hi=>absurd hi (Nat.not_lt_zero _)⟩
  | some k =>
   rw [hri] at hbi
   obtain ⟨y,hy,hle⟩:=hbi
   have hd:=g.bxs k y hy
   rw [dT hri]
   cases y with
   | fix l =>
    cases x with
    | fix l' =>
     obtain ⟨b,o,cells,t,hv,hh,hsz,h1,hdd⟩:=hd
     obtain ⟨q1,q2⟩:=tn g hsub hk hle
     exact ⟨b,o,cells,t,hv,hh,by omega,fun j hj=>h1 j (by omega),q2 hdd⟩
    | arr=>exact hle.elim
   | arr e sz n f =>
    cases x with
    | fix l'=>exact hle.elim
    | arr e' sz' n' f' =>
     obtain ⟨rfl,rfl,rfl,hf⟩:=hle
     obtain ⟨h0,xs,hown,h1,hdd⟩:=hd
     refine ⟨h0,xs,hown,h1,fun i' hi' j hj=>bt.mono hk ?_⟩
     rcases hf with rfl|hf
     ·exact hdd i' hi' j hj
     ·exact hf i' hi' j hj _ _ _ (hdd i' hi' j hj)
 ·have hbi:=hb i x hx
  unfold fI at hbi
  cases hri:r i with
  | none=>rw [jN hri] at hbl;cases hbl
  | some k =>
   rw [hri] at hbi
   rw [dT hri] at hbl
   obtain ⟨y,hy,hle⟩:=hbi
   obtain ⟨h1,h2⟩:=g.new k y b hy hbl
   refine ⟨h1, ?_⟩
   rcases h2 with h2|⟨o,cs,e1,e2,e3⟩
   ·exact .inl h2
   ·subst e2
    cases x with
    | fix l' =>
     have:=(tn g hsub hk hle).1
     exact .inr ⟨o,l',by rw [dT hri];exact e1,rfl,by rw [← this];exact e3⟩
    | arr=>exact hle.elim
 ·cases hri:r i with
  | none=>rw [jN hri] at h3;cases h3
  | some k =>
   cases hrj:r j with
   | none=>rw [jN hrj] at h4;cases h4
   | some k' =>
    rw [dT hri] at h3
    rw [dT hrj] at h4
    have:=g.inj k k' b (hsub i k h1 hri) (hsub j k' h2 hrj) h3 h4
    subst this
    exact hinj i j k h1 h2 hri hrj
 ·obtain ⟨h1,h2⟩:=g.rx0 b o l hrx
  exact ⟨hnx h1,by rw [dT hr0];exact h2⟩
 ·obtain ⟨h1,h2⟩:=g.glb gg n f hg
  refine ⟨(hk gg h1).1,fun j hj => ?_⟩
  obtain ⟨x,hx,h3,hd⟩:=h2 j hj
  exact ⟨x,hx,h3,bt.mono hk hd⟩
def Wk (K:St→Prop) (st:St):Prop:=∃ st',Le st st'∧K st'
theorem Wk.nxt {K:St→Prop} (h:Wk K st) (g:Gam S E st ρ a w):kO S E K a w:=by
 obtain ⟨st',hle,hk⟩:=h
 obtain ⟨ρ',g'⟩:=PN hle g
 exact ⟨st',ρ',g',hk⟩
inductive AExit where
 | normal
 | exit (id:Nat)
 | ret
def gV (n:St→Prop) (Q:AExit→St→Prop):AExit→St→Prop
 | .normal,st=>n st
 | e,st=>Q e st
def kK (id:Nat) (Q:AExit→St→Prop):AExit→St→Prop
 | .exit id',st=>if id'=id then Q .normal st else Q (.exit id') st
 | e,st=>Q e st
def cw (S:Env):Code→(AExit→St→Prop)→St→Prop
 | .skip,Q,st=>Q .normal st
 | .region _ ops draw,Q,st=>if draw=true then iL S ops ops.size (Array.replicate ops.size false) st (Q .normal) else aZ S ops ops.toList st (Q .normal)
 | .seq x y,Q,st=>cw S x (gV (fun st=>Wk (cw S y Q) st∨cw S y Q st) Q) st
 | .cond c x y,Q,st=>match st.ev S c with
  | .b (.c (.p (.val (.bool t))))=>(t=true→cw S x Q st)∧(t=false→cw S y Q st)
  | _=>False
 | .block id c,Q,st=>cw S c (kK id Q) st
 | .loop c,Q,st=>∃ (I:Nat→St→Prop) (n:Nat),Wk (I n) st∧∀ n st,I n st→cw S c (gV (fun st'=>Wk (fun st2=>∃ n',n'<n∧I n' st2) st') Q) st
 | .exit id,Q,st=>Q (.exit id) st
 | .label _,Q,st=>Q .normal st
 | .ret,Q,st=>Q .ret st
 | _,_,_=>False
def cO (N:Nat):Code→Bool
 | .region _ ops _=>ops.toList.all (wx N)
 | .seq x y=>cO N x && cO N y
 | .cond _ x y=>cO N x && cO N y
 | .block _ c=>cO N c
 | .loop c=>cO N c
 | _=>true
def Cf (S:Env) (E:Ent) (Q:AExit→St→Prop):Exit→Act→World→Prop
 | .normal,a,w=>kO S E (Q .normal) a w
 | .exit id,a,w=>kO S E (Q (.exit id)) a w
 | .ret,a,w=>kO S E (Q .ret) a w
 | _,_,_=>False
theorem Gam.drew (g:Gam S E st ρ a w):Gam S E st ρ a { w with drawn:=w.drawn+1 }:=g.grow ⟨rfl,rfl,rfl,Nat.le_refl _,fun _ _=>rfl⟩
theorem dV (hm:S.P.follows .mixedOrders=true):∀ (c:Code) {Q:AExit→St→Prop} {st:St} {ρ:fQ} {a:Act} {w:World},cO E.N c=true→cw S c Q st→Gam S E st ρ a w→c.wp S.P (Cf S E Q) a w
 | .skip,Q,st,ρ,a,w,_,h,g=>wp_skip ⟨st,ρ,g,h⟩
 | .label _,Q,st,ρ,a,w,_,h,g=>wp_label ⟨st,ρ,g,h⟩
 | .exit id,Q,st,ρ,a,w,_,h,g=>wp_exit ⟨st,ρ,g,h⟩
 | .ret,Q,st,ρ,a,w,_,h,g=>wp_ret ⟨st,ρ,g,h⟩
 | .region id ops draw,Q,st,ρ,a,w,hN,h,g=>by
  simp only [cw] at h
  simp only [cO] at hN
  cases draw with
  | true =>
   rw [if_pos rfl] at h
   exact wp_region_any hm (lF hN (fun _ _ h=>h) _ _ h g.drew)
  | false =>
   rw [if_neg (by simp)] at h
   refine wp_region ?_
   have:=oW (Q:=Cf S E Q) hN (fun _ _ h=>h) ops.toList 0 (fun j=>by simp) h g
   rw [List.range_eq_range']
   simpa using this
 | .seq x y,Q,st,ρ,a,w,hN,h,g=>by
  simp only [cO,Bool.and_eq_true] at hN
  refine wp_seq (wp_mono (dV hm x hN.1 h g) fun e a w hq => ?_)
  cases e with
  | normal =>
   obtain ⟨st',ρ',g',hk⟩:=hq
   rcases hk with hk|hk
   ·obtain ⟨st2,ρ2,g2,hk2⟩:=Wk.nxt hk g'
    exact dV hm y hN.2 hk2 g2
   ·exact dV hm y hN.2 hk g'
  | _=>exact hq
 | .cond c x y,Q,st,ρ,a,w,hN,h,g=>by
  simp only [cO,Bool.and_eq_true] at hN
  simp only [cw] at h
  split at h
  ·rename_i t ht
   have hd:=(g.ev c).1
   rw [ht] at hd
   have hc:a.eval c = .bool t:=hd
   cases t with
   | true=>exact wp_cond_true hc (dV hm x hN.1 (h.1 rfl) g)
   | false=>exact wp_cond_false hc (dV hm y hN.2 (h.2 rfl) g)
  ·exact h.elim
 | .block id c,Q,st,ρ,a,w,hN,h,g=>by
  refine wp_block (wp_mono (dV hm c hN h g) fun e a w hq => ?_)
  cases e with
  | exit id' =>
   obtain ⟨st',ρ',g',hk⟩:=hq
   simp only [kK] at hk
   simp only [Exit.inBlock]
   split
   ·rename_i he;rw [if_pos he] at hk;exact ⟨st',ρ',g',hk⟩
   ·rename_i he;rw [if_neg he] at hk;exact ⟨st',ρ',g',hk⟩
  | _=>exact hq
 | .loop c,Q,st,ρ,a,w,hN,h,g=>by
  obtain ⟨I,n0,h0,hr⟩:=h
  have key:∀ k n st ρ a w,n<k→I n st→Gam S E st ρ a w→Code.rounds S.P c (Cf S E Q) k a w:=by
   intro k
   induction k with
   | zero=>intro n st ρ a w hlt;omega
   | succ k ih =>
    intro n st ρ a w hlt hI g
    rw [rounds_succ]
    refine wp_mono (dV hm c hN (hr n st hI) g) fun e a w hq => ?_
    cases e with
    | normal =>
     obtain ⟨st',ρ',g',hk⟩:=hq
     obtain ⟨st2,ρ2,g2,n',hlt',hk1⟩:=Wk.nxt hk g'
     exact ih n' st2 ρ2 a w (by omega) hk1 g2
    | _=>exact hq
  obtain ⟨st2,ρ2,g2,h2⟩:=Wk.nxt h0 g
  exact wp_loop_rounds (n0+1) (key _ n0 st2 ρ2 a w (Nat.lt_succ_self _) h2 g2)
 | .rangeFunc ..,Q,st,ρ,a,w,_,h,g=>h.elim
 | .scope _,Q,st,ρ,a,w,_,h,g=>h.elim
 | .goto _,Q,st,ρ,a,w,_,h,g=>h.elim
 | .refuse _,Q,st,ρ,a,w,_,h,g=>h.elim
end
end Go.SL
namespace Go.SL
open Go
section
variable {S:Env}
def kF:List (Nat × SV)→Nat→SV
 | [],_ => .any
 | (k,v) :: r,s=>if s=k then v else kF r s
def iS:List (Nat × Bx)→Nat→Option Bx
 | [],_=>none
 | (k,x) :: r,i=>if i=k then some x else iS r i
def iQ:List BV→Nat→Nat→SV
 | [],_,_ => .any
 | x :: r,k,s=>if s=k then .b x else iQ r (k+1) s
def uj (args:List BV):St := { fr:=iQ args 0,bx:=fun _=>none,nx:=0 }
def VO (cs:List PV) (args:List BV):St :=
 { fr:=fun s=>if s=0 then .b (.c (.ptr 0 0)) else iQ args 1 s,bx:=fun i=>if i=0 then some (.fix (cs.map CV.p)) else none,nx:=1 }
def Pb (S:Env) (st:St):ResultVar→Option (Prop × BV)
 | .tmp t=>match st.fr t with
  | .b x=>some (True,Ej st.bx x)
  | _=>none
 | .cell p t=>match dj S t st.bx (st.fr p) with
  | some (vc, .b x)=>some (vc,Ej st.bx x)
  | _=>none
def re (S:Env) (st:St):List ResultVar→Option (Prop × List BV)
 | []=>some (True,[])
 | r :: l=>match Pb S st r,re S st l with
  | some (p,x),some (q,xs)=>some (p∧q,x :: xs)
  | _,_=>none
def yL (S:Env) (rs:List ResultVar) (R:SV→Prop) (st:St):Prop :=
 match re S st rs with
 | some (p,[x])=>p∧x.lt 0∧R (.b x)
 | some (p,xs)=>p∧(∀ x ∈ xs,BV.lt 0 x)∧R (.tup xs)
 | none=>False
def OK (S:Env) (rs:List ResultVar) (R:SV→Prop):AExit→St→Prop
 | .ret,st=>yL S rs R st
 | .normal,st=>yL S rs R st
 | _,_=>False
def Is (S:Env) (rs:List ResultVar) (R:SV→List PV→Prop) (st:St):Prop :=
 ∃ ps:List PV,st.bx 0=some (.fix (ps.map CV.p))∧yL S rs (fun r=>R r ps) st
def Vl (S:Env) (rs:List ResultVar) (R:SV→List PV→Prop):AExit→St→Prop
 | .ret,st=>Is S rs R st
 | .normal,st=>Is S rs R st
 | _,_=>False
variable {E:Ent} {st:St} {ρ:fQ} {a:Act} {w:World}
theorem nO {x : CV} {u : Value} {ok : Nat → Prop} (g : Gam S E st ρ a w) (hok : ∀ b, bL E st.bx ρ w b → ok b) (hnew : ∀ b, b < w.heap.size → E.w0.heap.size ≤ b → ok b)
  (h:ca ρ (bL E st.bx ρ w) w x u):ca ρ ok w (eR st.bx x) u:=by
 have hk:fG (bL E st.bx ρ w) ok w w:=fun b hb=>⟨hok b hb,fun _=>rfl⟩
 have gen:ca ρ ok w x u:=by
  cases x with
  | p x=>exact bt.mono hk h
  | ptr id off=>exact h
  | pel id sz i off=>exact h
  | own id n=>exact h
  | ipt sz g off=>exact ca.mono (nx:=0) hk (fun _ _=>rfl) trivial h
  | clo f ps=>exact h
  | sub id sz lo n=>exact h
 unfold eR
 split
 ·rename_i id n
  split
  ·rename_i e sz n' f hb
   split
   ·rename_i hn
    obtain ⟨A,m,c,hr,h1,h2,h3,hu⟩:=h
    obtain ⟨h0,xs,hown,hone,hd⟩:=g.bxs id _ hb
    refine ⟨A,c,hu,by omega,fun hpos => ?_⟩
    rcases hown.2 with ⟨e1,e2⟩|⟨gb,cap,cur,hv,_,hh,hnc,_,hcs,htk⟩
    ·omega
    ·rw [hr] at hv
     simp only [Value.slice.injEq] at hv
     obtain ⟨rfl,rfl,rfl⟩:=hv
     have hgb:mZ (ρ id)=some gb:=by rw [hr];rfl
     have hge:E.w0.heap.size≤gb:=by
      rcases (g.new id _ gb hb hgb).2 with h|⟨_,_,_,h,_⟩
      ·exact h
      ·cases h
     refine ⟨gb,0,rfl,hnew gb (bN hh) hge,fun i hi j hj => ?_⟩
     have hlt:i * sz+j<m * sz:=dq (by omega) hj
     have hlt2:i * sz+j<cur.size:=by rw [hcs];exact Nat.lt_of_lt_of_le hlt (Nat.mul_le_mul_right _ hnc)
     have hlx:i * sz+j<xs.length:=by rw [hown.1];exact hlt
     have hxe:xs.getD (i * sz+j) undef=cur.getD (i * sz+j) undef:=by
      rw [← htk];simp [List.getElem?_take,hlt]
     refine ⟨cur.getD (i * sz+j) undef,by rw [Nat.zero_add];exact bG hh hlt2, ?_, ?_⟩
     ·rw [← hxe,List.getD_eq_getElem?_getD,List.getElem?_eq_getElem hlx]
      exact hone _ (List.getElem_mem hlx)
     ·rw [← hxe]
      exact bt.mono hk (hd i (by omega) j hj)
   ·exact gen
  ·exact gen
 ·exact gen
theorem xK {x : BV} {u : Value} {ok : Nat → Prop} (g : Gam S E st ρ a w) (hok : ∀ b, bL E st.bx ρ w b → ok b) (hnew : ∀ b, b < w.heap.size → E.w0.heap.size ≤ b → ok b)
  (h:bR ρ (bL E st.bx ρ w) w x u):bR ρ ok w (Ej st.bx x) u:=by
 cases x with
 | c x=>exact nO g hok hnew h
 | agg cs =>
  obtain ⟨us,rfl,hs,h1,hd⟩:=h
  refine ⟨us,rfl,by simp [hs],h1,fun j => ?_⟩
  by_cases hj:j<cs.length
  ·have e:(cs.map (eR st.bx)).getD j .any=eR st.bx (cs.getD j .any):=by simp [List.getD_eq_getElem?_getD,hj]
   rw [e]
   exact nO g hok hnew (hd j)
  ·rw [List.getD_eq_getElem?_getD,List.getElem?_eq_none (by simp;omega)];trivial
def pQ (tmps:Array Value):ResultVar→Sem Value
 | .tmp t=>pure (tmps.getD t undef)
 | .cell a t=>do loadVar t (← asAddr (tmps.getD a undef))
def qN (P:Program) (tmps:Array Value) (w:World) (r:ResultVar) (v:Value):Prop:=(pQ tmps r).run P w = .ok v w
theorem Kx {r : ResultVar} {p : Prop} {x : BV} {ok : Nat → Prop} (h : Pb S st r = some (p, x)) (hp : p) (g : Gam S E st ρ a w) (hok : ∀ b, bL E st.bx ρ w b → ok b)
  (hnew:∀ b,b<w.heap.size→E.w0.heap.size≤b→ok b):∃ v,qN S.P a.tmps w r v∧bR ρ ok w x v:=by
 unfold Pb at h
 split at h
 ·rename_i t
  have hs:=g.slt t
  split at h
  ·rename_i y hy
   rw [hy] at hs
   simp only [Option.some.injEq,Prod.mk.injEq] at h
   obtain ⟨_,rfl⟩:=h
   exact ⟨_,rfl,xK g hok hnew hs⟩
  ·simp at h
 ·rename_i q t
  split at h
  ·rename_i vc y hl
   simp only [Option.some.injEq,Prod.mk.injEq] at h
   obtain ⟨rfl,rfl⟩:=h
   obtain ⟨v,hr,hv,_⟩:=tZ hl hp g (g.slt q)
   refine ⟨v, ?_,xK g hok hnew hv⟩
   unfold qN pQ
   simp only [Instr.loadAt,Sem.run_bind] at hr ⊢
   cases hq:a.tmps.getD q undef <;> simp only [hq,Instr.sureAddr,run_stuck,Result.andThen_halt,reduceCtorEq] at hr
   rename_i ad
   cases ad with
   | none=>simp [Instr.sureAddr] at hr
   | some ad=>simpa [asAddr,Instr.sureAddr] using hr
  ·simp at h
theorem oT {ok : Nat → Prop} (g : Gam S E st ρ a w) (hok : ∀ b, bL E st.bx ρ w b → ok b) (hnew : ∀ b, b < w.heap.size → E.w0.heap.size ≤ b → ok b) : ∀ {rs : List ResultVar} {p : Prop} {xs : List BV},
  re S st rs=some (p,xs)→p→∃ vs:List Value,(rs.mapM (pQ a.tmps)).run S.P w = .ok vs w∧vs.length=xs.length∧∀ j,bR ρ ok w (xs.getD j .any) (vs.getD j undef)
 | [],p,xs,h,_=>by
  simp only [re,Option.some.injEq,Prod.mk.injEq] at h
  obtain ⟨_,rfl⟩:=h
  exact ⟨[],by simp,rfl,fun j=>by simp [bR,ca,bt]⟩
 | r :: rs,p,xs,h,hp=>by
  simp only [re] at h
  split at h
  ·rename_i p1 x1 p2 xs2 h1 h2
   simp only [Option.some.injEq,Prod.mk.injEq] at h
   obtain ⟨rfl,rfl⟩:=h
   obtain ⟨v,hv,hd⟩:=Kx h1 hp.1 g hok hnew
   obtain ⟨vs,hvs,hl,hds⟩:=oT g hok hnew h2 hp.2
   refine ⟨v :: vs, ?_,by simp [hl],fun j => ?_⟩
   ·unfold qN at hv
    rw [List.mapM_cons]
    simp only [Sem.run_bind,hv,Result.andThen_ok,hvs,Sem.run_pure]
   ·cases j with
    | zero=>exact hd
    | succ j=>exact hds j
  ·simp at h
theorem jW {fn : Func} {vs : List Value} (h : (fn.results.toList.mapM (pQ a.tmps)).run S.P w = .ok vs w) :
  (results fn a.tmps).run S.P w = .ok (match vs with|[v]=>v|_ => .tuple vs.toArray) w:=by
 have e : results fn a.tmps = (do
   let vs ← fn.results.mapM (pQ a.tmps)
   pure (if h:vs.size=1 then vs[0] else .tuple vs)):=by
  unfold results
  congr 2
 rw [e,Sem.run_bind,Array.mapM_eq_mapM_toList]
 simp only [Sem.run_map,h,Result.andThen_ok,Sem.run_pure]
 match vs with
 | []=>rfl
 | [v]=>rfl
 | _ :: _ :: _=>rfl
theorem Nh {rs : List ResultVar} {R : SV → Prop} {fn : Func} {ok : Nat → Prop} (hrs : fn.results.toList = rs) (h : yL S rs R st) (g : Gam S E st ρ a w) (hok : ∀ b, bL E st.bx ρ w b → ok b)
  (hnew:∀ b,b<w.heap.size→E.w0.heap.size≤b→ok b):∃ v r,(results fn a.tmps).run S.P w = .ok v w∧R r∧SV.lt 0 r∧bu bM ok w r v:=by
 unfold yL at h
 have dn:∀ {x:BV} {u:Value},x.lt 0→bR ρ ok w x u→bR bM ok w x u:=fun hl hd=>eT hl hd
 split at h
 ·rename_i p x hr
  obtain ⟨hp,hl,hR⟩:=h
  obtain ⟨vs,hvs,hlen,hd⟩:=oT g hok hnew hr hp
  match vs,hlen with
  | [v],_=>exact ⟨v, .b x,jW (by rw [hrs];exact hvs),hR,hl,dn hl (hd 0)⟩
 ·rename_i p xs hne hr
  obtain ⟨hp,hl,hR⟩:=h
  obtain ⟨vs,hvs,hlen,hd⟩:=oT g hok hnew hr hp
  refine ⟨.tuple vs.toArray, .tup xs, ?_,hR,hl,vs.toArray,rfl,by simpa using hlen,fun j => ?_⟩
  ·rw [jW (by rw [hrs];exact hvs)]
   match vs,hlen with
   | [],_=>rfl
   | [v],hlen =>
    match xs,hlen with
    | [x],_=>exact absurd rfl (hne x)
   | _ :: _ :: _,_=>rfl
  ·by_cases hj:j<xs.length
   ·have e:vs.toArray.getD j undef=vs.getD j undef:=by simp [List.getD_eq_getElem?_getD]
    rw [e]
    refine dn (hl _ ?_) (hd j)
    rw [List.getD_eq_getElem?_getD,List.getElem?_eq_getElem hj];exact List.getElem_mem hj
   ·rw [List.getD_eq_getElem?_getD,List.getElem?_eq_none (by omega)];trivial
 ·exact h.elim
theorem bY:∀ (args:List BV) (k s:Nat),iQ args k s=if k≤s∧s<k+args.length then .b (args.getD (s - k) .any) else .any
 | [],k,s=>by
  rw [if_neg (by simp only [List.length_nil];omega)]
  rfl
 | x :: r,k,s=>by
  simp only [iQ,List.length_cons]
  by_cases h:s=k
  ·subst h;simp
  ·rw [if_neg h,bY r (k+1) s]
   by_cases h2:k+1≤s∧s<k+1+r.length
   ·rw [if_pos h2,if_pos (by omega),show s - k=(s - (k+1))+1 by omega];rfl
   ·rw [if_neg h2,if_neg (by omega)]
theorem Nw {f : FuncId} {fn : Func} {c : Code} {rs : List ResultVar} {args : List BV} {R : SV → Prop} (hf : S.P.funcs[f]? = some fn) (hb : fn.body = some c) (hrs : fn.results.toList = rs) (hname : (fn.name == "runtime.NumGoroutine") = false)
  (hm:S.P.follows .mixedOrders=true) (hN:cO fn.ntmps c=true) (hlen:args.length≤fn.ntmps) (hl:∀ x ∈ args,BV.lt 0 x) (h:cw S c (OK S rs R) (uj args)):aF S f args R:=by
 subst hrs
 refine ⟨⟨fn,hf,hname,by rw [hb];rfl⟩,fun ok w vs hok hgl hsz hden => ?_⟩
 refine calls_of_wp hf hb ?_
 let E:Ent := { w0:=w,ok0:=ok,rx:=none,N:=fn.ntmps }
 have hokA:∀ b,ok b→bL E (fun _=>none) bM w b:=fun b hb=>⟨hok b hb,fun _=>hb,fun _ h=>absurd rfl h⟩
 have hk:fG ok (bL E (fun _=>none) bM w) w w:=fun b hb=>⟨hokA b hb,fun _=>rfl⟩
 have g:Gam S E (uj args) bM { tmps:=vs ++ Array.replicate (fn.ntmps - vs.size) undef,defers:=[] } w:=by
  refine ⟨rfl,by simp [E];omega,⟨rfl,rfl,rfl,Nat.le_refl _,fun _ _ _=>rfl,fun _ _ _ h=>(by cases h)⟩,fun s => ?_,fun _ _ h=>(by cases h),fun _ _ h=>(by cases h),fun _ _ _ h=>(by cases h),fun _ _ _ h=>absurd rfl h,
   fun _ _ _ h=>(by cases h),fun s => ?_,fun gg n f hg => ?_,fun s=>⟨trivial,trivial⟩⟩
  ·simp only [uj,bY]
   split
   ·rename_i hs
    refine hl _ ?_
    rw [List.getD_eq_getElem?_getD,List.getElem?_eq_getElem (by omega)];exact List.getElem_mem _
   ·trivial
  ·simp only [uj,bY]
   split
   ·rename_i hs
    have e:(vs ++ Array.replicate (fn.ntmps - vs.size) undef).getD s undef=vs.getD s undef:=by
     have:s<vs.size:=by omega
     simp [this]
     rw [Array.getElem?_append_left this]
     simp [this]
    rw [e]
    exact bR.mono (nx:=0) hk (fun _ _=>rfl) (hl _ (by rw [List.getD_eq_getElem?_getD,List.getElem?_eq_getElem (by omega)];exact List.getElem_mem _)) (hden (s - 0))
   ·trivial
  ·obtain ⟨h1,h2⟩:=hgl gg n f hg
   refine ⟨hokA gg h1,fun j hj => ?_⟩
   obtain ⟨x,hx,h3,hd⟩:=h2 j hj
   exact ⟨x,hx,h3,bt.mono hk hd⟩
 have fin : ∀ {a' : Act} {w' : World}, kO S E (yL S fn.results.toList R) a' w' → a'.defers = [] ∧ ∃ v, (results fn a'.tmps).run S.P w' = .ok v w' ∧
   ∃ v2 r,Ending.returned v = .returned v2∧R r∧SV.lt 0 r∧RowKit.Below w.heap.size w w'∧bu bM (Ib ok w w') w' r v2:=fun {a' w'} ⟨st',ρ',g',hq⟩=>by
  obtain ⟨v,r,h1,h2,h3,h4⟩:=Nh (ok:=Ib ok w w') rfl hq g' (fun b hb=>⟨hb.1,hb.2.1⟩) (fun b h1 h2=>⟨h1,fun h3=>by have:w.heap.size≤b:=h2;omega⟩)
  exact ⟨g'.dfr,v,h1,v,r,rfl,h2,h3,⟨g'.frm.os,g'.frm.tape,g'.frm.output,g'.frm.size,fun k hk=>g'.frm.block k hk (fun _ _ h=>by cases h)⟩,h4⟩
 refine wp_mono (dV hm c hN h g) fun e a' w' hq => ?_
 cases e with
 | normal=>exact fin hq
 | ret=>exact fin hq
 | exit id=>obtain ⟨_,_,_,h⟩:=hq;exact h.elim
 | _=>exact hq.elim
end
end Go.SL
namespace Go.SL
open Go
section
variable {S:Env}
theorem CallP.mono {st:St} {f:FuncId} {args:List BV} {K K':SV→St→Prop} (hK:∀ r s,K r s→K' r s) (h:CallP S st f args K):CallP S st f args K':=by
 cases h with
 | pure args' X h ha hl hk=>exact .pure args' X h ha hl (hK _ _ hk)
 | lend args' X h ha hl hf hk hp=>exact .lend args' X h ha hl hf (hK _ _ hk) hp
 | recv id off cs0 cs rest args' X Y h he hb hoff hcs ha hl hr hy hk=>exact .recv id off cs0 cs rest args' X Y h he hb hoff hcs ha hl hr hy (hK _ _ hk)
 | recvEl id sz i e n g cs rest args' X Y h he hb hi hsz hcs ha hl hr hy hk=>exact .recvEl id sz i e n g cs rest args' X Y h he hb hi hsz hcs ha hl hr hy (hK _ _ hk)
 | inl X bx' nx' h hr hw hk hn=>exact .inl X bx' nx' h hr hw (hK _ _ hk) hn
 | own args' e sz n g h ha hl hr hk=>exact .own args' e sz n g h ha hl hr (hK _ _ hk)
 | ext args' X h ha hl hk=>exact .ext args' X h ha hl (hK _ _ hk)
theorem uw {st:St} {ev:Operand→SV} {op:Op} {K K':SV→St→Prop} (hK:∀ r s,K r s→K' r s) (h:dk S st ev op K):dk S st ev op K':=by
 cases op with
 | build t parts =>
  simp only [dk] at *
  split at h
  ·split at h
   ·exact ⟨h.1,hK _ _ h.2⟩
   ·exact h.elim
  ·exact h.elim
 | alloc t =>
  simp only [dk] at *
  split at h
  ·exact hK _ _ h
  ·exact h.elim
 | box t x =>
  simp only [dk] at *
  split at h
  ·exact ⟨h.1,hK _ _ h.2⟩
  ·exact h.elim
 | buildSlice t len parts =>
  simp only [dk] at *
  split at h
  ·split at h
   ·split at h
    ·exact ⟨h.1,hK _ _ h.2⟩
    ·exact h.elim
   ·exact h.elim
  ·exact h.elim
 | store t p x =>
  simp only [dk] at *
  split at h
  ·split at h
   ·exact ⟨h.1,hK _ _ h.2⟩
   ·exact h.elim
  ·split at h
   ·exact ⟨h.1,hK _ _ h.2⟩
   ·exact h.elim
  ·exact h.elim
 | makeSlice t l c =>
  simp only [dk] at *
  split at h
  ·split at h
   ·exact ⟨h.1,hK _ _ h.2⟩
   ·exact h.elim
  ·exact h.elim
 | call c =>
  simp only [dk] at *
  split at h
  ·split at h
   ·split at h
    ·exact ⟨h.1,hK _ _ h.2⟩
    ·split at h
     ·exact ⟨h.1,hK _ _ h.2⟩
     ·exact h.elim
    ·exact h.elim
   ·exact h.elim
  ·split at h
   ·split at h
    ·exact ⟨h.1,hK _ _ h.2⟩
    ·exact h.elim
   ·exact h.elim
  ·exact h.mono hK
  ·split at h
   ·exact CallP.mono hK h
   ·exact h.elim
  ·exact h.elim
 | _=>exact h
theorem zQ {st:St} {o:Oper} {K K':St→Prop} (hK:∀ s,K s→K' s) (h:jo S st o K):jo S st o K':=by
 unfold jo at *
 split at h
 ·exact ⟨h.1,hK _ h.2⟩
 ·exact ⟨h.1,uw (fun _ _ hk=>hK _ hk) h.2⟩
theorem uW {ops:Array Oper} {st:St} {o:Oper} {K K':St→Prop} (hK:∀ s,K s→K' s) (h:eP S ops st o K):eP S ops st o K':=by
 unfold eP at *
 split at h
 ·exact zQ hK h
 ·split at h
  ·split at h
   ·exact ⟨h.1,h.2.1,hK _ h.2.2⟩
   ·exact ⟨h.1,h.2.1,hK _ h.2.2⟩
   ·rcases h with h|⟨x,h1,h2,h3⟩
    ·exact .inl ⟨fun ht=>zQ hK (h.1 ht),fun ht=>hK _ (h.2 ht)⟩
    ·exact .inr ⟨x,h1,h2,hK _ h3⟩
  ·exact h.elim
theorem xP {ops:Array Oper} {K K':St→Prop} (hK:∀ s,K s→K' s):∀ {l:List Oper} {st:St},aZ S ops l st K→aZ S ops l st K'
 | [],_,h=>hK _ h
 | _ :: _,_,h=>uW (fun _ hk=>xP hK hk) h
theorem rj {ops:Array Oper} {K K':St→Prop} (hK:∀ s,K s→K' s):∀ {n:Nat} {listed:Array Bool} {st:St},iL S ops n listed st K→iL S ops n listed st K'
 | 0,_,_,h=>⟨h.1,hK _ h.2⟩
 | n+1,listed,st,h=>by
  refine ⟨fun hr=>hK _ (h.1 hr),fun i hi => ?_⟩
  have:=h.2 i hi
  split at this
  ·exact uW (fun _ hk=>rj hK hk) this
  ·exact rj hK this
theorem Wk.mono {K K':St→Prop} {st:St} (hK:∀ s,K s→K' s) (h:Wk K st):Wk K' st:=let ⟨s,hl,hk⟩:=h; ⟨s,hl,hK _ hk⟩
theorem jT {n n':St→Prop} {Q Q':AExit→St→Prop} (hn:∀ s,n s→n' s) (hq:∀ e s,Q e s→Q' e s):∀ e s,gV n Q e s→gV n' Q' e s
 | .normal,s,h=>hn s h
 | .exit _,s,h=>hq _ s h
 | .ret,s,h=>hq _ s h
theorem dv:∀ (c:Code) {Q Q':AExit→St→Prop} {st:St},(∀ e s,Q e s→Q' e s)→cw S c Q st→cw S c Q' st
 | .skip,_,_,_,hq,h=>hq _ _ h
 | .label _,_,_,_,hq,h=>hq _ _ h
 | .exit _,_,_,_,hq,h=>hq _ _ h
 | .ret,_,_,_,hq,h=>hq _ _ h
 | .region _ ops draw,_,_,_,hq,h=>by
  simp only [cw] at *
  split
  ·rename_i hd;rw [if_pos hd] at h;exact rj (fun s=>hq _ s) h
  ·rename_i hd;rw [if_neg hd] at h;exact xP (fun s=>hq _ s) h
 | .seq x y,_,_,_,hq,h=>dv x (jT (fun _ hs=>hs.imp (Wk.mono fun _=>dv y hq) (dv y hq)) hq) h
 | .cond c x y,_,_,_,hq,h=>by
  simp only [cw] at *
  split at h
  ·exact ⟨fun ht=>dv x hq (h.1 ht),fun ht=>dv y hq (h.2 ht)⟩
  ·exact h.elim
 | .block id c, _, _, _, hq, h => dv c (fun e s hs => by
   cases e with
   | exit id' =>
    simp only [kK] at *
    split
    ·rename_i he;rw [if_pos he] at hs;exact hq _ _ hs
    ·rename_i he;rw [if_neg he] at hs;exact hq _ _ hs
   | _=>exact hq _ _ hs) h
 | .loop c,_,_,_,hq,h=>by
  obtain ⟨I,n,h0,hr⟩:=h
  exact ⟨I,n,h0,fun n s hI=>dv c (jT (fun _ hs=>hs) hq) (hr n s hI)⟩
 | .rangeFunc ..,_,_,_,_,h=>h
 | .scope _,_,_,_,_,h=>h
 | .goto _,_,_,_,_,h=>h
 | .refuse _,_,_,_,_,h=>h
variable {st:St} {Q:AExit→St→Prop}
theorem uR {x y:Code} (h:cw S x (gV (cw S y Q) Q) st):cw S (.seq x y) Q st:=dv x (jT (fun _ hs => .inr hs) (fun _ _ h=>h)) h
theorem Sn {x y:Code} (M:St→Prop) (h:cw S x (gV (Wk M) Q) st) (h2:∀ s,M s→cw S y Q s):cw S (.seq x y) Q st :=
 dv x (jT (fun _ hs => .inl (hs.mono h2)) (fun _ _ h=>h)) h
theorem ET (h:Q .normal st):cw S .skip Q st:=h
theorem ml (h:Q .ret st):cw S .ret Q st:=h
theorem NK {id:Nat} (h:Q (.exit id) st):cw S (.exit id) Q st:=h
theorem AH {id:Nat} {c:Code} (h:cw S c (kK id Q) st):cw S (.block id c) Q st:=h
theorem qM {id:Nat} {l:List Oper} (h:aZ S l.toArray l st (Q .normal)):cw S (.region id l.toArray false) Q st:=by
 simp only [cw];exact h
theorem lK {c:Operand} {x y:Code} {t:Bool} (hc:st.ev S c = .t t) (h1:t=true→cw S x Q st) (h2:t=false→cw S y Q st):cw S (.cond c x y) Q st:=by
 simp only [cw,hc];exact ⟨h1,h2⟩
theorem aM {X : Type} {c : Code} (F : X → St) (I : X → Prop) (m : X → Nat) (x0 : X) (h0 : I x0) (hle : Le st (F x0))
  (hr:∀ x,I x→cw S c (gV (Wk fun s=>∃ x',s=F x'∧I x'∧m x'<m x) Q) (F x)):cw S (.loop c) Q st:=by
 refine ⟨fun n s=>∃ x,s=F x∧I x∧m x=n,m x0,⟨F x0,hle,x0,rfl,h0,rfl⟩,fun n s hs => ?_⟩
 obtain ⟨x,rfl,hI,rfl⟩:=hs
 exact dv c (jT (fun _ hs=>hs.mono fun _ ⟨x',h1,h2,h3⟩=>⟨m x',h3,x',h1,h2,rfl⟩) (fun _ _ h=>h)) (hr x hI)
end
end Go.SL
