/- Part of the proof: SlK, SlL, SlM, SlP. -/
import Derived.Test.YtmfblbbemekkoaaGreatDoorM1
set_option linter.unusedSimpArgs false
namespace Go.SL
open Go
section
variable {S:Env} {E:Ent} {st:St} {ρ:fO} {a:Act} {w:World} {Q:Exit→Act→World→Prop}
theorem Al {o : Oper} {s : Sem Value} {v : Value} {w' : World} {next : Act → World → Prop} (he : execOp a.eval o = (do pure (Next.value (← s)) : Sem Next)) (hr : s.run S.P w = .ok v w') (hn : next (a.put o.dst v) w') :
  o.wp S.P a w next Q:=by
 unfold Oper.wp
 rw [he]
 simp only [Sem.run_bind,hr,Result.andThen_ok,Sem.run_pure]
 exact hn
theorem QZ {o : Oper} {s : Sem Unit} {w' : World} {next : Act → World → Prop} (he : execOp a.eval o = (do s; pure Next.skip : Sem Next)) (hr : s.run S.P w = .ok () w') (hn : next (a.put o.dst undef) w') :
  o.wp S.P a w next Q:=by
 unfold Oper.wp
 rw [he]
 simp only [Sem.run_bind,hr,Result.andThen_ok,Sem.run_pure]
 exact hn
theorem tO.nxt' {K : SV → St → Prop} {Kn : St → Prop} {d : Option Nat} {v : Value} {w' : World} (hd : ∀ k, d = some k → k < E.N) (hK : ∀ r st', K r st' → Kn (st'.set d r)) (h : tO S E K a v w') :
  kL S E Kn (a.put d v) w':=by
 obtain ⟨st',ρ',r,g,hr,hl,hk⟩:=h
 exact kL.mk_set g hd hl hr (hK _ _ hk)
theorem Dd {ρ:fO} {ok:Nat→Prop} {u:Value}:bn ρ ok w .any u:=trivial
theorem CK {x:SV} {k:IntKind} {n:Int} {ok:Nat→Prop} {u:Value} (h:x = .b (.c (.p (.val (.int k n))))) (hd:bn ρ ok w x u):u = .int k n:=by subst h;exact hd
theorem Eb {o : Oper} {K : SV → St → Prop} {Kn : St → Prop} (h : dt S st (st.ev S) o.op K) (hc : ∀ x ∈ o.op.operands, (st.ev S x).cond) (hd : ∀ k, o.dst = some k → k < E.N) (g : Gam S E st ρ a w)
  (hK:∀ r st',K r st'→Kn (st'.set o.dst r)):o.wp S.P a w (kL S E Kn) Q:=by
 have D:∀ x,x ∈ o.op.operands→bn ρ (bC E st.bx ρ w) w (st.ev S x).strip (a.eval x):=fun x hx=>jw (g.ev x).1 (hc x hx)
 have L:∀ x,(st.ev S x).strip.lt st.nx:=fun x=>oW (g.ev x).2
 cases hop:o.op with
 | build t parts =>
  rw [hop] at h
  simp only [dt] at h
  split at h
  ·rename_i pl z hb hz
   split at h
   ·rename_i vc cs hf
    obtain ⟨v,hr,hv,hl⟩:=zE hb hz hf h.1 g (fun p hp=>hc p.2 (by rw [hop];simp only [Op.operands,List.mem_toArray,List.mem_map];exact ⟨p,hp,rfl⟩))
    exact Al (by simp only [execOp,hop]) hr (kL.mk_set g hd hl hv (hK _ _ h.2))
   ·exact h.elim
  ·exact h.elim
 | alloc t =>
  rw [hop] at h
  simp only [dt] at h
  split at h
  ·rename_i z hz
   obtain ⟨v,w',hr,hm⟩:=zr hz g h
   exact Al (by simp only [execOp,hop]) hr (hm.nxt' hd hK)
  ·exact h.elim
 | box t x =>
  rw [hop] at h
  simp only [dt] at h
  split at h
  ·rename_i v hx
   have hdx:=D x (by rw [hop];simp [Op.operands])
   have hlx:=L x
   rw [hx] at hdx hlx
   obtain ⟨y,w',hr,hm⟩:=DK (t:=t) h.1 hdx hlx g h.2
   exact Al (by simp only [execOp,hop]) hr (hm.nxt' hd hK)
  ·exact h.elim
 | buildSlice t len parts =>
  rw [hop] at h
  simp only [dt] at h
  split at h
  ·rename_i e s ag he
   split at h
   ·rename_i z hz
    split at h
    ·rename_i vc cs hf
     obtain ⟨⟨h1,h2,h3,h4,h5⟩,hk⟩:=h
     obtain ⟨y,w',hr,hm⟩:=qH he hz hf h1 h2 h3 h4 h5 g (fun p hp=>hc p.2 (by rw [hop];simp only [Op.operands,List.mem_toArray,List.mem_map];exact ⟨p,hp,rfl⟩)) hk
     exact Al (by simp only [execOp,hop]) hr (hm.nxt' hd hK)
    ·exact h.elim
   ·exact h.elim
  ·exact h.elim
 | store t p x =>
  rw [hop] at h
  simp only [dt] at h
  have hdp:=D p (by rw [hop];simp [Op.operands])
  have hdx:=D x (by rw [hop];simp [Op.operands])
  have hlx:=L x
  split at h
  ·rename_i id off v sz ag hp hx ht
   split at h
   ·rename_i cs hb
    obtain ⟨⟨h1,h2,h3⟩,hk⟩:=h
    rw [hp] at hdp
    rw [hx] at hdx hlx
    obtain ⟨w',hr,g',hk'⟩:=ug ht hb h1 h2 h3 hdp hdx hlx g hk
    exact QZ (by simp only [execOp,hop]) hr (kL.mk_set (r := .any) g' hd trivial Dd (hK _ _ hk'))
   ·exact h.elim
  ·rename_i id s i off v sz ag hp hx ht
   split at h
   ·rename_i e s' n f hb
    obtain ⟨⟨rfl,h1,h2,h3,h4,h5⟩,hk⟩:=h
    rw [hp] at hdp
    rw [hx] at hdx hlx
    obtain ⟨w',hr,g',hk'⟩:=tX ht hb h1 h3 h2 h4 hdp hdx g hk
    exact QZ (by simp only [execOp,hop]) hr (kL.mk_set (r := .any) g' hd trivial Dd (hK _ _ hk'))
   ·exact h.elim
  ·exact h.elim
 | makeSlice t l c =>
  rw [hop] at h
  simp only [dt] at h
  split at h
  ·rename_i kl l' kc c' e s ag hl hcc he
   split at h
   ·rename_i z i hz hi
    obtain ⟨⟨h1,h2,h3,h4,h5,h6⟩,hk⟩:=h
    obtain ⟨y,w',hr,hm⟩:=rO (kl:=kl) (kc:=kc) he hz hi h1 h2 h3 h4 h5 h6 g hk
    have e1:=CK hl (D l (by rw [hop];simp [Op.operands]))
    have e2:=CK hcc (D c (by rw [hop];simp [Op.operands]))
    exact Al (by simp only [execOp,hop,e1,e2]) hr (hm.nxt' hd hK)
   ·exact h.elim
  ·exact h.elim
 | call c =>
  obtain ⟨callee,args,ts⟩:=c
  rw [hop] at h
  simp only [dt] at h
  split at h
  ·rename_i x y t t' h2 h3
   have ha:args = #[x,y]:=by rw [← Array.toArray_toList (xs:=args),h2]
   have ht:ts = #[t,t']:=by rw [← Array.toArray_toList (xs:=ts),h3]
   subst ha;subst ht
   have hdx:=D x (by rw [hop];simp [Op.operands,Call.operands])
   have hdy:=D y (by rw [hop];simp [Op.operands,Call.operands])
   split at h
   ·rename_i e s ag vc sz m gg he hsrc
    split at h
    ·rename_i i z hi hz hx
     obtain ⟨⟨h1,rfl,h3,h4,h5,h6,h7⟩,hk⟩:=h
     rw [hx] at hdx
     have ex:a.eval x = .slice none 0 0:=hdx
     obtain ⟨v,w',hr,hm⟩:=rV (ty:=o.type) he hz hi hsrc h1 h3 h4 h5 h6 h7 g hdy hk
     exact Al (s:=Builtin.append_ #[t,t] o.type #[.slice none 0 0,a.eval y]) (by simp [execOp,hop,resolve,invoke,builtin,ex]) hr (hm.nxt' hd hK)
    ·rename_i i z id n hi hz hx
     split at h
     ·rename_i e' s' n' f hb
      obtain ⟨⟨h1,rfl,rfl,rfl,hnn,h3,h4,h5,h6,h7⟩,hk⟩:=h
      rw [hx] at hdx
      obtain ⟨v,w',hr,hm⟩:=rT (ty:=o.type) he hz hi hsrc h1 h3 h4 h5 h6 h7 g hdy hb hnn hdx hk
      exact Al (s:=Builtin.append_ #[t,t] o.type #[a.eval x,a.eval y]) (by simp [execOp,hop,resolve,invoke,builtin]) hr (hm.nxt' hd hK)
     ·exact h.elim
    ·exact h.elim
   ·exact h.elim
  ·rename_i x y t t' h2 h3
   have ha:args = #[x,y]:=by rw [← Array.toArray_toList (xs:=args),h2]
   have ht:ts = #[t,t']:=by rw [← Array.toArray_toList (xs:=ts),h3]
   subst ha;subst ht
   have hdx:=D x (by rw [hop];simp [Op.operands,Call.operands])
   have hdy:=D y (by rw [hop];simp [Op.operands,Call.operands])
   split at h
   ·rename_i e s ag id s1 lo n sz m gg he hx hy
    split at h
    ·rename_i e' s2 n' f hb
     obtain ⟨⟨rfl,rfl,rfl,h1,h2',h3'⟩,hk⟩:=h
     rw [hx] at hdx
     rw [hy] at hdy
     obtain ⟨v,w',hr,hm⟩:=AW (t':=t') (ty:=o.type) he hb h1 h2' h3' hdx hdy g hk
     exact Al (s:=Builtin.copy_ #[t,t'] o.type #[a.eval x,a.eval y]) (by simp [execOp,hop,resolve,invoke,builtin]) hr (hm.nxt' hd hK)
    ·exact h.elim
   ·exact h.elim
  ·rename_i f _ _ _
   exact Bn (ts:=ts) hop hd (fun x hx=>hc x (by rw [hop];simp [Op.operands,Call.operands];exact .inr (by simpa using hx))) g hK h
  ·rename_i t
   split at h
   ·rename_i f xs hx
    have hcal:=hc (.tmp t) (by rw [hop];simp [Op.operands,Call.operands])
    have hdx:=jw (g.ev (.tmp t)).1 hcal
    exact Hv (ts:=ts) hop hx hdx hd (fun x hx=>hc x (by rw [hop];simp [Op.operands,Call.operands];exact .inr (by simpa using hx))) g hK h
   ·exact h.elim
  ·exact h.elim
 | _=>rw [hop] at h;exact h.elim
theorem qm {o:Oper} {K:St→Prop} (h:jE S st o K) (hd:∀ k,o.dst=some k→k<E.N) (g:Gam S E st ρ a w):o.wp S.P a w (kL S E K) Q:=by
 unfold jE at h
 split at h
 ·rename_i vc r hr
  obtain ⟨v,hrun,hv,hl⟩:=uf hr h.1 g
  exact tC hrun (kL.mk_set g hd hl hv h.2)
 ·exact Eb h.2 (fun x hx=>mP h.1 (List.mem_map.2 ⟨x,by simpa using hx,rfl⟩)) hd g (fun _ _ hk=>hk)
theorem xA {d : Option Nat} {want t : Bool} (h : iX st d want = some t) (g : Gam S E st ρ a w) (ops : Array Oper) (j : Nat) (hj : (ops[j]?).bind (·.dst) = d) :
  (yielded ops a.tmps j == some want)=t:=by
 unfold iX at h
 split at h
 ·rename_i k
  have hs:=g.slt k
  have key:∀ b,a.tmps.getD k undef = .bool b→yielded ops a.tmps j=some b:=fun b hb=>by
   unfold yielded
   rw [hj]
   have hlt:k<a.tmps.size:=by
    rcases Nat.lt_or_ge k a.tmps.size with h'|h'
    ·exact h'
    ·rw [aK?,Array.getElem?_eq_none h'] at hb;simp [undef] at hb
   have:a.tmps[k]?=some (.bool b):=by
    rw [Array.getElem?_eq_getElem hlt]
    simp [hlt] at hb
    rw [hb]
   simp [this]
  split at h
  ·rename_i b hf
   rw [hf] at hs
   simp only [Option.some.injEq] at h
   subst h
   rw [key b hs]
   rfl
  ·rename_i p b hf
   rw [hf] at hs
   simp only [Option.some.injEq] at h
   subst h
   cases p with
   | true=>rw [key b (hs.1 rfl)];rfl
   | false =>
    have hu:=hs.2 rfl
    have:yielded ops a.tmps j=none:=by
     unfold yielded
     rw [hj]
     simp only [Option.bind_some]
     cases hk:a.tmps[k]? with
     | none=>rfl
     | some v =>
      have hv:v=undef:=by rw [aK?,hk] at hu;exact hu
      subst hv
      rfl
    rw [this]
    rfl
  ·simp at h
 ·simp at h
theorem IV {d:Option Nat} {x:BV} (g:Gam S E (st.set d (.b x)) ρ a w):Gam S E (st.set d (.grd true x)) ρ a w:=by
 cases d with
 | none=>exact g
 | some k =>
  refine ⟨g.dfr,g.sz,g.frm,fun s => ?_,g.wfb,g.bxs,g.new,g.inj,g.rx0,fun s => ?_,g.glb,g.kept⟩
  ·have:=g.wfs s
   simp only [St.set] at this ⊢
   split
   ·rename_i h;rw [if_pos h] at this;exact this
   ·rename_i h;rw [if_neg h] at this;exact this
  ·have:=g.slt s
   simp only [St.set] at this ⊢
   split
   ·rename_i h;rw [if_pos h] at this;exact ⟨fun _=>this,fun h=>by cases h⟩
   ·rename_i h;rw [if_neg h] at this;exact this
theorem Dz {ops : Array Oper} {o : Oper} {K : St → Prop} (h : fe S ops st o K) (hd : ∀ k, o.dst = some k → k < E.N) (g : Gam S E st ρ a w) :
  if Region.wanted o (yielded ops a.tmps) then o.wp S.P a w (kL S E K) Q else kL S E K (a.put o.dst undef) w:=by
 unfold fe at h
 split at h
 ·rename_i hg
  rw [if_pos (by simp [Region.wanted,hg])]
  exact qm h hd g
 ·rename_i j want hg
  split at h
  ·rename_i t ht
   have hy:=xA ht g ops j rfl
   have hw:Region.wanted o (yielded ops a.tmps)=t:=by simp only [Region.wanted,hg];exact hy
   split at h
   ·rename_i vc r hr
    obtain ⟨hlr,hvc,hk⟩:=h
    cases t with
    | true =>
     rw [if_pos hw]
     obtain ⟨v,hrun,hv,hl⟩:=uf hr (hvc rfl) g
     exact tC hrun (kL.mk_set (r := .grd true r) g hd hlr ⟨fun _=>hv,fun h=>by cases h⟩ hk)
    | false =>
     rw [if_neg (by rw [hw];simp)]
     exact kL.mk_set (r := .grd false r) g hd hlr ⟨fun h=>(by cases h),fun _=>rfl⟩ hk
   ·rename_i vc p r hr
    obtain ⟨hlr,hvc,hk⟩:=h
    cases t with
    | true =>
     rw [if_pos hw]
     obtain ⟨v,hrun,hv,hl⟩:=uf hr (hvc rfl).1 g
     exact tC hrun (kL.mk_set (r := .grd true r) g hd hlr ⟨fun _=>hv.1 (hvc rfl).2,fun h=>by cases h⟩ hk)
    | false =>
     rw [if_neg (by rw [hw];simp)]
     exact kL.mk_set (r := .grd false r) g hd hlr ⟨fun h=>(by cases h),fun _=>rfl⟩ hk
   ·rcases h with h|⟨x,hlx,h1,hk⟩
    ·cases t with
     | true=>rw [if_pos hw];exact qm (h.1 rfl) hd g
     | false =>
      rw [if_neg (by rw [hw];simp)]
      exact kL.mk_set (r := .any) g hd trivial trivial (h.2 rfl)
    ·cases t with
     | true =>
      rw [if_pos hw]
      refine Oper.wp_mono (fun a' w' hn => ?_) (qm (h1 rfl) hd g)
      obtain ⟨st',ρ',g',rfl⟩:=hn
      exact ⟨_,ρ',IV g',hk⟩
     | false =>
      rw [if_neg (by rw [hw];simp)]
      exact kL.mk_set (r := .grd false x) g hd hlx ⟨fun h=>(by cases h),fun _=>rfl⟩ hk
  ·exact h.elim
def wB (N:Nat) (o:Oper):Bool:=match o.dst with
 | some d=>decide (d<N)
 | none=>true
theorem Br {N:Nat} {o:Oper} (h:wB N o=true):∀ k,o.dst=some k→k<N:=by
 intro k hk
 unfold wB at h
 rw [hk] at h
 simpa using h
theorem CY {ops : Array Oper} {i : Nat} {o : Oper} {K : St → Prop} {K' : Act → World → Prop} (hi : ops[i]? = some o) (h : fe S ops st o K) (hd : wB E.N o = true) (g : Gam S E st ρ a w)
  (hK:∀ a w,kL S E K a w→K' a w):wpOp S.P ops Q i K' a w:=by
 unfold wpOp
 simp only [hi]
 have:=Dz (Q:=Q) h (Br hd) g
 split
 ·rename_i hw
  rw [if_pos hw] at this
  exact .inl (Oper.wp_mono hK this)
 ·rename_i hw
  rw [if_neg hw] at this
  exact hK _ _ this
theorem oo {ops : Array Oper} {K : St → Prop} (hN : ops.toList.all (wB E.N) = true) (hQ : ∀ a w, kL S E K a w → Q .normal a w) : ∀ (l : List Oper) (k : Nat), (∀ j, l[j]? = ops[k + j]?) → ∀ {st : St} {ρ : fO} {a : Act} {w : World},
  aY S ops l st K→Gam S E st ρ a w→wpOps S.P ops Q (List.range' k l.length) a w
 | [],k,_,st,ρ,a,w,h,g=>by simp only [List.length_nil,List.range'_zero,wpOps];exact hQ _ _ ⟨st,ρ,g,h⟩
 | o :: l,k,hl,st,ρ,a,w,h,g=>by
  have h0:ops[k]?=some o:=by simpa using (hl 0).symm
  have hmem:o ∈ ops.toList:=by
   have:=Array.mem_of_getElem? h0
   simpa using this
  rw [List.length_cons,List.range'_succ,wpOps_cons]
  exact CY h0 h (List.all_eq_true.1 hN o hmem) g fun a w ⟨st',ρ',g',hk⟩ =>
   oo hN hQ l (k+1) (fun j=>by have:=hl (j+1);simpa [Nat.add_assoc,Nat.add_comm 1 j] using this) hk g'
def iQ (S:Env) (ops:Array Oper):Nat→Array Bool→St→(St→Prop)→Prop
 | 0,listed,st,K=>Region.ready .any ops listed=[]∧K st
 | fuel + 1, listed, st, K => (Region.ready .any ops listed = [] → K st) ∧
   ∀ i ∈ Region.ready .any ops listed,match ops[i]? with
    | some o=>fe S ops st o fun st'=>iQ S ops fuel (listed.setIfInBounds i true) st' K
    | none=>iQ S ops fuel (listed.setIfInBounds i true) st K
theorem lX {ops : Array Oper} {K : St → Prop} (hN : ops.toList.all (wB E.N) = true) (hQ : ∀ a w, kL S E K a w → Q .normal a w) : ∀ (fuel : Nat) (listed : Array Bool) {st : St} {ρ : fO} {a : Act} {w : World},
  iQ S ops fuel listed st K→Gam S E st ρ a w→wpAny S.P .any ops Q fuel listed a w
 | 0,listed,st,ρ,a,w,h,g=>⟨h.1,hQ _ _ ⟨st,ρ,g,h.2⟩⟩
 | fuel+1,listed,st,ρ,a,w,h,g=>by
  refine ⟨fun hr=>hQ _ _ ⟨st,ρ,g,h.1 hr⟩,fun i hi => ?_⟩
  have:=h.2 i hi
  cases ho:ops[i]? with
  | none =>
   rw [ho] at this
   unfold wpOp
   simp only [ho]
   exact lX hN hQ fuel _ this g
  | some o =>
   rw [ho] at this
   have hmem:o ∈ ops.toList:=by
    have:=Array.mem_of_getElem? ho
    simpa using this
   exact CY ho this (List.all_eq_true.1 hN o hmem) g fun a w ⟨st',ρ',g',hk⟩=>lX hN hQ fuel _ hk g'
def yy (r:Nat→Option Nat) (ρ:fO):fO:=fun i=>match r i with
 | some k=>ρ k
 | none => .slice none 0 0
def yO (r:Nat→Option Nat) (bx bx':Nat→Option Bx):CV→CV→Prop
 | _, .p .any=>True
 | .p x, .p y=>x=y∨PV.le x y
 | .p x, .own id' n'=>x = .val (.slice none 0 0)∧n'=0∧r id'=none
 | .ptr id off, .ptr id' off'=>r id'=some id∧off=off'
 | .clo f ps, .clo f' ps'=>f=f'∧ps.map (·.2)=ps'.map (·.2)∧ps'.map (fun p=>r p.1)=ps.map (fun p=>some p.1)
 | .pel id sz i off, .pel id' sz' i' off'=>r id'=some id∧sz=sz'∧i=i'∧off=off'
 | .sub id sz lo n, .sub id' sz' lo' n'=>r id'=some id∧sz=sz'∧lo=lo'∧n=n'
 | .own id n, .own id' n'=>r id'=some id∧n=n'
 | .own id n, .p (.lst sz n' f')=>∃ e m f,bx id=some (.arr e sz m f)∧n=n'∧n≤m∧(∀ i,i<n→∀ j,j<sz→PV.le (f i j) (f' i j))∧∀ id',bx' id'≠none→r id'≠some id
 | .ipt sz g off, .ipt sz' g' off'=>sz=sz'∧off=off'∧(g=g'∨∀ j,j<sz→PV.le (g j) (g' j))
 | _,_=>False
def Ik (r:Nat→Option Nat) (bx bx':Nat→Option Bx):List CV→List CV→Prop
 | [],[]=>True
 | x :: l,y :: l'=>yO r bx bx' x y∧Ik r bx bx' l l'
 | _,_=>False
def Pp (r:Nat→Option Nat) (bx bx':Nat→Option Bx):BV→BV→Prop
 | _, .c (.p .any)=>True
 | .c x, .c y=>yO r bx bx' x y
 | .agg l, .agg l'=>Ik r bx bx' l l'
 | _,_=>False
def Be (r:Nat→Option Nat) (bx bx':Nat→Option Bx):SV→SV→Prop
 | _, .any=>True
 | .b x, .b y=>Pp r bx bx' x y
 | x,y=>x=y∧∃ n,x.lt n∧∀ id,id<n→r id=some id
def PH (r:Nat→Option Nat) (bx bx':Nat→Option Bx):Bx→Bx→Prop
 | .fix l, .fix l'=>Ik r bx bx' l l'
 | .arr e sz n f, .arr e' sz' n' f'=>e=e'∧sz=sz'∧n=n'∧(f=f'∨∀ i,i<n→∀ j,j<sz→PV.le (f i j) (f' i j))
 | _,_=>False
def oz (r:Nat→Option Nat) (bx bx':Nat→Option Bx) (i:Nat) (x:Bx):Prop :=
 match r i with
 | some k=>∃ y,bx k=some y∧PH r bx bx' y x
 | none=>∃ e s f,x = .arr e s 0 f∧0<s
structure Le (st st':St):Prop where
 ex:∃ r:Nat→Option Nat,r 0=some 0∧(0<st.nx→0<st'.nx)∧(∀ i j k,st'.bx i≠none→st'.bx j≠none→r i=some k→r j=some k→i=j) ∧
  (∀ s,Be r st.bx st'.bx (st.fr s) (st'.fr s))∧(∀ i x,st'.bx i=some x→oz r st.bx st'.bx i x)∧(∀ s,Be r st.bx st'.bx (st.kf s) (st'.kf s))
 wfs:∀ s,(st'.fr s).lt st'.nx
 wfb:∀ id b,st'.bx id=some b→id<st'.nx∧b.lt st'.nx
 wfk:∀ s,(st'.kf s).lt st'.nx
theorem dV {r:Nat→Option Nat} {ρ:fO} {i k:Nat} (h:r i=some k):yy r ρ i=ρ k:=by simp [yy,h]
theorem jJ {r:Nat→Option Nat} {ρ:fO} {i:Nat} (h:r i=none):yy r ρ i = .slice none 0 0:=by simp [yy,h]
theorem CU {r : Nat → Option Nat} {st st' : St} (g : Gam S E st ρ a w) (hsub : ∀ i k, st'.bx i ≠ none → r i = some k → st.bx k ≠ none) (hk : fF (bC E st.bx ρ w) (bC E st'.bx (yy r ρ) w) w w) {x y : CV} {u : Value} (h : yO r st.bx st'.bx x y)
  (hx:cd ρ (bC E st.bx ρ w) w x u):cd (yy r ρ) (bC E st'.bx (yy r ρ) w) w y u:=by
 unfold yO at h
 split at h
 ·trivial
 ·rcases h with rfl|h
  ·exact bp.mono hk hx
  ·exact bp.mono hk (h _ _ _ hx)
 ·obtain ⟨rfl,rfl,hr⟩:=h
  have hu:u = .slice none 0 0:=hx
  exact ⟨none,0,0,jJ hr,Nat.le_refl _,Nat.le_refl _,fun h=>absurd h (Nat.lt_irrefl 0),hu⟩
 ·obtain ⟨hr,rfl⟩:=h;simp only [cd,dV hr];exact hx
 ·rename_i f ps f' ps'
  obtain ⟨rfl,h2,h1⟩:=h
  obtain ⟨vs,hu,hs,hc⟩:=hx
  have hl:ps.length=ps'.length:=by have:=congrArg List.length h2;simpa using this
  refine ⟨vs,hu,hs.trans hl,fun j hj => ?_⟩
  obtain ⟨b,o,e1,e2⟩:=hc j (by omega)
  have q1:r (ps'.getD j (0,0)).1=some (ps.getD j (0,0)).1:=by
   have:=congrArg (fun l=>l[j]?) h1
   simpa [List.getD_eq_getElem?_getD,hj,hl ▸ hj] using this
  have q2:(ps'.getD j (0,0)).2=(ps.getD j (0,0)).2:=by
   have:=congrArg (fun l=>l[j]?) h2
   have:=this.symm;simpa [List.getD_eq_getElem?_getD,hj,hl ▸ hj] using this
  exact ⟨b,o,by rw [dV q1];exact e1,by rw [q2];exact e2⟩
 ·obtain ⟨hr,rfl,rfl,rfl⟩:=h;simp only [cd,dV hr];exact hx
 ·obtain ⟨hr,rfl,rfl,rfl⟩:=h;simp only [cd,dV hr];exact hx
 ·obtain ⟨hr,rfl⟩:=h;simp only [cd,dV hr];exact hx
 ·rename_i id n sz n' f'
  obtain ⟨e,m,f,hb,rfl,hnm,hle,hid⟩:=h
  obtain ⟨A,m',c,hr,h1,h2,h3,hu⟩:=hx
  obtain ⟨h0,xs,hown,hone,hd⟩:=g.bxs id _ hb
  refine ⟨A,c,hu,by omega,fun hpos => ?_⟩
  rcases hown.2 with ⟨e1,e2⟩|⟨gb,cap,cur,hv,_,hh,hnc,_,hcs,htk⟩
  ·omega
  ·rw [hr] at hv
   simp only [Value.slice.injEq] at hv
   obtain ⟨rfl,rfl,rfl⟩:=hv
   have hgb:mb (ρ id)=some gb:=by rw [hr];rfl
   refine ⟨gb,0,rfl,⟨bY hh,fun hlt => ?_,fun i hi hbi => ?_⟩,fun i hi j hj => ?_⟩
   ·rcases (g.new id _ gb hb hgb).2 with h|⟨_,_,_,h,_⟩
    ·omega
    ·cases h
   ·cases hri:r i with
    | none=>rw [jJ hri] at hbi;cases hbi
    | some k =>
     rw [dV hri] at hbi
     exact hid i hi (by rw [hri,g.inj k id gb (hsub i k hi hri) (by rw [hb];simp) hbi hgb])
   ·have hlt:i * sz+j<m' * sz:=dR (by omega) hj
    have hlt2:i * sz+j<cur.size:=by rw [hcs];exact Nat.lt_of_lt_of_le hlt (Nat.mul_le_mul_right _ hnc)
    have hlx:i * sz+j<xs.length:=by rw [hown.1];exact hlt
    have hxe:xs.getD (i * sz+j) undef=cur.getD (i * sz+j) undef:=by
     rw [← htk];simp [List.getElem?_take,hlt]
    refine ⟨cur.getD (i * sz+j) undef,by rw [Nat.zero_add];exact bS hh hlt2, ?_, ?_⟩
    ·rw [← hxe,List.getD_eq_getElem?_getD,List.getElem?_eq_getElem hlx]
     exact hone _ (List.getElem_mem hlx)
    ·rw [← hxe]
     exact bp.mono hk (hle i hi j hj _ _ _ (hd i (by omega) j hj))
 ·rename_i sz gg off sz' gg' off'
  obtain ⟨rfl,rfl,hg⟩:=h
  obtain ⟨b,o,hu,hok,hc⟩:=hx
  refine ⟨b,o,hu,(hk b hok).1,fun j hj => ?_⟩
  obtain ⟨x,hx,h1,hd⟩:=hc j hj
  refine ⟨x,hx,h1,bp.mono hk ?_⟩
  rcases hg with rfl|hg
  ·exact hd
  ·exact hg j hj _ _ _ hd
 ·exact h.elim
theorem se {r : Nat → Option Nat} {st st' : St} (g : Gam S E st ρ a w) (hsub : ∀ i k, st'.bx i ≠ none → r i = some k → st.bx k ≠ none) (hk : fF (bC E st.bx ρ w) (bC E st'.bx (yy r ρ) w) w w) :
  ∀ {l l':List CV},Ik r st.bx st'.bx l l'→l.length=l'.length∧∀ {u:Nat→Value},(∀ j,cd ρ (bC E st.bx ρ w) w (l.getD j .any) (u j)) →
   ∀ j,cd (yy r ρ) (bC E st'.bx (yy r ρ) w) w (l'.getD j .any) (u j)
 | [],[],_=>⟨rfl,fun _ j=>by simp [cd,bp]⟩
 | x :: l,y :: l',⟨h1,h2⟩=>by
  obtain ⟨q1,q2⟩:=se g hsub hk h2
  refine ⟨by simp [q1],fun {u} hu j => ?_⟩
  cases j with
  | zero=>exact CU g hsub hk h1 (hu 0)
  | succ j=>exact q2 (u:=fun k=>u (k+1)) (fun k=>hu (k+1)) j
theorem LC {r : Nat → Option Nat} {st st' : St} (g : Gam S E st ρ a w) (hsub : ∀ i k, st'.bx i ≠ none → r i = some k → st.bx k ≠ none) (hk : fF (bC E st.bx ρ w) (bC E st'.bx (yy r ρ) w) w w) {x y : BV} {u : Value}
  (h:Pp r st.bx st'.bx x y) (hx:bT ρ (bC E st.bx ρ w) w x u):bT (yy r ρ) (bC E st'.bx (yy r ρ) w) w y u:=by
 unfold Pp at h
 split at h
 ·trivial
 ·exact CU g hsub hk h hx
 ·obtain ⟨us,hu,hs,h1,hd⟩:=hx
  obtain ⟨q1,q2⟩:=se g hsub hk h
  exact ⟨us,hu,by omega,h1,q2 hd⟩
 ·exact h.elim
theorem CG {r : Nat → Option Nat} {st st' : St} (g : Gam S E st ρ a w) (hsub : ∀ i k, st'.bx i ≠ none → r i = some k → st.bx k ≠ none) (hk : fF (bC E st.bx ρ w) (bC E st'.bx (yy r ρ) w) w w) {x y : SV} {u : Value}
  (h:Be r st.bx st'.bx x y) (hx:bn ρ (bC E st.bx ρ w) w x u):bn (yy r ρ) (bC E st'.bx (yy r ρ) w) w y u:=by
 unfold Be at h
 split at h
 ·trivial
 ·exact LC g hsub hk h hx
 ·obtain ⟨rfl,n,hl,hr⟩:=h
  exact bn.mono hk (fun id hid=>dV (hr id hid)) hl hx
theorem Mo {st':St} (h:Le st st') (g:Gam S E st ρ a w):∃ ρ',Gam S E st' ρ' a w:=by
 obtain ⟨⟨r,hr0,hnx,hinj,hs,hb,hkf⟩,hwfs,hwfb,hwfk⟩:=h
 have hsub:∀ i k,st'.bx i≠none→r i=some k→st.bx k≠none:=fun i k hi hr=>by
  cases hx:st'.bx i with
  | none=>exact absurd hx hi
  | some x =>
   have:=hb i x hx
   simp only [oz,hr] at this
   obtain ⟨y,hy,_⟩:=this;rw [hy];simp
 have hk:fF (bC E st.bx ρ w) (bC E st'.bx (yy r ρ) w) w w:=fun b ⟨h1,h2,h3⟩=>⟨⟨h1,h2,fun i hi=>by
  cases hri:r i with
  | none=>rw [jJ hri];simp [mb]
  | some k=>rw [dV hri];exact h3 k (hsub i k hi hri)⟩,fun _=>rfl⟩
 refine ⟨yy r ρ,g.dfr,g.sz,g.frm,hwfs,hwfb,fun i x hx => ?_,fun i x b hx hbl => ?_,fun i j b h1 h2 h3 h4 => ?_,fun b o l hrx => ?_,
  fun s=>CG g hsub hk (hs s) (g.slt s),fun gg n f hg => ?_,fun s=>⟨hwfk s,CG g hsub hk (hkf s) (g.kept s).2⟩⟩
 ·have hbi:=hb i x hx
  unfold oz at hbi
  cases hri:r i with
  | none =>
   rw [hri] at hbi
   obtain ⟨e,s,f,rfl,hs0⟩:=hbi
   rw [jJ hri]
   exact ⟨hs0,[],⟨by simp, .inl ⟨rfl,rfl⟩⟩,by simp,fun i hi=>absurd hi (Nat.not_lt_zero _)⟩
  | some k =>
   rw [hri] at hbi
   obtain ⟨y,hy,hle⟩:=hbi
   have hd:=g.bxs k y hy
   rw [dV hri]
   cases y with
   | fix l =>
    cases x with
    | fix l' =>
     obtain ⟨b,o,cells,t,hv,hh,hsz,h1,hdd⟩:=hd
     obtain ⟨q1,q2⟩:=se g hsub hk hle
     exact ⟨b,o,cells,t,hv,hh,by omega,fun j hj=>h1 j (by omega),q2 hdd⟩
    | arr=>exact hle.elim
   | arr e sz n f =>
    cases x with
    | fix l'=>exact hle.elim
    | arr e' sz' n' f' =>
     obtain ⟨rfl,rfl,rfl,hf⟩:=hle
     obtain ⟨h0,xs,hown,h1,hdd⟩:=hd
     refine ⟨h0,xs,hown,h1,fun i' hi' j hj=>bp.mono hk ?_⟩
     rcases hf with rfl|hf
     ·exact hdd i' hi' j hj
     ·exact hf i' hi' j hj _ _ _ (hdd i' hi' j hj)
 ·have hbi:=hb i x hx
  unfold oz at hbi
  cases hri:r i with
  | none=>rw [jJ hri] at hbl;cases hbl
  | some k =>
   rw [hri] at hbi
   rw [dV hri] at hbl
   obtain ⟨y,hy,hle⟩:=hbi
   obtain ⟨h1,h2⟩:=g.new k y b hy hbl
   refine ⟨h1, ?_⟩
   rcases h2 with h2|⟨o,cs,e1,e2,e3⟩
   ·exact .inl h2
   ·subst e2
    cases x with
    | fix l' =>
     have:=(se g hsub hk hle).1
     exact .inr ⟨o,l',by rw [dV hri];exact e1,rfl,by rw [← this];exact e3⟩
    | arr=>exact hle.elim
 ·cases hri:r i with
  | none=>rw [jJ hri] at h3;cases h3
  | some k =>
   cases hrj:r j with
   | none=>rw [jJ hrj] at h4;cases h4
   | some k' =>
    rw [dV hri] at h3
    rw [dV hrj] at h4
    have:=g.inj k k' b (hsub i k h1 hri) (hsub j k' h2 hrj) h3 h4
    subst this
    exact hinj i j k h1 h2 hri hrj
 ·obtain ⟨h1,h2⟩:=g.rx0 b o l hrx
  exact ⟨hnx h1,by rw [dV hr0];exact h2⟩
 ·obtain ⟨h1,h2⟩:=g.glb gg n f hg
  refine ⟨(hk gg h1).1,fun j hj => ?_⟩
  obtain ⟨x,hx,h3,hd⟩:=h2 j hj
  exact ⟨x,hx,h3,bp.mono hk hd⟩
def Wk (K:St→Prop) (st:St):Prop:=∃ st',Le st st'∧K st'
theorem Wk.nxt {K:St→Prop} (h:Wk K st) (g:Gam S E st ρ a w):kL S E K a w:=by
 obtain ⟨st',hle,hk⟩:=h
 obtain ⟨ρ',g'⟩:=Mo hle g
 exact ⟨st',ρ',g',hk⟩
inductive AExit where
 | normal
 | exit (id:Nat)
 | ret
def hC (n:St→Prop) (Q:AExit→St→Prop):AExit→St→Prop
 | .normal,st=>n st
 | e,st=>Q e st
def kG (id:Nat) (Q:AExit→St→Prop):AExit→St→Prop
 | .exit id',st=>if id'=id then Q .normal st else Q (.exit id') st
 | e,st=>Q e st
def cw (S:Env):Code→(AExit→St→Prop)→St→Prop
 | .skip,Q,st=>Q .normal st
 | .region _ ops draw,Q,st=>if draw=true then iQ S ops ops.size (Array.replicate ops.size false) st (Q .normal) else aY S ops ops.toList st (Q .normal)
 | .seq x y,Q,st=>cw S x (hC (fun st=>Wk (cw S y Q) st∨cw S y Q st) Q) st
 | .cond c x y,Q,st=>match st.ev S c with
  | .b (.c (.p (.val (.bool t))))=>(t=true→cw S x Q st)∧(t=false→cw S y Q st)
  | _=>False
 | .block id c,Q,st=>cw S c (kG id Q) st
 | .loop c,Q,st=>∃ (I:Nat→St→Prop) (n:Nat),Wk (I n) st∧∀ n st,I n st→cw S c (hC (fun st'=>Wk (fun st2=>∃ n',n'<n∧I n' st2) st') Q) st
 | .exit id,Q,st=>Q (.exit id) st
 | .label _,Q,st=>Q .normal st
 | .ret,Q,st=>Q .ret st
 | _,_,_=>False
def cZ (N:Nat):Code→Bool
 | .region _ ops _=>ops.toList.all (wB N)
 | .seq x y=>cZ N x && cZ N y
 | .cond _ x y=>cZ N x && cZ N y
 | .block _ c=>cZ N c
 | .loop c=>cZ N c
 | _=>true
def Bi (S:Env) (E:Ent) (Q:AExit→St→Prop):Exit→Act→World→Prop
 | .normal,a,w=>kL S E (Q .normal) a w
 | .exit id,a,w=>kL S E (Q (.exit id)) a w
 | .ret,a,w=>kL S E (Q .ret) a w
 | _,_,_=>False
theorem Gam.drew (g:Gam S E st ρ a w):Gam S E st ρ a { w with drawn:=w.drawn+1 }:=g.grow ⟨rfl,rfl,rfl,Nat.le_refl _,fun _ _=>rfl⟩
theorem eA (hm:S.P.follows .mixedOrders=true):∀ (c:Code) {Q:AExit→St→Prop} {st:St} {ρ:fO} {a:Act} {w:World},cZ E.N c=true→cw S c Q st→Gam S E st ρ a w→c.wp S.P (Bi S E Q) a w
 | .skip,Q,st,ρ,a,w,_,h,g=>wp_skip ⟨st,ρ,g,h⟩
 | .label _,Q,st,ρ,a,w,_,h,g=>wp_label ⟨st,ρ,g,h⟩
 | .exit id,Q,st,ρ,a,w,_,h,g=>wp_exit ⟨st,ρ,g,h⟩
 | .ret,Q,st,ρ,a,w,_,h,g=>wp_ret ⟨st,ρ,g,h⟩
 | .region id ops draw,Q,st,ρ,a,w,hN,h,g=>by
  simp only [cw] at h
  simp only [cZ] at hN
  cases draw with
  | true =>
   rw [if_pos rfl] at h
   exact wp_region_any hm (lX hN (fun _ _ h=>h) _ _ h g.drew)
  | false =>
   rw [if_neg (by simp)] at h
   refine wp_region ?_
   have:=oo (Q:=Bi S E Q) hN (fun _ _ h=>h) ops.toList 0 (fun j=>by simp) h g
   rw [List.range_eq_range']
   simpa using this
 | .seq x y,Q,st,ρ,a,w,hN,h,g=>by
  simp only [cZ,Bool.and_eq_true] at hN
  refine wp_seq (wp_mono (eA hm x hN.1 h g) fun e a w hq => ?_)
  cases e with
  | normal =>
   obtain ⟨st',ρ',g',hk⟩:=hq
   rcases hk with hk|hk
   ·obtain ⟨st2,ρ2,g2,hk2⟩:=Wk.nxt hk g'
    exact eA hm y hN.2 hk2 g2
   ·exact eA hm y hN.2 hk g'
  | _=>exact hq
 | .cond c x y,Q,st,ρ,a,w,hN,h,g=>by
  simp only [cZ,Bool.and_eq_true] at hN
  simp only [cw] at h
  split at h
  ·rename_i t ht
   have hd:=(g.ev c).1
   rw [ht] at hd
   have hc:a.eval c = .bool t:=hd
   cases t with
   | true=>exact wp_cond_true hc (eA hm x hN.1 (h.1 rfl) g)
   | false=>exact wp_cond_false hc (eA hm y hN.2 (h.2 rfl) g)
  ·exact h.elim
 | .block id c,Q,st,ρ,a,w,hN,h,g=>by
  refine wp_block (wp_mono (eA hm c hN h g) fun e a w hq => ?_)
  cases e with
  | exit id' =>
   obtain ⟨st',ρ',g',hk⟩:=hq
   simp only [kG] at hk
   simp only [Exit.inBlock]
   split
   ·rename_i he;rw [if_pos he] at hk;exact ⟨st',ρ',g',hk⟩
   ·rename_i he;rw [if_neg he] at hk;exact ⟨st',ρ',g',hk⟩
  | _=>exact hq
 | .loop c,Q,st,ρ,a,w,hN,h,g=>by
  obtain ⟨I,n0,h0,hr⟩:=h
  have key:∀ k n st ρ a w,n<k→I n st→Gam S E st ρ a w→Code.rounds S.P c (Bi S E Q) k a w:=by
   intro k
   induction k with
   | zero=>intro n st ρ a w hlt;omega
   | succ k ih =>
    intro n st ρ a w hlt hI g
    rw [rounds_succ]
    refine wp_mono (eA hm c hN (hr n st hI) g) fun e a w hq => ?_
    cases e with
    | normal =>
     obtain ⟨st',ρ',g',hk⟩:=hq
     obtain ⟨st2,ρ2,g2,n',hlt',hk1⟩:=Wk.nxt hk g'
     exact ih n' st2 ρ2 a w (by omega) hk1 g2
    | _=>exact hq
  obtain ⟨st2,ρ2,g2,h2⟩:=Wk.nxt h0 g
  exact wp_loop_rounds (n0+1) (key _ n0 st2 ρ2 a w (Nat.lt_succ_self _) h2 g2)
 | .rangeFunc ..,Q,st,ρ,a,w,_,h,g=>h.elim
 | .scope _,Q,st,ρ,a,w,_,h,g=>h.elim
 | .goto _,Q,st,ρ,a,w,_,h,g=>h.elim
 | .refuse _,Q,st,ρ,a,w,_,h,g=>h.elim
end
end Go.SL
namespace Go.SL
open Go
section
variable {S:Env}
def nC:List (Nat × SV)→Nat→SV
 | [],_ => .any
 | (k,v) :: r,s=>if s=k then v else nC r s
def gZ:List (Nat × Bx)→Nat→Option Bx
 | [],_=>none
 | (k,x) :: r,i=>if i=k then some x else gZ r i
def iW:List BV→Nat→Nat→SV
 | [],_,_ => .any
 | x :: r,k,s=>if s=k then .b x else iW r (k+1) s
def xE (args:List BV):St := { fr:=iW args 0,bx:=fun _=>none,nx:=0 }
def Sb (cs:List PV) (args:List BV):St :=
 { fr:=fun s=>if s=0 then .b (.c (.ptr 0 0)) else iW args 1 s,bx:=fun i=>if i=0 then some (.fix (cs.map CV.p)) else none,nx:=1 }
def Jy (S:Env) (st:St):ResultVar→Option (Prop × BV)
 | .tmp t=>match st.fr t with
  | .b x=>some (True,CW st.bx x)
  | _=>none
 | .cell p t=>match dp S t st.bx (st.fr p) with
  | some (vc, .b x)=>some (vc,CW st.bx x)
  | _=>none
def pU (S:Env) (st:St):List ResultVar→Option (Prop × List BV)
 | []=>some (True,[])
 | r :: l=>match Jy S st r,pU S st l with
  | some (p,x),some (q,xs)=>some (p∧q,x :: xs)
  | _,_=>none
def xD (S:Env) (rs:List ResultVar) (R:SV→Prop) (st:St):Prop :=
 match pU S st rs with
 | some (p,[x])=>p∧x.lt 0∧R (.b x)
 | some (p,xs)=>p∧(∀ x ∈ xs,BV.lt 0 x)∧R (.tup xs)
 | none=>False
def Kv (S:Env) (rs:List ResultVar) (R:SV→Prop):AExit→St→Prop
 | .ret,st=>xD S rs R st
 | .normal,st=>xD S rs R st
 | _,_=>False
def GZ (S:Env) (rs:List ResultVar) (R:SV→List PV→Prop) (st:St):Prop :=
 ∃ ps:List PV,st.bx 0=some (.fix (ps.map CV.p))∧xD S rs (fun r=>R r ps) st
def QF (S:Env) (rs:List ResultVar) (R:SV→List PV→Prop):AExit→St→Prop
 | .ret,st=>GZ S rs R st
 | .normal,st=>GZ S rs R st
 | _,_=>False
variable {E:Ent} {st:St} {ρ:fO} {a:Act} {w:World}
theorem mV {x : CV} {u : Value} {ok : Nat → Prop} (g : Gam S E st ρ a w) (hok : ∀ b, bC E st.bx ρ w b → ok b) (hnew : ∀ b, b < w.heap.size → E.w0.heap.size ≤ b → ok b)
  (h:cd ρ (bC E st.bx ρ w) w x u):cd ρ ok w (ef st.bx x) u:=by
 have hk:fF (bC E st.bx ρ w) ok w w:=fun b hb=>⟨hok b hb,fun _=>rfl⟩
 have gen:cd ρ ok w x u:=by
  cases x with
  | p x=>exact bp.mono hk h
  | ptr id off=>exact h
  | pel id sz i off=>exact h
  | own id n=>exact h
  | ipt sz g off=>exact cd.mono (nx:=0) hk (fun _ _=>rfl) trivial h
  | clo f ps=>exact h
  | sub id sz lo n=>exact h
 unfold ef
 split
 ·rename_i id n
  split
  ·rename_i e sz n' f hb
   split
   ·rename_i hn
    obtain ⟨A,m,c,hr,h1,h2,h3,hu⟩:=h
    obtain ⟨h0,xs,hown,hone,hd⟩:=g.bxs id _ hb
    refine ⟨A,c,hu,by omega,fun hpos => ?_⟩
    rcases hown.2 with ⟨e1,e2⟩|⟨gb,cap,cur,hv,_,hh,hnc,_,hcs,htk⟩
    ·omega
    ·rw [hr] at hv
     simp only [Value.slice.injEq] at hv
     obtain ⟨rfl,rfl,rfl⟩:=hv
     have hgb:mb (ρ id)=some gb:=by rw [hr];rfl
     have hge:E.w0.heap.size≤gb:=by
      rcases (g.new id _ gb hb hgb).2 with h|⟨_,_,_,h,_⟩
      ·exact h
      ·cases h
     refine ⟨gb,0,rfl,hnew gb (bY hh) hge,fun i hi j hj => ?_⟩
     have hlt:i * sz+j<m * sz:=dR (by omega) hj
     have hlt2:i * sz+j<cur.size:=by rw [hcs];exact Nat.lt_of_lt_of_le hlt (Nat.mul_le_mul_right _ hnc)
     have hlx:i * sz+j<xs.length:=by rw [hown.1];exact hlt
     have hxe:xs.getD (i * sz+j) undef=cur.getD (i * sz+j) undef:=by
      rw [← htk];simp [List.getElem?_take,hlt]
     refine ⟨cur.getD (i * sz+j) undef,by rw [Nat.zero_add];exact bS hh hlt2, ?_, ?_⟩
     ·rw [← hxe,List.getD_eq_getElem?_getD,List.getElem?_eq_getElem hlx]
      exact hone _ (List.getElem_mem hlx)
     ·rw [← hxe]
      exact bp.mono hk (hd i (by omega) j hj)
   ·exact gen
  ·exact gen
 ·exact gen
theorem wO {x : BV} {u : Value} {ok : Nat → Prop} (g : Gam S E st ρ a w) (hok : ∀ b, bC E st.bx ρ w b → ok b) (hnew : ∀ b, b < w.heap.size → E.w0.heap.size ≤ b → ok b)
  (h:bT ρ (bC E st.bx ρ w) w x u):bT ρ ok w (CW st.bx x) u:=by
 cases x with
 | c x=>exact mV g hok hnew h
 | agg cs =>
  obtain ⟨us,rfl,hs,h1,hd⟩:=h
  refine ⟨us,rfl,by simp [hs],h1,fun j => ?_⟩
  by_cases hj:j<cs.length
  ·have e:(cs.map (ef st.bx)).getD j .any=ef st.bx (cs.getD j .any):=by simp [List.getD_eq_getElem?_getD,hj]
   rw [e]
   exact mV g hok hnew (hd j)
  ·rw [List.getD_eq_getElem?_getD,List.getElem?_eq_none (by simp;omega)];trivial
def qX (tmps:Array Value):ResultVar→Sem Value
 | .tmp t=>pure (tmps.getD t undef)
 | .cell a t=>do loadVar t (← asAddr (tmps.getD a undef))
def pX (P:Program) (tmps:Array Value) (w:World) (r:ResultVar) (v:Value):Prop:=(qX tmps r).run P w = .ok v w
theorem Fw {r : ResultVar} {p : Prop} {x : BV} {ok : Nat → Prop} (h : Jy S st r = some (p, x)) (hp : p) (g : Gam S E st ρ a w) (hok : ∀ b, bC E st.bx ρ w b → ok b)
  (hnew:∀ b,b<w.heap.size→E.w0.heap.size≤b→ok b):∃ v,pX S.P a.tmps w r v∧bT ρ ok w x v:=by
 unfold Jy at h
 split at h
 ·rename_i t
  have hs:=g.slt t
  split at h
  ·rename_i y hy
   rw [hy] at hs
   simp only [Option.some.injEq,Prod.mk.injEq] at h
   obtain ⟨_,rfl⟩:=h
   exact ⟨_,rfl,wO g hok hnew hs⟩
  ·simp at h
 ·rename_i q t
  split at h
  ·rename_i vc y hl
   simp only [Option.some.injEq,Prod.mk.injEq] at h
   obtain ⟨rfl,rfl⟩:=h
   obtain ⟨v,hr,hv,_⟩:=uV hl hp g (g.slt q)
   refine ⟨v, ?_,wO g hok hnew hv⟩
   unfold pX qX
   simp only [Instr.loadAt,Sem.run_bind] at hr ⊢
   cases hq:a.tmps.getD q undef <;> simp only [hq,Instr.sureAddr,run_stuck,Result.andThen_halt,reduceCtorEq] at hr
   rename_i ad
   cases ad with
   | none=>simp [Instr.sureAddr] at hr
   | some ad=>simpa [asAddr,Instr.sureAddr] using hr
  ·simp at h
theorem nP {ok : Nat → Prop} (g : Gam S E st ρ a w) (hok : ∀ b, bC E st.bx ρ w b → ok b) (hnew : ∀ b, b < w.heap.size → E.w0.heap.size ≤ b → ok b) : ∀ {rs : List ResultVar} {p : Prop} {xs : List BV},
  pU S st rs=some (p,xs)→p→∃ vs:List Value,(rs.mapM (qX a.tmps)).run S.P w = .ok vs w∧vs.length=xs.length∧∀ j,bT ρ ok w (xs.getD j .any) (vs.getD j undef)
 | [],p,xs,h,_=>by
  simp only [pU,Option.some.injEq,Prod.mk.injEq] at h
  obtain ⟨_,rfl⟩:=h
  exact ⟨[],by simp,rfl,fun j=>by simp [bT,cd,bp]⟩
 | r :: rs,p,xs,h,hp=>by
  simp only [pU] at h
  split at h
  ·rename_i p1 x1 p2 xs2 h1 h2
   simp only [Option.some.injEq,Prod.mk.injEq] at h
   obtain ⟨rfl,rfl⟩:=h
   obtain ⟨v,hv,hd⟩:=Fw h1 hp.1 g hok hnew
   obtain ⟨vs,hvs,hl,hds⟩:=nP g hok hnew h2 hp.2
   refine ⟨v :: vs, ?_,by simp [hl],fun j => ?_⟩
   ·unfold pX at hv
    rw [List.mapM_cons]
    simp only [Sem.run_bind,hv,Result.andThen_ok,hvs,Sem.run_pure]
   ·cases j with
    | zero=>exact hd
    | succ j=>exact hds j
  ·simp at h
theorem mJ {fn : Func} {vs : List Value} (h : (fn.results.toList.mapM (qX a.tmps)).run S.P w = .ok vs w) :
  (results fn a.tmps).run S.P w = .ok (match vs with|[v]=>v|_ => .tuple vs.toArray) w:=by
 have e : results fn a.tmps = (do
   let vs ← fn.results.mapM (qX a.tmps)
   pure (if h:vs.size=1 then vs[0] else .tuple vs)):=by
  unfold results
  congr 2
 rw [e,Sem.run_bind,Array.mapM_eq_mapM_toList]
 simp only [Sem.run_map,h,Result.andThen_ok,Sem.run_pure]
 match vs with
 | []=>rfl
 | [v]=>rfl
 | _ :: _ :: _=>rfl
theorem Lz {rs : List ResultVar} {R : SV → Prop} {fn : Func} {ok : Nat → Prop} (hrs : fn.results.toList = rs) (h : xD S rs R st) (g : Gam S E st ρ a w) (hok : ∀ b, bC E st.bx ρ w b → ok b)
  (hnew:∀ b,b<w.heap.size→E.w0.heap.size≤b→ok b):∃ v r,(results fn a.tmps).run S.P w = .ok v w∧R r∧SV.lt 0 r∧bn bR ok w r v:=by
 unfold xD at h
 have dn:∀ {x:BV} {u:Value},x.lt 0→bT ρ ok w x u→bT bR ok w x u:=fun hl hd=>fh hl hd
 split at h
 ·rename_i p x hr
  obtain ⟨hp,hl,hR⟩:=h
  obtain ⟨vs,hvs,hlen,hd⟩:=nP g hok hnew hr hp
  match vs,hlen with
  | [v],_=>exact ⟨v, .b x,mJ (by rw [hrs];exact hvs),hR,hl,dn hl (hd 0)⟩
 ·rename_i p xs hne hr
  obtain ⟨hp,hl,hR⟩:=h
  obtain ⟨vs,hvs,hlen,hd⟩:=nP g hok hnew hr hp
  refine ⟨.tuple vs.toArray, .tup xs, ?_,hR,hl,vs.toArray,rfl,by simpa using hlen,fun j => ?_⟩
  ·rw [mJ (by rw [hrs];exact hvs)]
   match vs,hlen with
   | [],_=>rfl
   | [v],hlen =>
    match xs,hlen with
    | [x],_=>exact absurd rfl (hne x)
   | _ :: _ :: _,_=>rfl
  ·by_cases hj:j<xs.length
   ·have e:vs.toArray.getD j undef=vs.getD j undef:=by simp [List.getD_eq_getElem?_getD]
    rw [e]
    refine dn (hl _ ?_) (hd j)
    rw [List.getD_eq_getElem?_getD,List.getElem?_eq_getElem hj];exact List.getElem_mem hj
   ·rw [List.getD_eq_getElem?_getD,List.getElem?_eq_none (by omega)];trivial
 ·exact h.elim
theorem cD:∀ (args:List BV) (k s:Nat),iW args k s=if k≤s∧s<k+args.length then .b (args.getD (s - k) .any) else .any
 | [],k,s=>by
  rw [if_neg (by simp only [List.length_nil];omega)]
  rfl
 | x :: r,k,s=>by
  simp only [iW,List.length_cons]
  by_cases h:s=k
  ·subst h;simp
  ·rw [if_neg h,cD r (k+1) s]
   by_cases h2:k+1≤s∧s<k+1+r.length
   ·rw [if_pos h2,if_pos (by omega),show s - k=(s - (k+1))+1 by omega];rfl
   ·rw [if_neg h2,if_neg (by omega)]
theorem LA {f : FuncId} {fn : Func} {c : Code} {rs : List ResultVar} {args : List BV} {R : SV → Prop} (hf : S.P.funcs[f]? = some fn) (hb : fn.body = some c) (hrs : fn.results.toList = rs) (hname : (fn.name == "runtime.NumGoroutine") = false)
  (hm:S.P.follows .mixedOrders=true) (hN:cZ fn.ntmps c=true) (hlen:args.length≤fn.ntmps) (hl:∀ x ∈ args,BV.lt 0 x) (h:cw S c (Kv S rs R) (xE args)):aC S f args R:=by
 subst hrs
 refine ⟨⟨fn,hf,hname,by rw [hb];rfl⟩,fun ok w vs hok hgl hsz hden => ?_⟩
 refine calls_of_wp hf hb ?_
 let E:Ent := { w0:=w,ok0:=ok,rx:=none,N:=fn.ntmps }
 have hokA:∀ b,ok b→bC E (fun _=>none) bR w b:=fun b hb=>⟨hok b hb,fun _=>hb,fun _ h=>absurd rfl h⟩
 have hk:fF ok (bC E (fun _=>none) bR w) w w:=fun b hb=>⟨hokA b hb,fun _=>rfl⟩
 have g:Gam S E (xE args) bR { tmps:=vs ++ Array.replicate (fn.ntmps - vs.size) undef,defers:=[] } w:=by
  refine ⟨rfl,by simp [E];omega,⟨rfl,rfl,rfl,Nat.le_refl _,fun _ _ _=>rfl,fun _ _ _ h=>(by cases h)⟩,fun s => ?_,fun _ _ h=>(by cases h),fun _ _ h=>(by cases h),fun _ _ _ h=>(by cases h),fun _ _ _ h=>absurd rfl h,
   fun _ _ _ h=>(by cases h),fun s => ?_,fun gg n f hg => ?_,fun s=>⟨trivial,trivial⟩⟩
  ·simp only [xE,cD]
   split
   ·rename_i hs
    refine hl _ ?_
    rw [List.getD_eq_getElem?_getD,List.getElem?_eq_getElem (by omega)];exact List.getElem_mem _
   ·trivial
  ·simp only [xE,cD]
   split
   ·rename_i hs
    have e:(vs ++ Array.replicate (fn.ntmps - vs.size) undef).getD s undef=vs.getD s undef:=by
     have:s<vs.size:=by omega
     simp [this]
     rw [Array.getElem?_append_left this]
     simp [this]
    rw [e]
    exact bT.mono (nx:=0) hk (fun _ _=>rfl) (hl _ (by rw [List.getD_eq_getElem?_getD,List.getElem?_eq_getElem (by omega)];exact List.getElem_mem _)) (hden (s - 0))
   ·trivial
  ·obtain ⟨h1,h2⟩:=hgl gg n f hg
   refine ⟨hokA gg h1,fun j hj => ?_⟩
   obtain ⟨x,hx,h3,hd⟩:=h2 j hj
   exact ⟨x,hx,h3,bp.mono hk hd⟩
 have fin : ∀ {a' : Act} {w' : World}, kL S E (xD S fn.results.toList R) a' w' → a'.defers = [] ∧ ∃ v, (results fn a'.tmps).run S.P w' = .ok v w' ∧
   ∃ v2 r,Ending.returned v = .returned v2∧R r∧SV.lt 0 r∧RowKit.Below w.heap.size w w'∧bn bR (FL ok w w') w' r v2:=fun {a' w'} ⟨st',ρ',g',hq⟩=>by
  obtain ⟨v,r,h1,h2,h3,h4⟩:=Lz (ok:=FL ok w w') rfl hq g' (fun b hb=>⟨hb.1,hb.2.1⟩) (fun b h1 h2=>⟨h1,fun h3=>by have:w.heap.size≤b:=h2;omega⟩)
  exact ⟨g'.dfr,v,h1,v,r,rfl,h2,h3,⟨g'.frm.os,g'.frm.tape,g'.frm.output,g'.frm.size,fun k hk=>g'.frm.block k hk (fun _ _ h=>by cases h)⟩,h4⟩
 refine wp_mono (eA hm c hN h g) fun e a' w' hq => ?_
 cases e with
 | normal=>exact fin hq
 | ret=>exact fin hq
 | exit id=>obtain ⟨_,_,_,h⟩:=hq;exact h.elim
 | _=>exact hq.elim
end
end Go.SL
namespace Go.SL
open Go
section
variable {S:Env}
theorem CallP.mono {st:St} {f:FuncId} {args:List BV} {K K':SV→St→Prop} (hK:∀ r s,K r s→K' r s) (h:CallP S st f args K):CallP S st f args K':=by
 cases h with
 | pure args' X h ha hl hk=>exact .pure args' X h ha hl (hK _ _ hk)
 | lend args' X h ha hl hf hk hp=>exact .lend args' X h ha hl hf (hK _ _ hk) hp
 | recv id off cs0 cs rest args' X Y h he hb hoff hcs ha hl hr hy hk=>exact .recv id off cs0 cs rest args' X Y h he hb hoff hcs ha hl hr hy (hK _ _ hk)
 | recvEl id sz i e n g cs rest args' X Y h he hb hi hsz hcs ha hl hr hy hk=>exact .recvEl id sz i e n g cs rest args' X Y h he hb hi hsz hcs ha hl hr hy (hK _ _ hk)
 | inl X bx' nx' h hr hw hk hn=>exact .inl X bx' nx' h hr hw (hK _ _ hk) hn
 | own args' e sz n g h ha hl hr hk=>exact .own args' e sz n g h ha hl hr (hK _ _ hk)
 | ext args' X h ha hl hk=>exact .ext args' X h ha hl (hK _ _ hk)
theorem uC {st:St} {ev:Operand→SV} {op:Op} {K K':SV→St→Prop} (hK:∀ r s,K r s→K' r s) (h:dt S st ev op K):dt S st ev op K':=by
 cases op with
 | build t parts =>
  simp only [dt] at *
  split at h
  ·split at h
   ·exact ⟨h.1,hK _ _ h.2⟩
   ·exact h.elim
  ·exact h.elim
 | alloc t =>
  simp only [dt] at *
  split at h
  ·exact hK _ _ h
  ·exact h.elim
 | box t x =>
  simp only [dt] at *
  split at h
  ·exact ⟨h.1,hK _ _ h.2⟩
  ·exact h.elim
 | buildSlice t len parts =>
  simp only [dt] at *
  split at h
  ·split at h
   ·split at h
    ·exact ⟨h.1,hK _ _ h.2⟩
    ·exact h.elim
   ·exact h.elim
  ·exact h.elim
 | store t p x =>
  simp only [dt] at *
  split at h
  ·split at h
   ·exact ⟨h.1,hK _ _ h.2⟩
   ·exact h.elim
  ·split at h
   ·exact ⟨h.1,hK _ _ h.2⟩
   ·exact h.elim
  ·exact h.elim
 | makeSlice t l c =>
  simp only [dt] at *
  split at h
  ·split at h
   ·exact ⟨h.1,hK _ _ h.2⟩
   ·exact h.elim
  ·exact h.elim
 | call c =>
  simp only [dt] at *
  split at h
  ·split at h
   ·split at h
    ·exact ⟨h.1,hK _ _ h.2⟩
    ·split at h
     ·exact ⟨h.1,hK _ _ h.2⟩
     ·exact h.elim
    ·exact h.elim
   ·exact h.elim
  ·split at h
   ·split at h
    ·exact ⟨h.1,hK _ _ h.2⟩
    ·exact h.elim
   ·exact h.elim
  ·exact h.mono hK
  ·split at h
   ·exact CallP.mono hK h
   ·exact h.elim
  ·exact h.elim
 | _=>exact h
theorem zf {st:St} {o:Oper} {K K':St→Prop} (hK:∀ s,K s→K' s) (h:jE S st o K):jE S st o K':=by
 unfold jE at *
 split at h
 ·exact ⟨h.1,hK _ h.2⟩
 ·exact ⟨h.1,uC (fun _ _ hk=>hK _ hk) h.2⟩
theorem tQ {ops:Array Oper} {st:St} {o:Oper} {K K':St→Prop} (hK:∀ s,K s→K' s) (h:fe S ops st o K):fe S ops st o K':=by
 unfold fe at *
 split at h
 ·exact zf hK h
 ·split at h
  ·split at h
   ·exact ⟨h.1,h.2.1,hK _ h.2.2⟩
   ·exact ⟨h.1,h.2.1,hK _ h.2.2⟩
   ·rcases h with h|⟨x,h1,h2,h3⟩
    ·exact .inl ⟨fun ht=>zf hK (h.1 ht),fun ht=>hK _ (h.2 ht)⟩
    ·exact .inr ⟨x,h1,h2,hK _ h3⟩
  ·exact h.elim
theorem vV {ops:Array Oper} {K K':St→Prop} (hK:∀ s,K s→K' s):∀ {l:List Oper} {st:St},aY S ops l st K→aY S ops l st K'
 | [],_,h=>hK _ h
 | _ :: _,_,h=>tQ (fun _ hk=>vV hK hk) h
theorem qP {ops:Array Oper} {K K':St→Prop} (hK:∀ s,K s→K' s):∀ {n:Nat} {listed:Array Bool} {st:St},iQ S ops n listed st K→iQ S ops n listed st K'
 | 0,_,_,h=>⟨h.1,hK _ h.2⟩
 | n+1,listed,st,h=>by
  refine ⟨fun hr=>hK _ (h.1 hr),fun i hi => ?_⟩
  have:=h.2 i hi
  split at this
  ·exact tQ (fun _ hk=>qP hK hk) this
  ·exact qP hK this
theorem Wk.mono {K K':St→Prop} {st:St} (hK:∀ s,K s→K' s) (h:Wk K st):Wk K' st:=let ⟨s,hl,hk⟩:=h; ⟨s,hl,hK _ hk⟩
theorem jT {n n':St→Prop} {Q Q':AExit→St→Prop} (hn:∀ s,n s→n' s) (hq:∀ e s,Q e s→Q' e s):∀ e s,hC n Q e s→hC n' Q' e s
 | .normal,s,h=>hn s h
 | .exit _,s,h=>hq _ s h
 | .ret,s,h=>hq _ s h
theorem dC:∀ (c:Code) {Q Q':AExit→St→Prop} {st:St},(∀ e s,Q e s→Q' e s)→cw S c Q st→cw S c Q' st
 | .skip,_,_,_,hq,h=>hq _ _ h
 | .label _,_,_,_,hq,h=>hq _ _ h
 | .exit _,_,_,_,hq,h=>hq _ _ h
 | .ret,_,_,_,hq,h=>hq _ _ h
 | .region _ ops draw,_,_,_,hq,h=>by
  simp only [cw] at *
  split
  ·rename_i hd;rw [if_pos hd] at h;exact qP (fun s=>hq _ s) h
  ·rename_i hd;rw [if_neg hd] at h;exact vV (fun s=>hq _ s) h
 | .seq x y,_,_,_,hq,h=>dC x (jT (fun _ hs=>hs.imp (Wk.mono fun _=>dC y hq) (dC y hq)) hq) h
 | .cond c x y,_,_,_,hq,h=>by
  simp only [cw] at *
  split at h
  ·exact ⟨fun ht=>dC x hq (h.1 ht),fun ht=>dC y hq (h.2 ht)⟩
  ·exact h.elim
 | .block id c, _, _, _, hq, h => dC c (fun e s hs => by
   cases e with
   | exit id' =>
    simp only [kG] at *
    split
    ·rename_i he;rw [if_pos he] at hs;exact hq _ _ hs
    ·rename_i he;rw [if_neg he] at hs;exact hq _ _ hs
   | _=>exact hq _ _ hs) h
 | .loop c,_,_,_,hq,h=>by
  obtain ⟨I,n,h0,hr⟩:=h
  exact ⟨I,n,h0,fun n s hI=>dC c (jT (fun _ hs=>hs) hq) (hr n s hI)⟩
 | .rangeFunc ..,_,_,_,_,h=>h
 | .scope _,_,_,_,_,h=>h
 | .goto _,_,_,_,_,h=>h
 | .refuse _,_,_,_,_,h=>h
variable {st:St} {Q:AExit→St→Prop}
theorem ua {x y:Code} (h:cw S x (hC (cw S y Q) Q) st):cw S (.seq x y) Q st:=dC x (jT (fun _ hs => .inr hs) (fun _ _ h=>h)) h
theorem Mg {x y:Code} (M:St→Prop) (h:cw S x (hC (Wk M) Q) st) (h2:∀ s,M s→cw S y Q s):cw S (.seq x y) Q st :=
 dC x (jT (fun _ hs => .inl (hs.mono h2)) (fun _ _ h=>h)) h
theorem xU (h:Q .normal st):cw S .skip Q st:=h
theorem mB (h:Q .ret st):cw S .ret Q st:=h
theorem IG {id:Nat} (h:Q (.exit id) st):cw S (.exit id) Q st:=h
theorem zU {id:Nat} {c:Code} (h:cw S c (kG id Q) st):cw S (.block id c) Q st:=h
theorem qk {id:Nat} {l:List Oper} (h:aY S l.toArray l st (Q .normal)):cw S (.region id l.toArray false) Q st:=by
 simp only [cw];exact h
theorem ln {c:Operand} {x y:Code} {t:Bool} (hc:st.ev S c = .t t) (h1:t=true→cw S x Q st) (h2:t=false→cw S y Q st):cw S (.cond c x y) Q st:=by
 simp only [cw,hc];exact ⟨h1,h2⟩
theorem aO {X : Type} {c : Code} (F : X → St) (I : X → Prop) (m : X → Nat) (x0 : X) (h0 : I x0) (hle : Le st (F x0))
  (hr:∀ x,I x→cw S c (hC (Wk fun s=>∃ x',s=F x'∧I x'∧m x'<m x) Q) (F x)):cw S (.loop c) Q st:=by
 refine ⟨fun n s=>∃ x,s=F x∧I x∧m x=n,m x0,⟨F x0,hle,x0,rfl,h0,rfl⟩,fun n s hs => ?_⟩
 obtain ⟨x,rfl,hI,rfl⟩:=hs
 exact dC c (jT (fun _ hs=>hs.mono fun _ ⟨x',h1,h2,h3⟩=>⟨m x',h3,x',h1,h2,rfl⟩) (fun _ _ h=>h)) (hr x hI)
end
end Go.SL
set_option linter.unusedVariables false
namespace Go.SL
open Go
def Ex (S:Env) (ops:Array Oper) (st:St) (o:Oper) (s':St):Prop:=fe S ops st o fun s=>s=s'
section
variable {S:Env} {ops:Array Oper} {st st2 s':St} {ev ev2:Operand→SV} {op:Op} {o:Oper}
theorem yE {f:FuncId} {args:List BV} {K:SV→St→Prop} (h:CallP S st f args K):∃ r s',CallP S st f args (fun r0 s0=>r0=r∧s0=s')∧K r s':=by
 cases h with
 | pure args' X h ha hl hk=>exact ⟨_,_, .pure args' X h ha hl ⟨rfl,rfl⟩,hk⟩
 | lend args' X h ha hl hf hk hp=>exact ⟨_,_, .lend args' X h ha hl hf ⟨rfl,rfl⟩ hp,hk⟩
 | recv id off cs0 cs rest args' X Y h he hb hoff hcs ha hl hr hy hk=>exact ⟨_,_, .recv id off cs0 cs rest args' X Y h he hb hoff hcs ha hl hr hy ⟨rfl,rfl⟩,hk⟩
 | recvEl id sz i e n g cs rest args' X Y h he hb hi hsz hcs ha hl hr hy hk=>exact ⟨_,_, .recvEl id sz i e n g cs rest args' X Y h he hb hi hsz hcs ha hl hr hy ⟨rfl,rfl⟩,hk⟩
 | inl X bx' nx' h hr hw hk hn=>exact ⟨_,_, .inl X bx' nx' h hr hw ⟨rfl,rfl⟩ hn,hk⟩
 | own args' e sz n g h ha hl hr hk=>exact ⟨_,_, .own args' e sz n g h ha hl hr ⟨rfl,rfl⟩,hk⟩
 | ext args' X h ha hl hk=>exact ⟨_,_, .ext args' X h ha hl ⟨rfl,rfl⟩,hk⟩
theorem Hy {K:SV→St→Prop} (h:dt S st ev op K):∃ r s',dt S st ev op (fun r0 s0=>r0=r∧s0=s')∧K r s':=by
 cases op with
 | build t parts =>
  simp only [dt] at *
  split at h
  ·split at h
   ·exact ⟨_,_,⟨h.1,rfl,rfl⟩,h.2⟩
   ·exact h.elim
  ·exact h.elim
 | alloc t =>
  simp only [dt] at *
  split at h
  ·exact ⟨_,_,⟨rfl,rfl⟩,h⟩
  ·exact h.elim
 | box t x =>
  simp only [dt] at *
  split at h
  ·exact ⟨_,_,⟨h.1,rfl,rfl⟩,h.2⟩
  ·exact h.elim
 | buildSlice t len parts =>
  simp only [dt] at *
  split at h
  ·split at h
   ·split at h
    ·exact ⟨_,_,⟨h.1,rfl,rfl⟩,h.2⟩
    ·exact h.elim
   ·exact h.elim
  ·exact h.elim
 | store t p x =>
  simp only [dt] at *
  split at h
  ·split at h
   ·exact ⟨_,_,⟨h.1,rfl,rfl⟩,h.2⟩
   ·exact h.elim
  ·split at h
   ·exact ⟨_,_,⟨h.1,rfl,rfl⟩,h.2⟩
   ·exact h.elim
  ·exact h.elim
 | makeSlice t l c =>
  simp only [dt] at *
  split at h
  ·split at h
   ·exact ⟨_,_,⟨h.1,rfl,rfl⟩,h.2⟩
   ·exact h.elim
  ·exact h.elim
 | call c =>
  simp only [dt] at *
  split at h
  ·split at h
   ·split at h
    ·exact ⟨_,_,⟨h.1,rfl,rfl⟩,h.2⟩
    ·split at h
     ·exact ⟨_,_,⟨h.1,rfl,rfl⟩,h.2⟩
     ·exact h.elim
    ·exact h.elim
   ·exact h.elim
  ·split at h
   ·split at h
    ·exact ⟨_,_,⟨h.1,rfl,rfl⟩,h.2⟩
    ·exact h.elim
   ·exact h.elim
  ·exact yE h
  ·split at h
   ·exact yE h
   ·exact h.elim
  ·exact h.elim
 | _=>exact h.elim
theorem Gn {K:St→Prop} (h:jE S st o K):∃ s',jE S st o (fun s=>s=s')∧K s':=by
 unfold jE at *
 split at h
 ·exact ⟨_,⟨h.1,rfl⟩,h.2⟩
 ·obtain ⟨r,s',h1,h2⟩:=Hy h.2
  exact ⟨_,⟨h.1,uC (fun r0 s0 ⟨e1,e2⟩=>by rw [e1,e2]) h1⟩,h2⟩
theorem nX {K:St→Prop} (h:fe S ops st o K):∃ s',Ex S ops st o s'∧K s':=by
 unfold Ex
 unfold fe at *
 split at h
 ·exact Gn h
 ·split at h
  ·rename_i g hg
   split at h
   ·exact ⟨_,⟨h.1,h.2.1,rfl⟩,h.2.2⟩
   ·exact ⟨_,⟨h.1,h.2.1,rfl⟩,h.2.2⟩
   ·rcases h with h|⟨x,q1,q2,q3⟩
    ·cases g with
     | true =>
      obtain ⟨s',h1,h2⟩:=Gn (h.1 rfl)
      exact ⟨s', .inl ⟨fun _=>h1,fun h=>by cases h⟩,h2⟩
     | false=>exact ⟨_, .inl ⟨fun h=>by (cases h),fun _=>rfl⟩,h.2 rfl⟩
    ·exact ⟨_, .inr ⟨x,q1,q2,rfl⟩,q3⟩
  ·exact h.elim
theorem kF {K:St→Prop} (h:Ex S ops st o s') (hk:K s'):fe S ops st o K:=tQ (fun s (hs:s=s')=>by rw [hs];exact hk) h
theorem mr {f : FuncId} {args : List BV} {r : SV} (h : CallP S st f args (fun r0 s0 => r0 = r ∧ s0 = s')) :
  ∃ bx' nx',s'=⟨st.fr,bx',nx',st.kf⟩∧((S.rcv f || S.rcv (f+2000000))=false→bx'=st.bx∧nx'=st.nx)∧∀ st2:St,st2.bx=st.bx→st2.nx=st.nx→CallP S st2 f args (fun r0 s0=>r0=r∧s0=⟨st2.fr,bx',nx',st2.kf⟩):=by
 cases h with
 | pure args' X h ha hl hk =>
  obtain ⟨rfl,rfl⟩:=hk
  exact ⟨_,_,rfl,fun _=>⟨rfl,rfl⟩,fun st2 e1 e2 => .pure args' _ h ha hl ⟨rfl,by rw [← e1,← e2]⟩⟩
 | ext args' X h ha hl hk =>
  obtain ⟨rfl,rfl⟩:=hk
  exact ⟨_,_,rfl,fun _=>⟨rfl,rfl⟩,fun st2 e1 e2 => .ext args' _ h ha hl ⟨rfl,by rw [← e1,← e2]⟩⟩
 | lend args' X h ha hl hf hk hp =>
  obtain ⟨rfl,rfl⟩:=hk
  exact ⟨_,_,rfl,fun _=>⟨rfl,rfl⟩,fun st2 e1 e2 => .lend args' _ h (by rw [e1];exact ha) hl hf ⟨rfl,by rw [← e1,← e2]⟩ hp⟩
 | recv id off cs0 cs rest args' X Y h he hb hoff hcs ha hl hr hy hk =>
  obtain ⟨rfl,rfl⟩:=hk
  exact ⟨_,_,rfl,fun h0=>by (simp [hr] at h0),fun st2 e1 e2 => .recv id off cs0 cs rest args' _ Y h he (by rw [e1];exact hb) hoff hcs ha hl hr hy ⟨rfl,by simp only [St.setBox,e1,e2]⟩⟩
 | recvEl id sz i e n g cs rest args' X Y h he hb hi hsz hcs ha hl hr hy hk =>
  obtain ⟨rfl,rfl⟩:=hk
  exact ⟨_,_,rfl,fun h0=>by (simp [hr] at h0),fun st2 e1 e2 => .recvEl id sz i e n g cs rest args' _ Y h he (by rw [e1];exact hb) hi hsz hcs ha hl hr hy ⟨rfl,by simp only [St.setBox,e1,e2]⟩⟩
 | inl X bx' nx' h hr hw hk hn =>
  obtain ⟨rfl,rfl⟩:=hk
  exact ⟨_,_,rfl,fun h0=>by (simp [hr] at h0),fun st2 e1 e2 => .inl _ bx' nx' (by rw [e1,e2];exact h) hr hw ⟨rfl,rfl⟩ (by rw [e2];exact hn)⟩
 | own args' e sz n g h ha hl hr hk =>
  obtain ⟨rfl,rfl⟩:=hk
  exact ⟨_,_,rfl,fun h0=>by (simp [hr] at h0),fun st2 e1 e2 => .own args' e sz n g h (by rw [e1];exact ha) hl hr ⟨by rw [e2],by simp only [St.newBox,e1,e2]⟩⟩
theorem DH {f:FuncId} {args:List BV} {r:SV} (hp:S.rcv (f+1000000)=true) (hn:(S.rcv f || S.rcv (f+2000000))=false) (h:CallP S st f args (fun r0 s0=>r0=r∧s0=s')) (st2:St):CallP S st2 f args (fun r0 s0=>r0=r∧s0=st2):=by
 cases h with
 | pure args' X h ha hl hk=>exact .pure args' _ h ha hl ⟨hk.1,rfl⟩
 | ext args' X h ha hl hk=>exact .ext args' _ h ha hl ⟨hk.1,rfl⟩
 | lend args' X h ha hl hf hk hq=>rw [hp] at hq;cases hq
 | recv id off cs0 cs rest args' X Y h he hb hoff hcs ha hl hr hy hk=>simp [hr] at hn
 | recvEl id sz i e n g cs rest args' X Y h he hb hi hsz hcs ha hl hr hy hk=>simp [hr] at hn
 | inl X bx' nx' h hr hw hk hn2=>simp [hr] at hn
 | own args' e sz n g h ha hl hr hk=>simp [hr] at hn
theorem ku {pl:Nat→Option (Nat × Nat)}:∀ {ps:List (Nat × Operand)} {cs:List CV},(∀ p ∈ ps,ev p.2=ev2 p.2)→gu pl ev ps cs=gu pl ev2 ps cs
 | [],_,_=>rfl
 | p :: ps,cs,h=>by
  obtain ⟨i,x⟩:=p
  have h1:=h (i,x) (List.mem_cons_self ..)
  simp only at h1
  simp only [gu,h1]
  split
  ·rw [ku fun p hp=>h p (List.mem_cons_of_mem _ hp)]
  ·rfl
theorem wX {r : SV} (h : dt S st ev op (fun r0 s0 => r0 = r ∧ s0 = s')) (he : ∀ x ∈ op.operands.toList, ev x = ev2 x) :
  ∃ bx' nx',s'=⟨st.fr,bx',nx',st.kf⟩∧∀ st2:St,st2.bx=st.bx→st2.nx=st.nx→dt S st2 ev2 op (fun r0 s0=>r0=r∧s0=⟨st2.fr,bx',nx',st2.kf⟩):=by
 cases op with
 | build t parts =>
  have hf:∀ {pl cs},gu pl ev parts.toList cs=gu pl ev2 parts.toList cs:=fun {pl cs}=>ku fun p hp=>he p.2 (by simp only [Op.operands];exact List.mem_map_of_mem hp)
  simp only [dt,hf] at *
  split at h
  ·split at h
   ·obtain ⟨h1,rfl,rfl⟩:=h
    exact ⟨_,_,rfl,fun st2 e1 e2=>⟨h1,rfl,by rw [← e1,← e2]⟩⟩
   ·exact h.elim
  ·exact h.elim
 | alloc t =>
  simp only [dt] at *
  split at h
  ·obtain ⟨rfl,rfl⟩:=h
   exact ⟨_,_,rfl,fun st2 e1 e2=>⟨by rw [e2],by simp only [St.newBox,e1,e2]⟩⟩
  ·exact h.elim
 | box t x =>
  simp only [dt,he x (by simp [Op.operands])] at *
  split at h
  ·obtain ⟨h1,rfl,rfl⟩:=h
   exact ⟨_,_,rfl,fun st2 e1 e2=>⟨h1,by rw [e2],by simp only [St.newBox,e1,e2]⟩⟩
  ·exact h.elim
 | buildSlice t len parts =>
  have hf:∀ {pl cs},gu pl ev parts.toList cs=gu pl ev2 parts.toList cs:=fun {pl cs}=>ku fun p hp=>he p.2 (by simp only [Op.operands];exact List.mem_map_of_mem hp)
  simp only [dt,hf] at *
  split at h
  ·split at h
   ·split at h
    ·obtain ⟨h1,rfl,rfl⟩:=h
     exact ⟨_,_,rfl,fun st2 e1 e2=>⟨h1,by rw [e2],by simp only [St.newBox,e1,e2]⟩⟩
    ·exact h.elim
   ·exact h.elim
  ·exact h.elim
 | store t p x =>
  simp only [dt,he p (by simp [Op.operands]),he x (by simp [Op.operands])] at *
  split at h
  ·rename_i hb0
   split at h
   ·rename_i hb
    obtain ⟨h1,rfl,rfl⟩:=h
    exact ⟨_,_,rfl,fun st2 e1 e2=>by simp only [e1,hb];exact ⟨h1,by simp only [St.setBox,e1,e2,true_and]⟩⟩
   ·exact h.elim
  ·split at h
   ·rename_i hb
    obtain ⟨h1,rfl,rfl⟩:=h
    exact ⟨_,_,rfl,fun st2 e1 e2=>by simp only [e1,hb];exact ⟨h1,by simp only [St.setBox,e1,e2,true_and]⟩⟩
   ·exact h.elim
  ·exact h.elim
 | makeSlice t l c =>
  simp only [dt,he l (by simp [Op.operands]),he c (by simp [Op.operands])] at *
  split at h
  ·split at h
   ·obtain ⟨h1,rfl,rfl⟩:=h
    exact ⟨_,_,rfl,fun st2 e1 e2=>⟨h1,by rw [e2],by simp only [St.newBox,e1,e2]⟩⟩
   ·exact h.elim
  ·exact h.elim
 | call c =>
  obtain ⟨cal,⟨al⟩,⟨tl⟩⟩:=c
  unfold dt at h
  simp only at h
  split at h
  ·rename_i x y t t'
   have h1:=he x (by simp [Op.operands,Call.operands])
   have h2:=he y (by simp [Op.operands,Call.operands])
   rw [h1,h2] at h
   unfold dt
   simp only
   split at h
   ·rename_i hel hsrc
    split at h
    ·rename_i hi hz hx
     obtain ⟨hh,rfl,rfl⟩:=h
     exact ⟨_,_,rfl,fun st2 q1 q2=>by
      simp only [q1,q2,hel,hsrc,hi,hz,hx]
      exact ⟨hh,trivial,by simp only [St.newBox,q1,q2]⟩⟩
    ·rename_i hi hz hx
     split at h
     ·rename_i hb
      obtain ⟨hh,rfl,rfl⟩:=h
      exact ⟨_,_,rfl,fun st2 q1 q2=>by
       simp only [q1,q2,hel,hsrc,hi,hz,hx,hb]
       exact ⟨hh,trivial,by simp only [St.newBox,St.delBox,q1,q2];try rfl⟩⟩
     ·exact h.elim
    ·exact h.elim
   ·exact h.elim
  ·rename_i x y t t'
   have h1:=he x (by simp [Op.operands,Call.operands])
   have h2:=he y (by simp [Op.operands,Call.operands])
   rw [h1,h2] at h
   unfold dt
   simp only
   split at h
   ·rename_i hel hx hy
    split at h
    ·rename_i hb
     obtain ⟨hh,rfl,rfl⟩:=h
     exact ⟨_,_,rfl,fun st2 q1 q2=>by
      simp only [q1,hel,hx,hy,hb]
      exact ⟨hh,trivial,by simp only [St.setBox,q1,q2]⟩⟩
    ·exact h.elim
   ·exact h.elim
  ·have hl:al.map (fun x=>dM (ev x))=al.map (fun x=>dM (ev2 x)):=List.map_congr_left fun x hx=>by rw [he x (by simp [Op.operands,Call.operands,hx])]
   rw [hl] at h
   obtain ⟨bx',nx',e,_,hp⟩:=mr h
   exact ⟨bx',nx',e,fun st2 q1 q2=>by unfold dt;exact hp st2 q1 q2⟩
  ·rename_i t
   have hl:al.map (fun x=>dM (ev x))=al.map (fun x=>dM (ev2 x)):=List.map_congr_left fun x hx=>by rw [he x (by simp [Op.operands,Call.operands,hx])]
   have ht:=he (.tmp t) (by simp [Op.operands,Call.operands])
   split at h
   ·rename_i f ps hx
    rw [hl] at h
    obtain ⟨bx',nx',e,_,hp⟩:=mr h
    exact ⟨bx',nx',e,fun st2 q1 q2=>by unfold dt;simp only;rw [← ht,hx];exact hp st2 q1 q2⟩
   ·exact h.elim
  ·exact h.elim
 | _=>exact h.elim
theorem gU {bx:Nat→Option Bx} (he:∀ x ∈ op.operands.toList,ev x=ev2 x):ro S bx ev op=ro S bx ev2 op:=by
 have hc:aP (op.operands.toList.map ev)=aP (op.operands.toList.map ev2):=by rw [List.map_congr_left he]
 have hcore:bc S bx ev op=bc S bx ev2 op:=by
  cases op with
  | slice t x lo hi m =>
   cases m with
   | none =>
    have h1:=he x (by simp [Op.operands])
    cases lo with
    | none=>cases hi with
     | none=>simp only [bc,h1,Option.map_none]
     | some b=>have h3:=he b (by simp [Op.operands]);simp only [bc,h1,h3,Option.map_none,Option.map_some]
    | some a =>
     have h2:=he a (by simp [Op.operands])
     cases hi with
     | none=>simp only [bc,h1,h2,Option.map_none,Option.map_some]
     | some b=>have h3:=he b (by simp [Op.operands]);simp only [bc,h1,h2,h3,Option.map_some]
   | some _=>rfl
  | call c =>
   obtain ⟨cal,⟨al⟩,⟨tl⟩⟩:=c
   unfold bc
   simp only
   split
   ·rename_i x _;rw [he x (by simp [Op.operands,Call.operands])]
   ·rename_i x y;rw [he x (by simp [Op.operands,Call.operands]),he y (by simp [Op.operands,Call.operands])]
   ·rename_i x y;rw [he x (by simp [Op.operands,Call.operands]),he y (by simp [Op.operands,Call.operands])]
   ·rfl
  | makeFunc fn first cap =>
   have hl:cap.toList.map (fun x=>(ev x).strip)=cap.toList.map (fun x=>(ev2 x).strip):=List.map_congr_left fun x hx=>by rw [he x (by simp [Op.operands];exact .inr (by simpa using hx))]
   simp only [bc,hl]
  | load t x=>simp only [bc,he x (by simp [Op.operands])]
  | fieldAddr t x f=>simp only [bc,he x (by simp [Op.operands])]
  | field t x f=>simp only [bc,he x (by simp [Op.operands])]
  | indexAddr t x y=>simp only [bc,he x (by simp [Op.operands]),he y (by simp [Op.operands])]
  | index t x y=>simp only [bc,he x (by simp [Op.operands]),he y (by simp [Op.operands])]
  | extract x _=>simp only [bc,he x (by simp [Op.operands])]
  | binOp _ _ x y _=>simp only [bc,he x (by simp [Op.operands]),he y (by simp [Op.operands])]
  | unOp _ _ x=>simp only [bc,he x (by simp [Op.operands])]
  | convert _ _ x=>simp only [bc,he x (by simp [Op.operands])]
  | nilCheck x=>simp only [bc,he x (by simp [Op.operands])]
  | _=>rfl
 unfold ro
 split
 ·rename_i x;rw [he x (by simp [Op.operands])]
 ·rename_i x;rw [he x (by simp [Op.operands])]
 ·rename_i c a b;rw [he c (by simp [Op.operands]),he a (by simp [Op.operands]),he b (by simp [Op.operands])]
 ·rw [hcore,hc]
def dF (rcv:Nat→Bool):Op→Nat
 | .move _ | .assign _ | .pick .. | .fieldAddr .. | .field .. | .indexAddr .. | .index .. | .extract .. | .binOp .. | .unOp .. | .convert .. | .slice .. | .nilCheck _ | .build .. | .makeFunc .. => 0
 | .load .. => 1
 | .call c=>match c.callee with
  | .builtin .len | .builtin .min | .builtin .max=>0
  | .value (.func f)=>if rcv f || rcv (f+2000000) then 2 else if rcv (f+1000000) then 0 else 1
  | _=>2
 | _=>2
def vj (rcv:Nat→Bool) (o:Oper):Nat:=if o.guard.isSome then max 1 (dF rcv o.op) else dF rcv o.op
def ck (ops:Array Oper) (o:Oper):List Nat :=
 (o.op.operands.toList.filterMap fun | .tmp t=>some t|_=>none) ++ (match o.guard with|some (j,_)=>((ops[j]?).bind (·.dst)).toList|none=>[])
theorem dv {st st2:St} (h:∀ t ∈ ck ops o,st.fr t=st2.fr t):∀ x ∈ o.op.operands.toList,st.ev S x=st2.ev S x:=fun x hx=>by
 cases x with
 | tmp t=>exact h t (List.mem_append_left _ (List.mem_filterMap.2 ⟨_,hx,rfl⟩))
 | _=>rfl
theorem LS {bx bx2:Nat→Option Bx} (h:dF S.rcv op=0):ro S bx ev op=ro S bx2 ev op:=by
 cases op with
 | load=>simp [dF] at h
 | slice t x lo hi m=>cases m <;> rfl
 | _=>rfl
theorem ec (st:St) (d:Option Nat) (v:SV):st.set d v=⟨fun s=>if some s=d then v else st.fr s,st.bx,st.nx,st.kf⟩:=by
 cases d with
 | none=>simp [St.set]
 | some d=>simp only [St.set,Option.some.injEq]
theorem sD {d : Option Nat} (hd : o.dst = d) (h : jE S st o (fun s => s = s')) :
  ∃ v bx' nx',s'=St.set ⟨st.fr,bx',nx',st.kf⟩ d v∧(dF S.rcv o.op≤1→bx'=st.bx∧nx'=st.nx) ∧
   (∀ st2:St,(∀ t ∈ ck ops o,st.fr t=st2.fr t)→st2.bx=st.bx→st2.nx=st.nx→jE S st2 o (fun s=>s=St.set ⟨st2.fr,bx',nx',st2.kf⟩ d v)) ∧
   (dF S.rcv o.op=0→∀ st2:St,(∀ t ∈ ck ops o,st.fr t=st2.fr t)→jE S st2 o (fun s=>s=St.set st2 d v)):=by
 subst hd
 unfold jE at h
 split at h
 ·rename_i vc r hro
  obtain ⟨hv,rfl⟩:=h
  refine ⟨r,st.bx,st.nx,rfl,fun _=>⟨rfl,rfl⟩,fun st2 hn e1 e2 => ?_,fun h0 st2 hn => ?_⟩
  ·unfold jE
   rw [e1,← gU (dv hn),hro]
   exact ⟨hv,by rw [← e1,← e2]⟩
  ·unfold jE
   rw [← gU (dv hn),LS (bx2:=st.bx) h0,hro]
   exact ⟨hv,rfl⟩
 ·rename_i hro
  obtain ⟨hc,hM⟩:=h
  obtain ⟨r,s0,hM1,rfl⟩:=Hy hM
  obtain ⟨bx',nx',rfl, -⟩:=wX hM1 (ev2:=st.ev S) fun _ _=>rfl
  have hcond:∀ st2:St,(∀ t ∈ ck ops o,st.fr t=st2.fr t)→aP (o.op.operands.toList.map (st2.ev S)):=fun st2 hn=>by
   rw [← List.map_congr_left (dv (S:=S) hn)];exact hc
  have hcls:dF S.rcv o.op≤1→bx'=st.bx∧nx'=st.nx:=fun hle=>by
   revert hM1 hle
   generalize o.op=op
   intro hM1 hle
   cases op with
   | call c =>
    obtain ⟨cal,⟨al⟩,⟨tl⟩⟩:=c
    unfold dt at hM1
    simp only at hM1
    split at hM1
    ·simp [dF] at hle
    ·simp [dF] at hle
    ·obtain ⟨b,n,e,hr,_⟩:=mr hM1
     simp only [St.mk.injEq,true_and,and_true] at e
     obtain ⟨rfl,rfl⟩:=e
     refine hr ?_
     simp only [dF] at hle
     split at hle
     ·omega
     ·rename_i hne;simpa using hne
    ·simp [dF] at hle
    ·exact hM1.elim
   | build t parts =>
    simp only [dt] at hM1
    split at hM1
    ·split at hM1
     ·obtain ⟨_,_,e⟩:=hM1
      have e2:=congrArg St.bx e
      have e3:=congrArg St.nx e
      exact ⟨e2.symm,e3.symm⟩
     ·exact hM1.elim
    ·exact hM1.elim
   | alloc=>simp [dF] at hle
   | box=>simp [dF] at hle
   | buildSlice=>simp [dF] at hle
   | store=>simp [dF] at hle
   | makeSlice=>simp [dF] at hle
   | _=>exact hM1.elim
  refine ⟨r,bx',nx',rfl,hcls,fun st2 hn e1 e2 => ?_,fun h0 st2 hn => ?_⟩
  ·unfold jE
   rw [e1,← gU (dv hn),hro]
   refine ⟨hcond st2 hn, ?_⟩
   obtain ⟨b,n,e,hp⟩:=wX hM1 (ev2:=st2.ev S) (dv hn)
   simp only [St.mk.injEq,true_and,and_true] at e
   obtain ⟨rfl,rfl⟩:=e
   exact uC (fun r0 s0 ⟨q1,q2⟩=>by rw [q1,q2]) (hp st2 e1 e2)
  ·unfold jE
   rw [← gU (dv hn),LS (bx2:=st.bx) h0,hro]
   refine ⟨hcond st2 hn, ?_⟩
   revert hM1 h0 hn
   generalize hoo:o.op=op
   intro hM1 h0 hn
   cases op with
   | build t parts =>
    have hev:=dv (S:=S) hn
    rw [hoo] at hev
    have hf:∀ {pl cs},gu pl (st.ev S) parts.toList cs=gu pl (st2.ev S) parts.toList cs:=fun {pl cs}=>ku fun p hp=>hev p.2 (by simp only [Op.operands];exact List.mem_map_of_mem hp)
    simp only [dt,hf] at hM1 ⊢
    split at hM1
    ·split at hM1
     ·obtain ⟨q1,rfl,e⟩:=hM1
      exact ⟨q1,rfl⟩
     ·exact hM1.elim
    ·exact hM1.elim
   | call c =>
    obtain ⟨cal,⟨al⟩,⟨tl⟩⟩:=c
    unfold dt at hM1
    simp only at hM1
    split at hM1
    ·simp [dF] at h0
    ·simp [dF] at h0
    ·simp only [dF] at h0
     split at h0
     ·simp at h0
     ·split at h0
      ·rename_i hne hpp
       have hev:=dv (S:=S) hn
       rw [hoo] at hev
       unfold dt
       simp only
       have hh:=DH hpp (by simpa using hne) hM1 st2
       rw [List.map_congr_left (g:=fun x=>dM (st2.ev S x)) (fun x hx=>by rw [hev x (by simp [Op.operands,Call.operands,hx])])] at hh
       exact CallP.mono (fun r0 s0 ⟨q1,q2⟩=>by rw [q1,q2]) hh
      ·simp at h0
    ·simp [dF] at h0
    ·exact hM1.elim
   | alloc=>simp [dF] at h0
   | box=>simp [dF] at h0
   | buildSlice=>simp [dF] at h0
   | store=>simp [dF] at h0
   | makeSlice=>simp [dF] at h0
   | _=>exact hM1.elim
theorem gE (h : Ex S ops st o s') :
  ∃ v bx' nx',s'=St.set ⟨st.fr,bx',nx',st.kf⟩ o.dst v∧(vj S.rcv o≤1→bx'=st.bx∧nx'=st.nx) ∧
   (∀ st2:St,(∀ t ∈ ck ops o,st.fr t=st2.fr t)→st2.bx=st.bx→st2.nx=st.nx→Ex S ops st2 o (St.set ⟨st2.fr,bx',nx',st2.kf⟩ o.dst v)) ∧
   (vj S.rcv o=0→∀ st2:St,(∀ t ∈ ck ops o,st.fr t=st2.fr t)→Ex S ops st2 o (St.set st2 o.dst v)):=by
 unfold Ex fe at h
 cases hg:o.guard with
 | none =>
  rw [hg] at h
  obtain ⟨v,bx',nx',h1,h2,h3,h4⟩:=sD (ops:=ops) rfl h
  have hcl:vj S.rcv o=dF S.rcv o.op:=by simp [vj,hg]
  refine ⟨v,bx',nx',h1,by rwa [hcl],fun st2 a b c => ?_,fun h0 st2 a => ?_⟩
  ·unfold Ex fe;rw [hg];exact h3 st2 a b c
  ·unfold Ex fe;rw [hg];exact h4 (by rwa [hcl] at h0) st2 a
 | some p =>
  obtain ⟨j,want⟩:=p
  rw [hg] at h
  simp only at h
  have hcl:¬ vj S.rcv o=0:=by simp [vj,hg];try omega
  have hcl1:vj S.rcv o≤1→dF S.rcv o.op≤1:=by simp [vj,hg];try omega
  have hgv:∀ st2:St,(∀ t ∈ ck ops o,st.fr t=st2.fr t)→iX st ((ops[j]?).bind (·.dst)) want=iX st2 ((ops[j]?).bind (·.dst)) want:=fun st2 hn=>by
   unfold iX
   split
   ·rename_i d hd
    rw [hn d (List.mem_append_right _ (by rw [hg];simp [hd]))]
   ·rfl
  split at h
  ·rename_i g hgg
   split at h
   ·rename_i vc r hro
    obtain ⟨h1,h2,rfl⟩:=h
    refine ⟨_,st.bx,st.nx,rfl,fun _=>⟨rfl,rfl⟩,fun st2 hn e1 e2 => ?_,fun h0=>absurd h0 hcl⟩
    unfold Ex fe
    rw [hg]
    simp only
    rw [← hgv st2 hn,hgg,e1,← gU (dv hn),hro]
    exact ⟨by rw [e2];exact h1,h2,by rw [← e1,← e2]⟩
   ·rename_i vc p r hro
    obtain ⟨h1,h2,rfl⟩:=h
    refine ⟨_,st.bx,st.nx,rfl,fun _=>⟨rfl,rfl⟩,fun st2 hn e1 e2 => ?_,fun h0=>absurd h0 hcl⟩
    unfold Ex fe
    rw [hg]
    simp only
    rw [← hgv st2 hn,hgg,e1,← gU (dv hn),hro]
    exact ⟨by rw [e2];exact h1,h2,by rw [← e1,← e2]⟩
   ·rename_i hne hne2
    rcases h with h|⟨x,hlx,h1,rfl⟩
    ·cases g with
     | true =>
      obtain ⟨v,bx',nx',h1,h2,h3,h4⟩:=sD (ops:=ops) rfl (h.1 rfl)
      refine ⟨v,bx',nx',h1,fun hc=>h2 (hcl1 hc),fun st2 hn e1 e2 => ?_,fun h0=>absurd h0 hcl⟩
      unfold Ex fe
      rw [hg]
      simp only
      rw [← hgv st2 hn,hgg,e1,← gU (dv hn)]
      split
      ·rename_i g' q
       cases q
       split
       ·rename_i vc r hro;exact absurd hro (hne vc r)
       ·rename_i vc p r hro;exact absurd hro (hne2 vc p r)
       ·exact .inl ⟨fun _=>h3 st2 hn e1 e2,fun q=>by (cases q)⟩
      ·rename_i q;cases q
     | false =>
      have h1:=h.2 rfl
      subst h1
      refine ⟨_,st.bx,st.nx,rfl,fun _=>⟨rfl,rfl⟩,fun st2 hn e1 e2 => ?_,fun h0=>absurd h0 hcl⟩
      unfold Ex fe
      rw [hg]
      simp only
      rw [← hgv st2 hn,hgg,e1,← gU (dv hn)]
      split
      ·rename_i g' q
       cases q
       split
       ·rename_i vc r hro;exact absurd hro (hne vc r)
       ·rename_i vc p r hro;exact absurd hro (hne2 vc p r)
       ·exact .inl ⟨fun q=>by (cases q),fun _=>by rw [← e1,← e2]⟩
      ·rename_i q;cases q
    ·refine ⟨_,st.bx,st.nx,rfl,fun _=>⟨rfl,rfl⟩,fun st2 hn e1 e2 => ?_,fun h0=>absurd h0 hcl⟩
     unfold Ex fe
     rw [hg]
     simp only
     rw [← hgv st2 hn,hgg,e1,← gU (dv hn)]
     split
     ·rename_i g' q
      cases q
      split
      ·rename_i vc r hro;exact absurd hro (hne vc r)
      ·rename_i vc p r hro;exact absurd hro (hne2 vc p r)
      ·refine .inr ⟨x,by rw [e2];exact hlx,fun ht => ?_,by rw [← e1,← e2]⟩
       obtain ⟨v,bx',nx',p1,p2,p3,p4⟩:=sD (ops:=ops) rfl (h1 ht)
       have:=p3 st2 hn e1 e2
       rw [ec,ec] at p1
       simp only [St.mk.injEq,and_true] at p1
       obtain ⟨r1,rfl,rfl⟩:=p1
       have e:St.set st2 o.dst (.b x)=St.set ⟨st2.fr,st.bx,st.nx,st2.kf⟩ o.dst v:=by
        rw [ec,ec,e1,e2]
        simp only [St.mk.injEq,and_true]
        funext s
        by_cases hs:some s=o.dst
        ·have:=congrFun r1 s
         rw [if_pos hs,if_pos hs] at this
         rw [if_pos hs,if_pos hs,this]
        ·rw [if_neg hs,if_neg hs]
       rw [e];exact this
     ·rename_i q;cases q
  ·exact h.elim
def rv (rcv:Nat→Bool) (ops:Array Oper) (x y:Oper):Bool :=
 (match x.dst with|some d => !(ck ops y).contains d|none=>true) && (match y.dst with|some d => !(ck ops x).contains d|none=>true) &&
 (match x.dst,y.dst with|some d,some e=>d != e|_,_=>true) &&
 ((Nat.ble (vj rcv x) 1 && Nat.ble (vj rcv y) 1) || Nat.beq (vj rcv x) 0 || Nat.beq (vj rcv y) 0)
theorem gX {fr kf:Nat→SV} {bx bx':Nat→Option Bx} {nx nx':Nat} {d:Option Nat} {v:SV} {l:List Nat} (h:(match d with|some d => !l.contains d|none=>true)=true):∀ t ∈ l,(St.set ⟨fr,bx,nx,kf⟩ d v).fr t=fr t:=fun t ht=>by
 rw [ec]
 simp only
 cases d with
 | none=>simp
 | some d =>
  have:t≠d:=fun e=>by subst e;simp [ht] at h
  simp [this]
theorem sm {x y:Oper} {s1 s2:St} (hi:rv S.rcv ops x y=true) (h1:Ex S ops st x s1) (h2:Ex S ops s1 y s2):∃ s3,Ex S ops st y s3∧Ex S ops s3 x s2:=by
 simp only [rv,Bool.and_eq_true,Bool.or_eq_true,Nat.ble_eq,Nat.beq_eq] at hi
 obtain ⟨⟨⟨hxy,hyx⟩,hdd⟩,hc⟩:=hi
 obtain ⟨v1,b1,n1,rfl,k1,p1,z1⟩:=gE h1
 obtain ⟨v2,b2,n2,rfl,k2,p2,z2⟩:=gE h2
 have ag1:∀ t ∈ ck ops y,(St.set ⟨st.fr,b1,n1,st.kf⟩ x.dst v1).fr t=st.fr t:=gX (nx':=0) (bx':=st.bx) hxy
 have comm:∀ b n,St.set ⟨(St.set ⟨st.fr,b1,n1,st.kf⟩ x.dst v1).fr,b,n,st.kf⟩ y.dst v2=St.set ⟨(St.set ⟨st.fr,b1,n1,st.kf⟩ y.dst v2).fr,b,n,st.kf⟩ x.dst v1:=fun b n=>by
  simp only [ec,St.mk.injEq,and_true]
  funext s
  by_cases e1:some s=x.dst
  ·by_cases e2:some s=y.dst
   ·exfalso
    rw [← e1,← e2] at hdd
    simp at hdd
   ·simp only [if_pos e1,if_neg e2]
  ·simp only [if_neg e1]
 have nn:∀ b n,(∀ t ∈ ck ops x,st.fr t=(St.set ⟨st.fr,b,n,st.kf⟩ y.dst v2).fr t):=fun b n t ht=>(gX (nx':=0) (bx':=st.bx) hyx t ht).symm
 have sb:∀ fr b n kf d v,(St.set ⟨fr,b,n,kf⟩ d v).bx=b:=fun fr b n kf d v=>by rw [ec]
 have sk:∀ fr b n kf d v,(St.set ⟨fr,b,n,kf⟩ d v).kf=kf:=fun fr b n kf d v=>by rw [ec]
 have sn:∀ fr b n kf d v,(St.set ⟨fr,b,n,kf⟩ d v).nx=n:=fun fr b n kf d v=>by rw [ec]
 have sf:∀ fr b n kf b' n' kf' d v,(St.set ⟨fr,b,n,kf⟩ d v).fr=(St.set ⟨fr,b',n',kf'⟩ d v).fr:=fun fr b n kf b' n' kf' d v=>by simp only [ec]
 rcases hc with (hc|hc)|hc
 ·obtain ⟨rfl,rfl⟩:=k1 hc.1
  obtain ⟨q1,q2⟩:=k2 hc.2
  rw [sb] at q1;rw [sn] at q2
  subst q1;subst q2
  refine ⟨_,p2 st ag1 (by rw [sb]) (by rw [sn]), ?_⟩
  have:=p1 (St.set ⟨st.fr,st.bx,st.nx,st.kf⟩ y.dst v2) (nn _ _) (by rw [sb]) (by rw [sn])
  rw [sk] at this
  rw [sk,comm]
  exact this
 ·obtain ⟨rfl,rfl⟩:=k1 (by omega)
  refine ⟨_,p2 st ag1 (by rw [sb]) (by rw [sn]), ?_⟩
  have:=z1 hc (St.set ⟨st.fr,b2,n2,st.kf⟩ y.dst v2) (nn _ _)
  rw [sk,comm]
  rw [sf _ _ _ _ b2 n2 st.kf]
  simp only [ec] at this ⊢
  exact this
 ·have:=z2 hc st ag1
  obtain ⟨q1,q2⟩:=k2 (by omega)
  rw [sb] at q1;rw [sn] at q2
  subst q1;subst q2
  refine ⟨_,this, ?_⟩
  have:=p1 (St.set st y.dst v2) (nn st.bx st.nx) (sb st.fr _ _ _ _ _) (sn st.fr _ _ _ _ _)
  rw [show (st.set y.dst v2).kf=st.kf from sk st.fr st.bx st.nx st.kf _ _] at this
  rw [sk,comm,sf _ _ _ _ st.bx st.nx st.kf]
  exact this
def KJ (S:Env) (ops:Array Oper):List Oper→St→St→Prop
 | [],st,s'=>st=s'
 | o :: r,st,s'=>∃ s,Ex S ops st o s∧KJ S ops r s s'
theorem uF {K:St→Prop}:∀ {l:List Oper} {st:St},aY S ops l st K→∃ s',KJ S ops l st s'∧K s'
 | [],st,h=>⟨st,rfl,h⟩
 | o :: r,st,h=>by
  obtain ⟨s,h1,h2⟩:=nX h
  obtain ⟨s',h3,h4⟩:=uF h2
  exact ⟨s',⟨s,h1,h3⟩,h4⟩
theorem wQ {o:Oper} {l2:List Oper}:∀ {l1:List Oper} {st s':St},(∀ x ∈ l1,rv S.rcv ops x o=true)→KJ S ops (l1 ++ o :: l2) st s'→∃ s,Ex S ops st o s∧KJ S ops (l1 ++ l2) s s'
 | [],st,s',_,h=>h
 | x :: l1,st,s',hi,⟨s,h1,h2⟩=>by
  obtain ⟨s2,h3,h4⟩:=wQ (fun y hy=>hi y (List.mem_cons_of_mem _ hy)) h2
  obtain ⟨s3,h5,h6⟩:=sm (hi x (List.mem_cons_self ..)) h1 h3
  exact ⟨s3,h5,s2,h6,h4⟩
def uT (rcv:Nat→Bool) (ops:Array Oper) (m:Nat→Nat):Bool :=
 (List.range ops.size).all fun i=>match ops[i]? with
  | none=>false
  | some o=>(o.after.all fun e => !Region.binds .any e || Nat.blt e.on i) &&
   (List.range i).all fun j=>match ops[j]? with
    | none=>false
    | some x=>(rv rcv ops x o && true) || ((m i).testBit j)
def cU (ops:Array Oper) (m:Nat→Nat):Bool :=
 (List.range ops.size).all fun i=>match ops[i]? with
  | none=>false
  | some o=>(List.range i).all fun j => !((m i).testBit j) || o.after.any fun e=>Region.binds .any e && (Nat.beq e.on j || ((m e.on).testBit j && Nat.blt j e.on))
def jo (listed:Array Bool) (i:Nat):Prop:=listed.getD i true=true
def gO (ops:Array Oper) (listed:Array Bool):Prop:=∀ i o,ops[i]?=some o→jo listed i→∀ e ∈ o.after,Region.binds .any e=true→jo listed e.on
theorem cC {listed:Array Bool} {i:Nat} (hs:listed.size=ops.size):i ∈ Region.ready .any ops listed↔∃ o,ops[i]?=some o∧listed.getD i true=false∧∀ e ∈ o.after,Region.binds .any e=true→listed.getD e.on false=true:=by
 unfold Region.ready
 rw [List.mem_filter,List.mem_range]
 constructor
 ·rintro ⟨h1,h2⟩
  simp only [Bool.and_eq_true,Bool.not_eq_true'] at h2
  rw [Array.getElem?_eq_getElem h1] at h2
  refine ⟨_,Array.getElem?_eq_getElem h1,h2.1,fun e he hb => ?_⟩
  have:=h2.2
  simp only [Option.map_some,Option.getD_some,Array.all_eq_true] at this
  obtain ⟨k,hk,rfl⟩:=Array.mem_iff_getElem.1 he
  have:=this k hk
  simpa [hb] using this
 ·rintro ⟨o,ho,h1,h2⟩
  have hlt:i<ops.size:=by
   rcases Nat.lt_or_ge i ops.size with h|h
   ·exact h
   ·rw [Array.getElem?_eq_none h] at ho;cases ho
  refine ⟨hlt, ?_⟩
  rw [ho]
  simp only [Option.map_some,Option.getD_some,Bool.and_eq_true,Bool.not_eq_true']
  refine ⟨h1,Array.all_eq_true.2 fun k hk => ?_⟩
  have:=h2 _ (Array.getElem_mem hk)
  cases hb:Region.binds .any o.after[k] with
  | true=>simp [this hb]
  | false=>simp
theorem tT {m : Nat → Nat} {listed : Array Bool} (hm : cU ops m = true) (hcl : gO ops listed) (hed : ∀ i o, ops[i]? = some o → ∀ e ∈ o.after, Region.binds .any e = true → e.on < i) (hsz : ∀ k, jo listed k → k < ops.size → True) :
  ∀ (n i:Nat),i<n→jo listed i→i<ops.size→∀ j,j<i→(m i).testBit j=true→jo listed j:=by
 intro n
 induction n with
 | zero=>intro i h;omega
 | succ n ih =>
  intro i hn hi hlt j hj hb
  have ho:=Array.getElem?_eq_getElem hlt
  have:=List.all_eq_true.1 hm i (List.mem_range.2 hlt)
  rw [ho] at this
  have:=List.all_eq_true.1 this j (List.mem_range.2 hj)
  simp only [hb,Bool.not_true,Bool.false_or] at this
  obtain ⟨k,hk,hh⟩:=Array.any_eq_true.1 this
  simp only [Bool.and_eq_true,Bool.or_eq_true,Nat.beq_eq] at hh
  obtain ⟨hbind,hh⟩:=hh
  have hmem:ops[i].after[k] ∈ ops[i].after:=Array.getElem_mem hk
  have hin:=hcl i _ ho hi _ hmem hbind
  have hle:=hed i _ ho _ hmem hbind
  rcases hh with hh|hh
  ·rw [← hh];exact hin
  ·exact ih _ (by omega) hin (by omega) j (by have:=hh.2;simp [Nat.blt] at this;omega) hh.1
theorem MM {m : Nat → Nat} (hd : uT S.rcv ops m = true) (hm : cU ops m = true) {K : St → Prop} : ∀ (fuel : Nat) (listed : Array Bool) (rest : List Nat) (st s' : St),
  listed.size=ops.size→rest.Pairwise (· < ·)→(∀ i,i ∈ rest↔i<ops.size∧listed.getD i true=false)→gO ops listed→KJ S ops (rest.map fun i=>ops.getD i default) st s'→K s'→rest.length≤fuel →
  iQ S ops fuel listed st K:=by
 have hed:∀ i o,ops[i]?=some o→∀ e ∈ o.after,Region.binds .any e=true→e.on<i:=fun i o ho e he hb=>by
  have hlt:i<ops.size:=by
   rcases Nat.lt_or_ge i ops.size with h|h
   ·exact h
   ·rw [Array.getElem?_eq_none h] at ho;cases ho
  have:=List.all_eq_true.1 hd i (List.mem_range.2 hlt)
  rw [ho] at this
  simp only [Bool.and_eq_true] at this
  have:=this.1
  obtain ⟨k,hk,rfl⟩:=Array.mem_iff_getElem.1 he
  have:=(Array.all_eq_true.1 this) k hk
  simp only [hb,Bool.not_true,Bool.false_or,Nat.blt] at this
  have:=Nat.le_of_ble_eq_true this
  omega
 have noready:∀ (listed:Array Bool) (rest:List Nat),listed.size=ops.size→rest.Pairwise (· < ·)→(∀ i,i ∈ rest↔i<ops.size∧listed.getD i true=false)→Region.ready .any ops listed=[]→rest=[]:=by
  intro listed rest hs hp hr hno
  cases rest with
  | nil=>rfl
  | cons i r =>
   exfalso
   obtain ⟨hlt,hl⟩:=(hr i).1 (List.mem_cons_self ..)
   have:i ∈ Region.ready .any ops listed:=(cC hs).2 ⟨_,Array.getElem?_eq_getElem hlt,hl,fun e he hb=>by
    have hle:=hed i _ (Array.getElem?_eq_getElem hlt) e he hb
    cases hq:listed.getD e.on false with
    | true=>rfl
    | false =>
     exfalso
     have hq':listed.getD e.on true=false:=by
      have hl2:e.on<listed.size:=by omega
      rw [Array.getD,dif_pos hl2] at hq ⊢
      exact hq
     have hmem:=(hr e.on).2 ⟨by omega,hq'⟩
     rcases List.mem_cons.1 hmem with h|h
     ·omega
     ·have:=(List.pairwise_cons.1 hp).1 _ h;omega⟩
   rw [hno] at this
   cases this
 intro fuel
 induction fuel with
 | zero =>
  intro listed rest st s' hs hp hr hcl hx hk hlen
  have hnil:rest=[]:=List.eq_nil_of_length_eq_zero (by omega)
  subst hnil
  have hst:st=s':=hx
  subst hst
  refine ⟨?_,hk⟩
  rw [List.eq_nil_iff_forall_not_mem]
  intro i hi
  obtain ⟨o,ho,hl,_⟩:=(cC hs).1 hi
  have hlt:i<ops.size:=by
   rcases Nat.lt_or_ge i ops.size with h|h
   ·exact h
   ·rw [Array.getElem?_eq_none h] at ho;cases ho
  exact absurd ((hr i).2 ⟨hlt,hl⟩) (by simp)
 | succ fuel ih =>
  intro listed rest st s' hs hp hr hcl hx hk hlen
  refine ⟨fun hno => ?_,fun i hi => ?_⟩
  ·have:=noready listed rest hs hp hr hno
   subst this
   have hst:st=s':=hx
   rw [hst];exact hk
  ·obtain ⟨o,ho,hl,hdep⟩:=(cC hs).1 hi
   have hlt:i<ops.size:=by
    rcases Nat.lt_or_ge i ops.size with h|h
    ·exact h
    ·rw [Array.getElem?_eq_none h] at ho;cases ho
   have hmem:=(hr i).2 ⟨hlt,hl⟩
   rw [ho]
   obtain ⟨l1,l2,rfl⟩:=List.append_of_mem hmem
   have hpw:=List.pairwise_append.1 hp
   have hoi:ops.getD i default=o:=by rw [Array.getD_eq_getD_getElem?,ho];rfl
   rw [List.map_append,List.map_cons,hoi] at hx
   have hdep':∀ e ∈ o.after,Region.binds .any e=true→jo listed e.on:=fun e he hb=>by
    have:=hdep e he hb
    have h2:=hed i o ho e he hb
    have hl2:e.on<listed.size:=by omega
    unfold jo
    rw [Array.getD,dif_pos hl2] at this ⊢
    exact this
   have hind:∀ x ∈ l1.map (fun i=>ops.getD i default),rv S.rcv ops x o=true:=fun x hxm=>by
    obtain ⟨j,hj,rfl⟩:=List.mem_map.1 hxm
    have hji:j<i:=hpw.2.2 j hj i (List.mem_cons_self ..)
    obtain ⟨hjlt,hjl⟩:=(hr j).1 (List.mem_append_left _ hj)
    have h1:=List.all_eq_true.1 hd i (List.mem_range.2 hlt)
    rw [ho] at h1
    simp only [Bool.and_eq_true] at h1
    have h2:=List.all_eq_true.1 h1.2 j (List.mem_range.2 hji)
    rw [Array.getElem?_eq_getElem hjlt] at h2
    simp only [Bool.or_eq_true,Bool.and_true] at h2
    rcases h2 with h2|h2
    ·rw [Array.getD_eq_getD_getElem?,Array.getElem?_eq_getElem hjlt];exact h2
    ·exfalso
     have h3:=List.all_eq_true.1 hm i (List.mem_range.2 hlt)
     rw [ho] at h3
     have h4:=List.all_eq_true.1 h3 j (List.mem_range.2 hji)
     simp only [h2,Bool.not_true,Bool.false_or] at h4
     obtain ⟨k,hk',hh⟩:=Array.any_eq_true.1 h4
     simp only [Bool.and_eq_true,Bool.or_eq_true,Nat.beq_eq] at hh
     have hin:=hdep' _ (Array.getElem_mem hk') hh.1
     have hle:=hed i o ho _ (Array.getElem_mem hk') hh.1
     have:jo listed j:=by
      rcases hh.2 with q|q
      ·rw [← q];exact hin
      ·exact tT hm hcl hed (fun _ _ _=>trivial) (i+1) _ (by omega) hin (by omega) j (by have:=q.2;simp [Nat.blt] at this;omega) q.1
     unfold jo at this
     rw [this] at hjl
     cases hjl
   obtain ⟨s1,h1,h2⟩:=wQ hind hx
   refine kF h1 ?_
   have hget:∀ k b,(listed.setIfInBounds i true).getD k b=if k=i then true else listed.getD k b:=fun k b=>by
    simp only [Array.getD_eq_getD_getElem?,Array.getElem?_setIfInBounds]
    by_cases hk:k=i
    ·subst hk;simp [hs,hlt]
    ·rw [if_neg (fun h=>hk h.symm),if_neg hk]
   refine ih _ (l1 ++ l2) s1 s' (by simpa using hs) ?_ (fun k => ?_) (fun k x hx' hin e he hb => ?_) (by rw [List.map_append];exact h2) hk (by simp at hlen ⊢;omega)
   ·refine List.pairwise_append.2 ⟨hpw.1,(List.pairwise_cons.1 hpw.2.1).2,fun a ha b hb=>hpw.2.2 a ha b (List.mem_cons_of_mem _ hb)⟩
   ·have hk:=hr k
    rw [hget]
    by_cases hki:k=i
    ·subst hki
     simp only [if_true]
     constructor
     ·intro hmm
      exfalso
      rcases List.mem_append.1 hmm with q|q
      ·have:=hpw.2.2 k q k (List.mem_cons_self ..);omega
      ·have:=(List.pairwise_cons.1 hpw.2.1).1 k q;omega
     ·rintro ⟨_,q⟩;cases q
    ·rw [if_neg hki,← hk]
     simp [hki]
   ·unfold jo at hin ⊢
    rw [hget] at hin ⊢
    by_cases hek:e.on=i
    ·rw [if_pos hek]
    ·rw [if_neg hek]
     by_cases hki:k=i
     ·subst hki
      rw [ho] at hx'
      cases hx'
      exact hdep' e he hb
     ·rw [if_neg hki] at hin
      exact hcl k x hx' hin e he hb
theorem KD {l:List Oper} {m:Nat→Nat} (hd:uT S.rcv l.toArray m=true) (hm:cU l.toArray m=true) {K:St→Prop} (h:aY S l.toArray l st K):iQ S l.toArray l.toArray.size (Array.replicate l.toArray.size false) st K:=by
 obtain ⟨s',h1,h2⟩:=uF h
 refine MM hd hm _ _ (List.range l.length) st s' (by simp) List.pairwise_lt_range (fun i => ?_) (fun i o ho hi => ?_) ?_ h2 (by simp)
 ·rw [List.mem_range]
  simp only [List.size_toArray,Array.getD_eq_getD_getElem?,Array.getElem?_replicate]
  constructor
  ·intro h;exact ⟨h,by simp [h]⟩
  ·exact fun h=>h.1
 ·exfalso
  have hlt:i<l.toArray.size:=by
   rcases Nat.lt_or_ge i l.toArray.size with h|h
   ·exact h
   ·rw [Array.getElem?_eq_none h] at ho;cases ho
  unfold jo at hi
  simp only [Array.getD_eq_getD_getElem?,Array.getElem?_replicate,if_pos hlt] at hi
  cases hi
 ·have:(List.range l.length).map (fun i=>l.toArray.getD i default)=l:=by
   apply List.ext_getElem
   ·simp
   ·intro i h1 h2;simp [h2]
  rw [this];exact h1
theorem Db {id:Nat} {l:List Oper} {Q:AExit→St→Prop} (hd:uT S.rcv l.toArray (fun i=>(Region.before l.toArray).getD i 0)=true) (hm:cU l.toArray (fun i=>(Region.before l.toArray).getD i 0)=true) (h:aY S l.toArray l st (Q .normal)):cw S (.region id l.toArray true) Q st:=by
 simp only [cw,if_pos]
 exact KD hd hm h
end
end Go.SL
