/- Part of the proof: SlZ, F0, F1, F6, T1, T2. -/
import Derived.Test.YtmfblbbemekkoaaGreatDoorM4
set_option linter.unusedSimpArgs false
set_option linter.unusedVariables false
namespace Go.SL
open Go
def vM (l:List (Nat × SV)) (b:List (Nat × Bx)) (nx:Nat) (kf:Nat→SV):St:=⟨nC l,gZ b,nx,kf⟩
theorem Mz {l:List (Nat × SV)} {b:List (Nat × Bx)} {nx s:Nat} {kf:Nat→SV}:(vM l b nx kf).fr s=nC l s:=rfl
theorem MV {l:List (Nat × SV)} {b:List (Nat × Bx)} {nx:Nat} {kf:Nat→SV}:(vM l b nx kf).bx=gZ b:=rfl
theorem Mm {l:List (Nat × SV)} {b:List (Nat × Bx)} {nx:Nat} {kf:Nat→SV}:(vM l b nx kf).nx=nx:=rfl
theorem Ot {l:List (Nat × SV)} {b:List (Nat × Bx)} {nx:Nat} {kf:Nat→SV}:(vM l b nx kf).kf=kf:=rfl
attribute [go_sem] Mz MV Mm Ot
section
variable {r:Nat→Option Nat} {bx bx':Nat→Option Bx} {n:Nat}
theorem Gg (hr:∀ id,id<n→r id=some id):∀ {x:CV},x.lt n→yO r bx bx' x x
 | .p x,_=>by
  cases x with
  | any=>trivial
  | _=>exact .inl rfl
 | .ptr id off,h=>⟨hr id h,rfl⟩
 | .pel id _ _ _,h=>⟨hr id h,rfl,rfl,rfl⟩
 | .own id _,h=>⟨hr id h,rfl⟩
 | .ipt _ _ _,_=>⟨rfl,rfl, .inl rfl⟩
 | .sub id _ _ _,h=>⟨hr id h,rfl,rfl,rfl⟩
 | .clo f ps,h=>⟨rfl,rfl,List.map_congr_left fun p hp=>hr p.1 (h p hp)⟩
theorem GQ (hr:∀ id,id<n→r id=some id):∀ {l:List CV},(∀ x ∈ l,CV.lt n x)→Ik r bx bx' l l
 | [],_=>trivial
 | x :: l,h=>⟨Gg hr (h x (List.mem_cons_self ..)),GQ hr fun y hy=>h y (List.mem_cons_of_mem _ hy)⟩
theorem NZ (hr:∀ id,id<n→r id=some id):∀ {x:SV},x.lt n→Be r bx bx' x x
 | .b x,h=>by
  rw [Md]
  cases x with
  | c x=>rw [LP];exact Gg hr h
  | agg l=>exact GQ hr h
 | .tup vs,h=>⟨rfl,n,h,hr⟩
 | .grd p x,h=>⟨rfl,n,h,hr⟩
 | .any,_=>by rw [xf];trivial
end
def tA (r:Nat→Option Nat):Nat→Bool
 | 0=>true
 | n+1=>r n == some n && tA r n
theorem rl {r:Nat→Option Nat}:∀ {n:Nat},tA r n=true→∀ id,id<n→r id=some id
 | n+1,h,id,hid=>by
  simp only [tA,Bool.and_eq_true,beq_iff_eq] at h
  by_cases e:id=n
  ·rw [e];exact h.1
  ·exact rl h.2 id (by omega)
theorem MD {st : St} {l : List (Nat × SV)} {b : List (Nat × Bx)} {nx : Nat} {kf : Nat → SV} (n0 : Nat) (r : List (Nat × Option Nat)) (hkf : st.kf = kf) (hkl : ∀ s, (kf s).lt n0) (hid : tA (rY r) n0 = true) (hn0 : n0 ≤ nx) (h0 : rY r 0 = some 0) (hnx : 0 < nx)
  (hinj:Bc (rY r) (b.map (·.1))=true) (hfr:xx (rY r) st (gZ b) nx l) (hb:yo (rY r) st (gZ b) nx b):Le st (vM l b nx kf):=by
 have H:=LX r h0 hnx hinj hfr hb
 obtain ⟨⟨r',h1,h2,h3,h4,h5,h6⟩,h7,h8,h9⟩:=H
 have key:∀ i,gZ b i≠none→i ∈ b.map (·.1):=fun i hi=>by
  cases hx:gZ b i with
  | none=>exact absurd hx hi
  | some x=>exact List.mem_map.2 ⟨_,iL hx,rfl⟩
 refine ⟨⟨rY r,h0,fun _=>hnx,fun i j k hi hj h1 h2=>qq hinj i j k (key i hi) (key j hj) h1 h2,fun s => ?_,fun i x hx=>(oH hb (iL hx)).1,fun s => ?_⟩,h7,h8,fun s=>SV.lt_mono hn0 (hkl s)⟩
 ·show Be _ _ _ _ (nC l s)
  rcases pI (s:=s) (l:=l) with h|h
  ·rw [h,xf];trivial
  ·exact (oP hfr h).1
 ·rw [hkf]
  exact NZ (rl hid) (hkl s)
def HJ (S:Env) (rs:List ResultVar) (X:SV) (bx':Nat→Option Bx) (nx':Nat) (kf:Nat→SV) (e:AExit) (st:St):Prop:=Wk (De S rs X bx' nx' kf e) st
theorem EJ {S:Env} {rs:List ResultVar} {X:SV} {bx':Nat→Option Bx} {nx':Nat} {kf:Nat→SV} {st:St}:HJ S rs X bx' nx' kf .ret st=Wk (mw S rs X bx' nx' kf) st:=rfl
theorem xV {S:Env} {rs:List ResultVar} {X:SV} {bx':Nat→Option Bx} {nx':Nat} {kf:Nat→SV} {st:St}:HJ S rs X bx' nx' kf .normal st=Wk (mw S rs X bx' nx' kf) st:=rfl
attribute [go_sem] EJ xV
section
variable {S:Env}
theorem IJ {f : FuncId} {fn : Func} {c : Code} {rs : List ResultVar} {args : List BV} {X : SV} {bx bx' : Nat → Option Bx} {nx nx' : Nat} (hf : S.P.funcs[f]? = some fn) (hb : fn.body = some c) (hrs : fn.results.toList = rs)
  (hname : (fn.name == "runtime.NumGoroutine") = false) (hm : S.P.follows .mixedOrders = true) (hN : cZ fn.ntmps c = true) (hlen : args.length ≤ fn.ntmps) (hl : ∀ x ∈ args, BV.lt nx x)
  (h:∀ kf:Nat→SV,(∀ s,(kf s).lt nx)→cw S c (HJ S rs X bx' nx' kf) (Ff args bx nx kf)):iV S bx nx f args X bx' nx':=by
 subst hrs
 refine ⟨⟨fn,hf,hname,by rw [hb];rfl⟩,fun E st ρ a w vs hbx hnx g hsz hden => ?_⟩
 refine calls_of_wp hf hb ?_
 subst hbx
 subst hnx
 let E2:Ent := { w0:=E.w0,ok0:=E.ok0,rx:=E.rx,N:=fn.ntmps,kp:=fun s=>if s % 2=0 then a.tmps.getD (s / 2) undef else E.kp (s / 2) }
 let kf:Nat→SV:=fun s=>if s % 2=0 then st.fr (s / 2) else st.kf (s / 2)
 have hkl:∀ s,(kf s).lt st.nx:=fun s=>by
  simp only [kf]
  split
  ·exact g.wfs _
  ·exact (g.kept _).1
 have g2:Gam S E2 (Ff args st.bx st.nx kf) ρ { tmps:=vs ++ Array.replicate (fn.ntmps - vs.size) undef,defers:=[] } w:=by
  refine ⟨rfl,by simp [E2];omega,⟨g.frm.os,g.frm.tape,g.frm.output,g.frm.size,g.frm.block,g.frm.rxb⟩,fun s => ?_,g.wfb,g.bxs,g.new,g.inj,g.rx0,fun s => ?_,g.glb,fun s => ?_⟩
  ·simp only [Ff,cD]
   split
   ·rename_i hs
    refine hl _ ?_
    rw [List.getD_eq_getElem?_getD,List.getElem?_eq_getElem (by omega)];exact List.getElem_mem _
   ·trivial
  ·simp only [Ff,cD]
   split
   ·rename_i hs
    have e:(vs ++ Array.replicate (fn.ntmps - vs.size) undef).getD s undef=vs.getD s undef:=by
     have:s<vs.size:=by omega
     simp [this]
     rw [Array.getElem?_append_left this]
     simp [this]
    rw [e]
    exact hden (s - 0)
   ·trivial
  ·show (kf s).lt st.nx∧bn ρ (bC E st.bx ρ w) w (kf s) (E2.kp s)
   simp only [kf,E2]
   split
   ·exact ⟨g.wfs _,g.slt _⟩
   ·exact g.kept _
 have fin : ∀ {a' : Act} {w' : World}, kL S E2 (mw S fn.results.toList X bx' nx' kf) a' w' → a'.defers = [] ∧ ∃ v, (results fn a'.tmps).run S.P w' = .ok v w' ∧
   ∃ v2 ρ',Ending.returned v = .returned v2∧bn ρ' (bC E bx' ρ' w') w' X v2∧X.lt nx'∧Gam S E ⟨st.fr,bx',nx',st.kf⟩ ρ' a w':=fun {a' w'} ⟨st',ρ',g',hq⟩=>by
  unfold mw at hq
  split at hq
  ·rename_i p xs hr
   obtain ⟨hp,hX,hbx',hnx',hkf,hXl⟩:=hq
   obtain ⟨vs2,hvs,hl2,hd⟩:=iF g' hr hp
   obtain ⟨v,hv1,hv2⟩:=oD hvs hl2 hd
   subst hX
   subst hnx'
   have g'':=g'.subBox bx' hbx'
   have hkk:fF (bC E2 st'.bx ρ' w') (bC E2 bx' ρ' w') w' w':=tH hbx'
   have hv3:=bn.mono hkk (fun (_:Nat) (_:_<st'.nx)=>rfl) hXl hv2
   refine ⟨g'.dfr,v,hv1,v,ρ',rfl,hv3,hXl, ?_⟩
   have hk0:∀ s,(st.fr s).lt st'.nx∧bn ρ' (bC E bx' ρ' w') w' (st.fr s) (a.tmps.getD s undef):=fun s=>by
    have:=g''.kept (2 * s)
    dsimp only at this
    rw [hkf] at this
    have e1:2 * s % 2=0:=by omega
    have e2:2 * s / 2=s:=by omega
    simp only [kf,E2,e1,e2,if_true] at this
    exact this
   have hk1:∀ s,(st.kf s).lt st'.nx∧bn ρ' (bC E bx' ρ' w') w' (st.kf s) (E.kp s):=fun s=>by
    have:=g''.kept (2 * s+1)
    dsimp only at this
    rw [hkf] at this
    have e1:¬ (2 * s+1) % 2=0:=by omega
    have e2:(2 * s+1) / 2=s:=by omega
    simp only [kf,E2,e1,e2,if_false] at this
    exact this
   exact ⟨g.dfr,g.sz,⟨g''.frm.os,g''.frm.tape,g''.frm.output,g''.frm.size,g''.frm.block,g''.frm.rxb⟩,fun s=>(hk0 s).1,g''.wfb,g''.bxs,g''.new,g''.inj,g''.rx0,fun s=>(hk0 s).2,g''.glb,hk1⟩
  ·exact hq.elim
 refine wp_mono (eA hm c hN (h kf hkl) g2) fun e a' w' hq => ?_
 cases e with
 | normal=>obtain ⟨s1,ρ1,g1,hk⟩:=hq;exact fin (Wk.nxt hk g1)
 | ret=>obtain ⟨s1,ρ1,g1,hk⟩:=hq;exact fin (Wk.nxt hk g1)
 | exit id=>obtain ⟨_,_,_,_,_,h⟩:=hq;exact h.elim
 | _=>exact hq.elim
end
end Go.SL
namespace Go.Proofs.YtmfblbbemekkoaaGreatDoor
open Go Go.SL
open Go.RowKit (wrap64)
attribute [go_sem ↓] reduceIte
attribute [go_sem] Nat.reduceEqDiff Nat.reduceAdd Nat.reduceMul Nat.reduceSub Nat.reduceMod Nat.reduceLeDiff Nat.reduceLT Nat.reduceBEq reduceCtorEq Int.reduceLT Int.reduceLE Int.reduceToNat Int.reduceEq Int.reduceAdd
attribute [go_sem] decide_true decide_false implies_true beq_true beq_false Bool.not_eq_true' decide_eq_true_eq decide_eq_false_iff_not Bool.and_eq_true not_false_eq_true forall_const imp_self and_self beq_iff_eq bne_iff_ne true_or or_true false_or or_false Nat.le_refl ne_eq Option.some.injEq TE fq Rn me CO GK PF
theorem aa {p:Prop} (h:p:=by first|assumption|omega|trivial|exact (fun h=>h)|exact (fun hg=>And.intro hg (fun h2=>And.intro hg h2))|(intro hg;refine And.intro hg ?_;(try simp only [Bool.or_eq_false_iff,Bool.not_eq_false',Bool.not_eq_true',Bool.and_eq_true,decide_eq_true_eq,decide_eq_false_iff_not] at hg);omega)):p:=h
theorem ov:(∀ (p:Prop) [Decidable p],(decide p=true)=p)∧(∀ (p:Prop) [Decidable p],(decide p=false)↔¬p)∧(∀ (α:Type) [BEq α] [LawfulBEq α] (a b:α),((a == b)=true)↔a=b)∧(∀ (α:Type) [BEq α] [LawfulBEq α] (a b:α),((a == b)=false)↔a≠b) ∧
 (∀ (α:Type) [BEq α] [LawfulBEq α] (a b:α),((a != b)=true)↔a≠b)∧(∀ (α:Type) [BEq α] [LawfulBEq α] (a b:α),((a != b)=false)↔a=b)∧(∀ (α:Type) (a b:α),(a≠b)=¬(a=b))∧(∀ b:Bool,(¬(b=true))=(b=false))∧(∀ b:Bool,(¬(b=false))=(b=true)) ∧
 ((!true)=false)∧((!false)=true)∧(∀ a b:Bool,((!a)=b)↔(a = !b))∧(∀ a b:Int,(¬ a<b)↔b≤a)∧(∀ a b:Int,(¬ a≤b)↔b<a)∧(∀ a b:Int,a>b↔b<a)∧(∀ a b:Int,a≥b↔b≤a)∧(∀ (α:Type) (b:Bool) (t e:α),(bif b then t else e)=if b=true then t else e) ∧
 (∀ (p:Prop) [Decidable p] (x:Bool),(if p then x else false)=(decide p && x))∧(∀ (p:Prop) [Decidable p] (x:Bool),(if p then true else x)=(decide p || x))∧(∀ a b:Bool,((a && b)=true)=(a=true∧b=true))∧(∀ a b:Bool,((a || b)=true)=(a=true∨b=true)) ∧
 (∀ a b:Bool,((a && b)=false)↔(a=true→b=false))∧(∀ a b:Bool,((a || b)=false)↔(a=false∧b=false))∧(∀ (p:Prop),[Decidable p]→((¬¬p)↔p))∧(∀ b:Bool,(b == true)=b)∧(∀ b:Bool,(b == false) = !b) ∧
 (∀ (p:Prop) [Decidable p] (a b:Bool),((if p then a else b)=true)=((p→a=true)∧(¬p→b=true)))∧(∀ (p:Prop) [Decidable p] (a b:Bool),((if p then a else b)=false)=((p→a=false)∧(¬p→b=false)))∧(∀ (α:Type) (a b:α),(bif true then a else b)=a)∧(∀ (α:Type) (a b:α),(bif false then a else b)=b) :=
 ⟨fun _ _=>decide_eq_true_eq,fun _ _=>decide_eq_false_iff_not,fun _ _ _ _ _=>beq_iff_eq,fun _ _ _ _ _=>beq_eq_false_iff_ne,fun _ _ _ _ _=>bne_iff_ne,fun _ _ _ _ _=>bne_eq_false_iff_eq,fun _ _ _=>ne_eq _ _,fun _=>Bool.not_eq_true _,fun _=>Bool.not_eq_false _,
 rfl,rfl,fun _ _=>Bool.not_eq_eq_eq_not,fun _ _=>Int.not_lt,fun _ _=>Int.not_le,fun _ _=>Iff.rfl,fun _ _=>Iff.rfl,fun _ b t e=>Bool.cond_eq_ite b t e,
 fun _ _ _=>Bool.if_false_right _ _,fun _ _ _=>Bool.if_true_left _ _,fun _ _=>Bool.and_eq_true _ _,fun _ _=>Bool.or_eq_true _ _,
 fun _ _=>Bool.and_eq_false_imp,fun _ _=>Bool.or_eq_false_iff,fun _ _=>Decidable.not_not,fun b=>by cases b <;> rfl,fun b=>by cases b <;> rfl,
 fun _ _ _ _=>SU,fun _ _ _ _=>RD,fun _ _ _=>rfl,fun _ _ _=>rfl⟩
theorem ca:True:=True.intro
theorem eH {α:Type} {a b:α} (h:a=b:=by (first|(simp (maxSteps:=999999)(disch:=omega) only [go_sem];rfl)|fail)):a=b:=h
theorem an {p q:Prop} (h:q) (w:q→p:=by (first|(intro h;first|exact eB h|exact HA h|exact Dm h|exact zU h|((first|refine FZ ?_|refine IG ?_|refine xU ?_);first|(simp (maxSteps:=999999)(disch:=omega) only [go_sem];exact h)|(have h0:True:=h;simp (maxSteps:=999999)(disch:=omega) only [go_sem])))|fail)):p:=w h
theorem ak {p q:Prop} (h:q) (w:q→p:=by (first|(intro h;(first|refine kr ?_|refine mB ?_);first|(simp (maxSteps:=999999)(disch:=omega) only [go_sem];exact h)|(have h0:True:=h;simp (maxSteps:=999999)(disch:=omega) only [go_sem]))|fail)):p:=w h
theorem ai {p : Prop} {c : St → Prop} {q : (St → Prop) → Prop} (h : ∀ K : St → Prop, (∀ s, c s → K s) → q K)
  (w:(∀ K:St→Prop,(∀ s,c s→K s)→q K)→p:=by (first|(intro h;(first|refine ga (fun K hK => ?_)|refine IW (fun K hK => ?_)|refine Ii (by decide +kernel) (by decide +kernel) (fun K hK => ?_)|refine HM (by decide +kernel) (by decide +kernel) (fun K hK => ?_));have h:=h K hK;(try simp (maxSteps:=999999)(disch:=omega) only [go_sem]);exact h)|fail)):p:=w h
theorem BD {vc c:Prop} {r:BV} {K:SV→Prop} {g:Bool} {nx:Nat} {p q':Prop} {q:Sl p} {s:St} (h:q') (w:q'→(r.lt nx∧(g=true→c∧vc)∧K (.grd g r)):=by (first|(intro h;first|(simp (maxSteps:=999999)(disch:=omega) only [go_sem];exact h)|exact h)|fail)):Rz (some g) nx (some (vc, .b r,s)) c (Sl.of K) q:=Fj (w h)
theorem ae {S:Env} {st:St} {f:FuncId} {args:List BV} {K:SV→St→Prop} {X:SV} {q:Prop} (h:aC S f args (fun r=>r=X)) (hk:q) (hl:gI args:=by simp (maxSteps:=999999)(disch:=omega) only [go_sem]) (w:q→K X st:=by (first|(intro h;first|(simp (maxSteps:=999999)(disch:=omega) only [go_sem];exact h)|exact h)|fail)):du S st f args (Sl.of K):=rX h hl (w hk)
theorem aD {S : Env} {st : St} {f : FuncId} {args : List BV} {X : BV} {g : Bool} {c : Prop} {d : Option Nat} {K : St → Prop} {q : Prop} (h : g = true → aC S f args (fun r => r = .b X)) (hk : q) (hl : gI args := by simp (maxSteps := 1000000) (disch := omega) only [go_sem]) (hx : X.lt st.nx := by simp (maxSteps := 1000000) (disch := omega) only [go_sem]) (hc : g = true → c := by simp (maxSteps := 1000000) (disch := omega) only [go_sem]; try omega)
  (w:q→K (st.set d (.grd g X)):=by (first|(intro h;first|(simp (maxSteps:=999999)(disch:=omega) only [go_sem];exact h)|exact h)|fail)):NP (some g) c S st f args d (Sl.of K):=Ib h hl hx hc (w hk)
theorem aW {t1 t2 q1 q2 p:Prop} (h1:t1→q1) (h2:t2→q2) (w:(t1→q1)→(t2→q2)→p:=by (first|(intro k1 k2;(first|apply wk|apply ln);(case hc=>simp (maxSteps:=999999)(disch:=omega) only [go_sem];rfl);(case h1=>first|(intro hb;simp only [ov] at hb;exact k1 hb)|(have k0:True→True:=k1;intro hb;simp only [ov] at hb;done)|(intro hb;exact k1 hb));(case h2=>first|(intro hb;simp only [ov] at hb;exact k2 hb)|(have k0:True→True:=k2;intro hb;simp only [ov] at hb;done)|(intro hb;exact k2 hb)))|fail)):p:=w h1 h2
theorem aG {p:Prop} (h:p:=by (first|(first|with_reducible exact True.intro|(exfalso;omega))|fail)):p:=h
theorem lx {S:Env} {st:St} {f:FuncId} {args:List BV} {K:SV→St→Prop} {X:SV} {q:Prop} (h:zb S f args X) (hk:q) (hl:gI args:=by simp (maxSteps:=999999)(disch:=omega) only [go_sem]) (w:q→K X st:=by (first|(intro h;first|(simp (maxSteps:=999999)(disch:=omega) only [go_sem];exact h)|exact h)|fail)):du S st f args (Sl.of K):=FU h hl (w hk)
theorem yz : (∀ n : Nat, ((n : Int)).toNat = n) ∧ ((!true) = false) ∧ ((!false) = true) ∧ (∀ b : Bool, (b && true) = b) ∧ (∀ b : Bool, (true && b) = b) ∧ (∀ b : Bool, (b && false) = false) ∧ (∀ b : Bool, (false && b) = false) ∧
  (∀ b:Bool,(b || true)=true)∧(∀ b:Bool,(true || b)=true)∧(∀ b:Bool,(b || false)=b)∧(∀ b:Bool,(false || b)=b) :=
 ⟨Int.toNat_natCast,rfl,rfl,Bool.and_true,Bool.true_and,Bool.and_false,Bool.false_and,Bool.or_true,Bool.true_or,Bool.or_false,Bool.false_or⟩
theorem aj {E p q : Prop} (e : E) (h : q) (w : E → q → p := by (first | (intro e h; first
  | ((first|apply jV|apply Gk);(case hc=>simp (maxSteps:=999999)(disch:=omega) only [go_sem];rfl);(case ht=>(simp only [yz,decide_true,decide_false,Int.reduceBEq,Int.reduceBNe,Int.reduceLT,Int.reduceLE,e];done));exact h)
  | ((first|apply nV|apply zs);(case hc=>simp (maxSteps:=999999)(disch:=omega) only [go_sem];rfl);(case ht=>(simp only [yz,decide_true,decide_false,Int.reduceBEq,Int.reduceBNe,Int.reduceLT,Int.reduceLE,e];done));exact h))|fail)):p:=w e h
theorem aA {f : FuncId} {fn : Func} {c : Code} {args : List BV} {R : SV → Prop} (hf : Sg.P.funcs[f]? = some fn) (rs : List ResultVar) (h : cw Sg c (Kv Sg rs R) (xE args)) (hb : fn.body = some c := by rfl) (hrs : fn.results.toList = rs := by rfl)
  (hname : (fn.name == "runtime.NumGoroutine") = false := by rfl) (hN : cZ fn.ntmps c = true := by decide +kernel) (hlen : args.length ≤ fn.ntmps := by exact Nat.le_of_ble_eq_true rfl) (hl : gI args := by simp (maxSteps := 1000000) (disch := omega) only [go_sem]) : aC Sg f args R := LA hf hb hrs hname dK hN hlen (ch hl) h
theorem cR {n:Nat} {st:St} (h:dW n st:=by (first|(refine And.intro (fun iw hiw=>by ((try simp (maxSteps:=999999)(disch:=omega) only [go_sem] at hiw ⊢);(repeat (first|rfl|exact if_neg (by omega)|rw [if_neg (by omega)]));done)) (by first|exact Nat.zero_le _|(simp (maxSteps:=999999)(disch:=omega) only [go_sem];done)|(simp (maxSteps:=999999)(disch:=omega) only [go_sem];omega)|decide))|fail)):dW n st:=h
theorem az {st : St} {l : List (Nat × SV)} {b : List (Nat × Bx)} {nx : Nat} (r : List (Nat × Option Nat)) {q1 q2 : Prop} (h1 : q1) (h2 : q2) (h0 : rY r 0 = some 0 := by rfl) (hnx : 0 < nx := by decide) (hinj : Bc (rY r) (b.map (·.1)) = true := by rfl)
  (w1:q1→xx (rY r) st (gZ b) nx l:=by (first|(intro h;first|(simp (maxSteps:=999999)(disch:=omega) only [go_sem];exact h)|(have h0:True:=h;simp (maxSteps:=999999)(disch:=omega) only [go_sem]))|fail)) (w2:q2→yo (rY r) st (gZ b) nx b:=by (first|(intro h;first|(simp (maxSteps:=999999)(disch:=omega) only [go_sem];exact h)|(have h0:True:=h;simp (maxSteps:=999999)(disch:=omega) only [go_sem]))|fail)):Le st (aQ l b nx):=LX r h0 hnx hinj (w1 h1) (w2 h2)
theorem hZ {st : St} {l : List (Nat × SV)} {b : List (Nat × Bx)} {nx : Nat} {kf : Nat → SV} (n0 : Nat) (r : List (Nat × Option Nat)) (hkl : ∀ s, (kf s).lt n0) {q1 q2 : Prop} (h1 : q1) (h2 : q2) (hkf : st.kf = kf := by (first | rfl | (simp (maxSteps := 1000000) (disch := omega) only [go_sem]; done) | fail)) (hid : tA (rY r) n0 = true := by rfl) (hn0 : n0 ≤ nx := by decide) (h0 : rY r 0 = some 0 := by rfl) (hnx : 0 < nx := by decide) (hinj : Bc (rY r) (b.map (·.1)) = true := by rfl)
  (w1:q1→xx (rY r) st (gZ b) nx l:=by (first|(intro h;first|(simp (maxSteps:=999999)(disch:=omega) only [go_sem];exact h)|(have h0:True:=h;simp (maxSteps:=999999)(disch:=omega) only [go_sem]))|fail)) (w2:q2→yo (rY r) st (gZ b) nx b:=by (first|(intro h;first|(simp (maxSteps:=999999)(disch:=omega) only [go_sem];exact h)|(have h0:True:=h;simp (maxSteps:=999999)(disch:=omega) only [go_sem]))|fail)):Le st (vM l b nx kf):=MD n0 r hkf hkl hid hn0 h0 hnx hinj (w1 h1) (w2 h2)
theorem ao {p:Prop} (h:p:=by first|rfl|omega|exact .inl rfl|trivial):p:=h
abbrev PI (x:Int):PV := .val (.int .i64 x)
abbrev PU (x:Int):PV := .val (.int .u16 x)
abbrev PB (x:Bool):PV := .val (.bool x)
abbrev I (x:Int):BV := .c (.p (.val (.int .i64 x)))
abbrev U (x:Int):BV := .c (.p (.val (.int .u16 x)))
abbrev B (x:Bool):BV := .c (.p (.val (.bool x)))
abbrev Cb:PV := .val (.slice none 0 0)
abbrev ag (l:List PV):BV := .agg (l.map CV.p)
structure Rect where
 x0:Int
 y0:Int
 x1:Int
 y1:Int
 deriving DecidableEq,Inhabited
structure Op where
 kind:Int
 image:Int
 x:Int
 y:Int
 mask:Int
 maskX:Int
 maskY:Int
 opacity:Int
 operator:Int
 mode:Int
 isolated:Bool
 knockout:Bool
 deriving DecidableEq,Inhabited
structure Pixel where
 c0:Int
 c1:Int
 c2:Int
 a:Int
 f:Int
 deriving DecidableEq,Inhabited
structure Plane where
 w:Int
 h:Int
 stride:Int
 s:List Int
 deriving DecidableEq,Inhabited
structure Image where
 w:Int
 h:Int
 solid:Bool
 color:Pixel
 p0:Plane
 p1:Plane
 p2:Plane
 p3:Plane
 p4:Plane
 deriving DecidableEq,Inhabited
structure Script where
 bits:Int
 canvas:Rect
 tileW:Int
 tileH:Int
 order:List Int
 images:List Image
 ops:List Op
 deriving DecidableEq,Inhabited
structure Raw where
 kind:Int
 image:Int
 x:Int
 y:Int
 mask:Int
 maskX:Int
 maskY:Int
 opacity:Int
 operator:Int
 mode:Int
 flags:Int
 deriving DecidableEq,Inhabited
structure N5 where
 a:Int
 b:Int
 c:Int
 d:Int
 e:Int
 deriving DecidableEq,Inhabited
structure Row where
 mood:Int
 l:List N5
 deriving DecidableEq,Inhabited
structure Pic where
 w:Int
 h:Int
 solid:Int
 row:Row
 deriving DecidableEq,Inhabited
structure Scene where
 bits:Int
 x:Int
 y:Int
 w:Int
 h:Int
 tileW:Int
 tileH:Int
 order:List Int
 pics:List Pic
 ops:List Raw
 deriving DecidableEq,Inhabited
def Dn (n:Int):List PV:=[PI n]
def tG (n:Int):List PV:=[PU n]
def fg (r:Rect):List PV:=[PI r.x0,PI r.y0,PI r.x1,PI r.y1]
def cT (o:Op):List PV:=[PI o.kind,PI o.image,PI o.x,PI o.y,PI o.mask,PI o.maskX,PI o.maskY,PU o.opacity,PI o.operator,PI o.mode,PB o.isolated,PB o.knockout]
def aF (p:Pixel):List PV:=[PU p.c0,PU p.c1,PU p.c2,PU p.a,PU p.f]
def dQ (l:List Int):PV := .lst 1 l.length (bj Dn l)
def jW (l:List Int):PV := .lst 1 l.length (bj tG l)
def fL (p:Plane):List PV:=[PI p.w,PI p.h,PI p.stride,jW p.s]
def aN (m:Image):List PV:=[PI m.w,PI m.h,PB m.solid,PU m.color.c0,PU m.color.c1,PU m.color.c2,PU m.color.a,PU m.color.f,
 PI m.p0.w,PI m.p0.h,PI m.p0.stride,jW m.p0.s,PI m.p1.w,PI m.p1.h,PI m.p1.stride,jW m.p1.s,PI m.p2.w,PI m.p2.h,PI m.p2.stride,jW m.p2.s,
 PI m.p3.w,PI m.p3.h,PI m.p3.stride,jW m.p3.s,PI m.p4.w,PI m.p4.h,PI m.p4.stride,jW m.p4.s]
def ma (l:List Op):PV := .lst 12 l.length (bj cT l)
def sC (l:List Image):PV := .lst 28 l.length (bj aN l)
def Bz (l:List Pixel):PV := .lst 5 l.length (bj aF l)
def aE (s:Script):List PV:=[PI s.bits,PI s.canvas.x0,PI s.canvas.y0,PI s.canvas.x1,PI s.canvas.y1,PI s.tileW,PI s.tileH,dQ s.order,sC s.images,ma s.ops]
def za (r:Raw):List PV:=[PI r.kind,PI r.image,PI r.x,PI r.y,PI r.mask,PI r.maskX,PI r.maskY,PI r.opacity,PI r.operator,PI r.mode,PI r.flags]
def RA (n:N5):List PV:=[PI n.a,PI n.b,PI n.c,PI n.d,PI n.e]
def Ry (l:List N5):PV := .lst 5 l.length (bj RA l)
def JT (r:Row):List PV:=[PI r.mood,Ry r.l]
def FS (p:Pic):List PV:=[PI p.w,PI p.h,PI p.solid,PI p.row.mood,Ry p.row.l]
def Na (l:List Pic):PV := .lst 5 l.length (bj FS l)
def MJ (l:List Raw):PV := .lst 11 l.length (bj za l)
def dk (s:Scene):List PV:=[PI s.bits,PI s.x,PI s.y,PI s.w,PI s.h,PI s.tileW,PI s.tileH,dQ s.order,Na s.pics,MJ s.ops]
attribute [go_sem] Dn tG fg cT aF dQ jW fL aN ma sC Bz aE za RA Ry JT FS Na MJ dk
def i64 (n:Int):Prop := -9223372036854775808≤n∧n≤9223372036854775807
def u16 (n:Int):Prop:=0≤n∧n≤65535
end Go.Proofs.YtmfblbbemekkoaaGreatDoor
set_option maxRecDepth 16000
namespace Go.Proofs.YtmfblbbemekkoaaGreatDoor
open Go Go.SL
open Go.RowKit (wrap64)
def iJ (n k:Int):Int:=if k<1 then 0 else n % k
theorem HE (n k:Int):(n.tmod k+k) % k=n % k:=by
 rw [Int.add_emod_right,Int.tmod_def,Int.sub_mul_emod_self_left]
theorem mK (n k : Int) (hk : k ≤ 4611686018427387904) :
  aC Sg 17 [I n,I k] (fun r=>r = .b (I (iJ n k))):=by
 refine aA Tryz.func17 [.tmp 4] ?_
 repeat first|refine an ?_|((first|refine ai (fun K hK => ?_));and_intros;(all_goals first|(refine hK _ ?_;clear hK K)|exact aa|skip))|fail
 refine wk (t := ?tt) ?hc ?h1 ?h2
 case hc=>simp (maxSteps:=999999)(disch:=omega) only [go_sem];rfl
 case h1 =>
  intro hb
  try simp only [decide_eq_true_eq,decide_eq_false_iff_not,beq_iff_eq,beq_eq_false_iff_ne,bne_iff_ne,bne_eq_false_iff_eq,ne_eq,Bool.not_eq_true,Bool.not_eq_false,Bool.not_true,Bool.not_false,Bool.not_eq_eq_eq_not,Int.not_lt,Int.not_le,gt_iff_lt,ge_iff_le,Bool.cond_eq_ite,Bool.if_false_right,Bool.if_true_left,Bool.and_eq_true,Bool.or_eq_true,Bool.and_eq_false_imp,Bool.or_eq_false_iff,Decidable.not_not] at hb
  repeat first|refine an ?_|((first|refine ai (fun K hK => ?_));and_intros;(all_goals first|(refine hK _ ?_;clear hK K)|exact aa|skip))|fail
  first|refine kr ?_|refine mB ?_
  simp (maxSteps:=999999)(disch:=omega) only [go_sem]
  simp only [iJ,if_pos hb]
 case h2 =>
  intro hb
  try simp only [decide_eq_true_eq,decide_eq_false_iff_not,beq_iff_eq,beq_eq_false_iff_ne,bne_iff_ne,bne_eq_false_iff_eq,ne_eq,Bool.not_eq_true,Bool.not_eq_false,Bool.not_true,Bool.not_false,Bool.not_eq_eq_eq_not,Int.not_lt,Int.not_le,gt_iff_lt,ge_iff_le,Bool.cond_eq_ite,Bool.if_false_right,Bool.if_true_left,Bool.and_eq_true,Bool.or_eq_true,Bool.and_eq_false_imp,Bool.or_eq_false_iff,Decidable.not_not] at hb
  have hm1:=Int.tmod_lt_of_pos n (show 0<k by omega)
  have hm2:=Int.lt_tmod_of_pos n (show 0<k by omega)
  repeat first|refine an ?_|((first|refine ai (fun K hK => ?_));and_intros;(all_goals first|(refine hK _ ?_;clear hK K)|exact aa|skip))|fail
  first|refine kr ?_|refine mB ?_
  simp (maxSteps:=999999)(disch:=omega) only [go_sem]
  rw [iJ,if_neg (by omega),HE n k]
theorem bN (n k : Int) (hk1 : 1 ≤ k) (hk : k ≤ 4611686018427387904) :
  aC Sg 17 [I n,I k] (fun r=>r = .b (I (n % k))):=by
 have h:=mK n k hk
 rwa [iJ,if_neg (by omega)] at h
def zt (l:List Int) (i:Int):Int:=if i<0∨(l.length:Int)≤i then 0 else l.getD i.toNat 0
theorem Jj (l : List Int) (i : Int) :
  aC Sg 82 [.c (.p (dQ l)),I i] (fun r=>r = .b (I (zt l i))):=by
 refine aA Tryz.func82 [.tmp 4] ?_
 repeat first|refine an ?_|((first|refine ai (fun K hK => ?_));and_intros;(all_goals first|(refine hK _ ?_;clear hK K)|exact aa|skip))|fail
 refine wk (t := ?tt) ?hc ?h1 ?h2
 case hc=>simp (maxSteps:=999999)(disch:=omega) only [go_sem];rfl
 case h1 =>
  intro hb
  try simp only [decide_eq_true_eq,decide_eq_false_iff_not,beq_iff_eq,beq_eq_false_iff_ne,bne_iff_ne,bne_eq_false_iff_eq,ne_eq,Bool.not_eq_true,Bool.not_eq_false,Bool.not_true,Bool.not_false,Bool.not_eq_eq_eq_not,Int.not_lt,Int.not_le,gt_iff_lt,ge_iff_le,Bool.cond_eq_ite,Bool.if_false_right,Bool.if_true_left,Bool.and_eq_true,Bool.or_eq_true,Bool.and_eq_false_imp,Bool.or_eq_false_iff,Decidable.not_not] at hb
  repeat first|refine an ?_|((first|refine ai (fun K hK => ?_));and_intros;(all_goals first|(refine hK _ ?_;clear hK K)|exact aa|skip))|fail
  first|refine kr ?_|refine mB ?_
  simp (maxSteps:=999999)(disch:=omega) only [go_sem]
  rw [zt,if_pos hb]
 case h2 =>
  intro hb
  try simp only [decide_eq_true_eq,decide_eq_false_iff_not,beq_iff_eq,beq_eq_false_iff_ne,bne_iff_ne,bne_eq_false_iff_eq,ne_eq,Bool.not_eq_true,Bool.not_eq_false,Bool.not_true,Bool.not_false,Bool.not_eq_eq_eq_not,Int.not_lt,Int.not_le,gt_iff_lt,ge_iff_le,Bool.cond_eq_ite,Bool.if_false_right,Bool.if_true_left,Bool.and_eq_true,Bool.or_eq_true,Bool.and_eq_false_imp,Bool.or_eq_false_iff,Decidable.not_not] at hb
  repeat first|refine an ?_|((first|refine ai (fun K hK => ?_));and_intros;(all_goals first|(refine hK _ ?_;clear hK K)|exact aa|skip))|fail
  first|refine kr ?_|refine mB ?_
  simp (maxSteps:=999999)(disch:=omega) only [go_sem]
  rw [zt,if_neg (by omega)];rfl
def bO (n:Int):Int:=if n % 3=2 then 65535 else 255
theorem Au (n : Int) :
  aC Sg 52 [I n] (fun r=>r = .b (U (bO n))):=by
 refine aA Tryz.func52 [.tmp 2] ?_
 repeat first|refine an ?_|((first|refine ai (fun K hK => ?_));and_intros;(all_goals first|(refine hK _ ?_;clear hK K)|exact aa|skip))|fail
 refine rX (mK n 3 (by omega)) (by simp (maxSteps:=999999)(disch:=omega) only [go_sem]) ?_
 try simp (maxSteps:=999999)(disch:=omega) only [go_sem]
 and_intros
 all_goals first|(refine hK _ ?_;clear hK K)|exact aa|skip
 refine wk (t := ?tt) ?hc ?h1 ?h2
 case hc=>simp (maxSteps:=999999)(disch:=omega) only [go_sem];rfl
 case h1 =>
  intro hb
  try simp only [decide_eq_true_eq,decide_eq_false_iff_not,beq_iff_eq,beq_eq_false_iff_ne,bne_iff_ne,bne_eq_false_iff_eq,ne_eq,Bool.not_eq_true,Bool.not_eq_false,Bool.not_true,Bool.not_false,Bool.not_eq_eq_eq_not,Int.not_lt,Int.not_le,gt_iff_lt,ge_iff_le,Bool.cond_eq_ite,Bool.if_false_right,Bool.if_true_left,Bool.and_eq_true,Bool.or_eq_true,Bool.and_eq_false_imp,Bool.or_eq_false_iff,Decidable.not_not] at hb
  repeat first|refine an ?_|((first|refine ai (fun K hK => ?_));and_intros;(all_goals first|(refine hK _ ?_;clear hK K)|exact aa|skip))|fail
  first|refine kr ?_|refine mB ?_
  simp (maxSteps:=999999)(disch:=omega) only [go_sem]
  simp [bO,iJ] at hb ⊢
  omega
 case h2 =>
  intro hb
  try simp only [decide_eq_true_eq,decide_eq_false_iff_not,beq_iff_eq,beq_eq_false_iff_ne,bne_iff_ne,bne_eq_false_iff_eq,ne_eq,Bool.not_eq_true,Bool.not_eq_false,Bool.not_true,Bool.not_false,Bool.not_eq_eq_eq_not,Int.not_lt,Int.not_le,gt_iff_lt,ge_iff_le,Bool.cond_eq_ite,Bool.if_false_right,Bool.if_true_left,Bool.and_eq_true,Bool.or_eq_true,Bool.and_eq_false_imp,Bool.or_eq_false_iff,Decidable.not_not] at hb
  repeat first|refine an ?_|((first|refine ai (fun K hK => ?_));and_intros;(all_goals first|(refine hK _ ?_;clear hK K)|exact aa|skip))|fail
  first|refine kr ?_|refine mB ?_
  simp (maxSteps:=999999)(disch:=omega) only [go_sem]
  simp [bO,iJ] at hb ⊢
  omega
end Go.Proofs.YtmfblbbemekkoaaGreatDoor
set_option maxHeartbeats 1000000
set_option maxRecDepth 16000
namespace Go.Proofs.YtmfblbbemekkoaaGreatDoor
open Go Go.SL
open Go.RowKit (wrap64)
theorem ej {a b:Bool} (h:a=true↔b=true):SV.b (B a)=SV.b (B b):=by rw [Bool.eq_iff_iff.2 h]
def mA (r:Rect):Bool:=decide (-1073741824≤r.x0∧r.x0≤1073741824 ∧ -1073741824≤r.y0∧r.y0≤1073741824 ∧ -1073741824≤r.x1∧r.x1≤1073741824 ∧ -1073741824≤r.y1∧r.y1≤1073741824)
def bZ (r:Rect):Bool := !mA r || decide (r.x1≤r.x0∨r.y1≤r.y0)
def gq (r:Rect):Rect:=if bZ r=true then ⟨0,0,0,0⟩ else r
def gL (r:Rect):Int:=if bZ r=true then 0 else (r.x1 - r.x0) * (r.y1 - r.y0)
theorem vl (r:Rect):aC Sg 120 [ag (fg r)] (fun x=>x = .b (B (mA r))):=by
 refine aA Tryz.func120 [.tmp 2] ?_
 repeat' (first|(refine ai (fun K hK => ?_);and_intros;(all_goals first|(refine hK _ ?_;clear hK K)|exact aa|skip))|(refine ak ?_;(try clear hB KB);(try clear hK K)))
 refine ej ?_
 (try simp only [mA,Bool.and_eq_true,Bool.or_eq_true,Bool.not_eq_true',Bool.not_eq_false',decide_eq_true_eq,decide_eq_false_iff_not,ge_iff_le,gt_iff_lt,beq_iff_eq,bne_iff_ne,ne_eq,Bool.or_eq_false_iff,Bool.and_eq_false_imp,Bool.not_true,Bool.not_false])
 try omega
theorem fS (r:Rect):aC Sg 68 [ag (fg r)] (fun x=>x = .b (B (bZ r))):=by
 refine aA Tryz.func68 [.tmp 2] ?_
 repeat' (first|((first|refine ai (fun K hK => ?_)|refine ae (vl _) ?_);and_intros;(all_goals first|(refine hK _ ?_;clear hK K)|exact aa|skip))|(refine ak ?_;(try clear hB KB);(try clear hK K)))
 refine ej ?_
 simp only [bZ,Bool.or_eq_true,decide_eq_true_eq,ge_iff_le,or_assoc]
theorem nK (r:Rect):aC Sg 69 [ag (fg r)] (fun x=>x = .b (ag (fg (gq r)))):=by
 refine aA Tryz.func69 [.cell 2 33] ?_
 repeat' (first|refine an ?_|((first|refine ai (fun K hK => ?_)|refine ae (fS _) ?_);and_intros;(all_goals first|(refine hK _ ?_;clear hK K)|exact aa|skip))|(refine aW (fun hb => ?_) (fun hb => ?_);all_goals try exact aG)|(refine ak ?_;(try clear hB KB);(try clear hK K)))
 ·rw [gq,if_pos hb];rfl
 ·rw [gq,if_neg (by simp [hb])];rfl
theorem fH {r:Rect} (h:¬ bZ r=true) : -1073741824≤r.x0∧r.x0<r.x1∧r.x1≤1073741824 ∧ -1073741824≤r.y0∧r.y0<r.y1∧r.y1≤1073741824:=by
 simp only [bZ,mA,Bool.or_eq_true,Bool.not_eq_true',decide_eq_true_eq,decide_eq_false_iff_not] at h
 omega
theorem vJ (r:Rect):IntKind.i64.wrap (IntKind.i64.wrap ((gq r).x1 - (gq r).x0) * IntKind.i64.wrap ((gq r).y1 - (gq r).y0))=gL r:=by
 by_cases h:bZ r=true
 ·simp only [gq,gL,if_pos h];decide
 ·simp only [gq,gL,if_neg h]
  have hb:=fH h
  rw [fq (n:=r.x1 - r.x0) (by omega) (by omega),fq (n:=r.y1 - r.y0) (by omega) (by omega)]
  have h1:(r.x1 - r.x0) * (r.y1 - r.y0)≤2147483648 * 2147483648:=Int.mul_le_mul (by omega) (by omega) (by omega) (by omega)
  have h2:0≤(r.x1 - r.x0) * (r.y1 - r.y0):=Int.mul_nonneg (by omega) (by omega)
  exact fq (by omega) (by omega)
theorem xd (r:Rect):aC Sg 155 [ag (fg r)] (fun x=>x = .b (I (gL r))):=by
 refine aA Tryz.func155 [.tmp 2] ?_
 repeat' (first|((first|refine ai (fun K hK => ?_)|refine ae (nK _) ?_);and_intros;(all_goals first|(refine hK _ ?_;clear hK K)|exact aa|skip))|(refine ak ?_;(try clear hB KB);(try clear hK K)))
 rw [vJ]
def cl (w h:Int):Bool:=decide (1≤w∧1≤h∧w≤16777216∧h≤16777216 / w)
theorem gS (w h:Int):aC Sg 73 [I w,I h] (fun x=>x = .b (B (cl w h))):=by
 refine aA Tryz.func73 [.tmp 4] ?_
 repeat' (first|(refine ai (fun K hK => ?_);and_intros;(all_goals first|(refine hK _ ?_;clear hK K)|exact aa|skip))|(refine ak ?_;(try clear hB KB);(try clear hK K)))
 refine ej ?_
 by_cases hw:1≤w
 ·have h1:0≤16777216 / w:=Int.ediv_nonneg (by omega) (by omega)
  have h2:16777216 / w≤16777216:=Int.ediv_le_self _ (by omega)
  rw [fq (by omega) (by omega)]
  simp only [cl,Bool.and_eq_true,decide_eq_true_eq,ge_iff_le,and_assoc]
 ·simp [cl,hw]
theorem fC (b:Int):aC Sg 103 [I b] (fun x=>x = .tup [U (if b=8 then 255 else if b=16 then 65535 else 0),B (decide (b=8∨b=16))]):=by
 refine aA Tryz.func103 [.tmp 2, .tmp 3] ?_
 repeat' (first|refine an ?_|(refine ai (fun K hK => ?_);and_intros;(all_goals first|(refine hK _ ?_;clear hK K)|exact aa|skip))|(refine aW (fun hb => ?_) (fun hb => ?_);all_goals try exact aG)|(refine ak ?_;(try clear hB KB);(try clear hK K)))
 ·subst hb;rfl
 ·subst hb;rfl
 ·rw [if_neg (by assumption),if_neg (by assumption),decide_eq_false (by omega)]
theorem fy (b:Int):aC Sg 25 [I b] (fun x=>x = .tup [U (if b=8 then 255 else if b=16 then 65535 else 0),B (decide (b=8∨b=16))]):=by
 refine aA Tryz.func25 [.tmp 2, .tmp 3] ?_
 repeat' (first|refine an ?_|(refine ai (fun K hK => ?_);and_intros;(all_goals first|(refine hK _ ?_;clear hK K)|exact aa|skip))|(refine aW (fun hb => ?_) (fun hb => ?_);all_goals try exact aG)|(refine ak ?_;(try clear hB KB);(try clear hK K)))
 ·subst hb;rfl
 ·subst hb;rfl
 ·rw [if_neg (by assumption),if_neg (by assumption),decide_eq_false (by omega)]
theorem zp (m:Int):aC Sg 214 [I m] (fun x=>x = .b (B (decide (1≤m∧m≤12)))):=by
 refine aA Tryz.func214 [.tmp 2] ?_
 repeat' (first|(refine ai (fun K hK => ?_);and_intros;(all_goals first|(refine hK _ ?_;clear hK K)|exact aa|skip))|(refine ak ?_;(try clear hB KB);(try clear hK K)))
 refine ej ?_
 (try simp only [Bool.and_eq_true,Bool.or_eq_true,Bool.not_eq_true',Bool.not_eq_false',decide_eq_true_eq,decide_eq_false_iff_not,ge_iff_le,gt_iff_lt,beq_iff_eq,bne_iff_ne,ne_eq,Bool.or_eq_false_iff,Bool.and_eq_false_imp,Bool.not_true,Bool.not_false])
 try omega
theorem sJ (n:Int):aC Sg 156 [I n] (fun x=>x = .b (B (decide (n < -1048576∨1048576<n)))):=by
 refine aA Tryz.func156 [.tmp 2] ?_
 repeat' (first|(refine ai (fun K hK => ?_);and_intros;(all_goals first|(refine hK _ ?_;clear hK K)|exact aa|skip))|(refine ak ?_;(try clear hB KB);(try clear hK K)))
 refine ej ?_
 (try simp only [Bool.and_eq_true,Bool.or_eq_true,Bool.not_eq_true',Bool.not_eq_false',decide_eq_true_eq,decide_eq_false_iff_not,ge_iff_le,gt_iff_lt,beq_iff_eq,bne_iff_ne,ne_eq,Bool.or_eq_false_iff,Bool.and_eq_false_imp,Bool.not_true,Bool.not_false])
 try omega
theorem ob (w h:Int) (p:Pixel):aC Sg 54 [I w,I h,ag (aF p)] (fun x=>x = .b (ag (aN ⟨w,h,true,p,⟨0,0,0,[]⟩,⟨0,0,0,[]⟩,⟨0,0,0,[]⟩,⟨0,0,0,[]⟩,⟨0,0,0,[]⟩⟩))):=by
 refine ix ?_
 refine aA Tryz.func54 [.cell 6 47] ?_
 repeat' (first|(refine ai (fun K hK => ?_);and_intros;(all_goals first|(refine hK _ ?_;clear hK K)|exact aa|skip))|(refine ak ?_;(try clear hB KB);(try clear hK K)))
 refine Df (yv ?_)
 simp only [List.map_cons,List.map_nil,ns,tn]
 and_intros
 all_goals first|exact .inl rfl|exact .inl trivial|exact .inr iU|trivial|skip
end Go.Proofs.YtmfblbbemekkoaaGreatDoor
namespace Go.Proofs.YtmfblbbemekkoaaGreatDoor
def bL (n d:Int):Int:=if d=0 then 0 else if n % d≥d - n % d then n / d+1 else n / d
theorem nc {n d:Int} (hd:0<d):2 * (d * bL n d)≤2 * n+d∧2 * n<2 * (d * bL n d)+d:=by
 have h1:=Int.mul_ediv_add_emod n d
 have h2:=Int.emod_nonneg n (show d≠0 by omega)
 have h3:=Int.emod_lt_of_pos n hd
 unfold bL
 rw [if_neg (by omega)]
 split
 ·rw [Int.mul_add,Int.mul_one];omega
 ·omega
theorem qO {n d k:Int} (hd:0<d) (h1:2 * (d * k)≤2 * n+d) (h2:2 * n<2 * (d * k)+d):bL n d=k:=by
 obtain ⟨a1,a2⟩:=nc (n:=n) hd
 rcases Int.lt_trichotomy (bL n d) k with h|h|h
 ·have:=Int.mul_le_mul_of_nonneg_left (show bL n d+1≤k by omega) (Int.le_of_lt hd)
  rw [Int.mul_add,Int.mul_one] at this;omega
 ·exact h
 ·have:=Int.mul_le_mul_of_nonneg_left (show k+1≤bL n d by omega) (Int.le_of_lt hd)
  rw [Int.mul_add,Int.mul_one] at this;omega
theorem il {n n' d:Int} (hd:0<d) (h:n≤n'):bL n d≤bL n' d:=by
 obtain ⟨a1,a2⟩:=nc (n:=n) hd
 obtain ⟨b1,b2⟩:=nc (n:=n') hd
 refine Int.not_lt.1 fun q => ?_
 have:=Int.mul_le_mul_of_nonneg_left (show bL n' d+1≤bL n d by omega) (Int.le_of_lt hd)
 rw [Int.mul_add,Int.mul_one] at this;omega
theorem tV {d k:Int} (hd:0<d):bL (d * k) d=k:=qO hd (by omega) (by omega)
theorem wP {d:Int} (hd:0<d):bL 0 d=0:=by
 unfold bL
 split
 ·rfl
 ·rw [Int.zero_emod,Int.zero_ediv,if_neg (by omega)]
theorem de {n d:Int} (hd:0<d) (h:0≤n):0≤bL n d:=by
 have:=il hd h
 rwa [wP hd] at this
theorem po {n d k:Int} (hd:0<d) (h:n≤d * k):bL n d≤k:=by
 have:=il hd h
 rwa [tV hd] at this
structure Ex where
 p:Int
 q:Int
 r:Int
 d:Int
 deriving DecidableEq,Inhabited
def nD (x:Ex) (t n:Int):Bool:=decide (n * x.d≤t * x.p∨(n * x.d - t * x.p) * (n * x.d - t * x.p)≤t * x.q * (t * x.q) * x.r)
theorem jZ {a b:Int} (ha:0≤a) (h:a≤b):a * a≤b * b:=Int.mul_le_mul h h ha (by omega)
theorem PX {a b:Int} (hb:0≤b) (h:a * a≤b * b):a≤b:=by
 refine Int.not_lt.1 fun q => ?_
 have h1:=Int.mul_lt_mul_of_pos_left q (show 0<a by omega)
 have h2:=Int.mul_le_mul_of_nonneg_right (Int.le_of_lt q) hb
 omega
theorem oJ {x:Ex} {t n n':Int} (hd:0≤x.d) (h:nD x t n'=true) (hn:n≤n'):nD x t n=true:=by
 simp only [nD,decide_eq_true_eq] at *
 have hm:=Int.mul_le_mul_of_nonneg_right hn hd
 rcases h with h|h
 ·exact .inl (by omega)
 ·rcases Int.le_total (n * x.d) (t * x.p) with q|q
  ·exact .inl q
  ·exact .inr (Int.le_trans (jZ (by omega) (by omega)) h)
def sK (t:Int→Bool):Nat→Int→Int
 | 0,n=>n
 | i+1,n=>sK t i (if t (n+2 ^ i)=true then n+2 ^ i else n)
theorem tD {t:Int→Bool} (hm:∀ a b,a≤b→t b=true→t a=true):∀ (i:Nat) (n:Int),t n=true→t (n+2 ^ i)=false→t (sK t i n)=true∧t (sK t i n+1)=false∧n≤sK t i n∧sK t i n<n+2 ^ i
 | 0,n,h1,h2=>⟨h1,h2,Int.le_refl _,by show n<n+2 ^ 0;rw [show (2:Int) ^ 0=1 from rfl];omega⟩
 | i+1,n,h1,h2=>by
  have e:(2:Int) ^ (i+1)=2 ^ i+2 ^ i:=by rw [Int.pow_succ];omega
  have hp:(0:Int)<2 ^ i:=Int.pow_pos (by decide)
  rw [e] at h2 ⊢
  rw [show sK t (i+1) n=sK t i (if t (n+2 ^ i)=true then n+2 ^ i else n) from rfl]
  split
  ·rename_i h
   have:=tD hm i _ h (by rw [show n+2 ^ i+2 ^ i=n+(2 ^ i+2 ^ i) by omega];exact h2)
   exact ⟨this.1,this.2.1,by omega,by omega⟩
  ·rename_i h
   have:=tD hm i _ h1 (by simpa using h)
   exact ⟨this.1,this.2.1,by omega,by omega⟩
def cg (x:Ex):Int:=sK (nD x 1) 63 0
def hx (x:Ex):Int:=if nD x 2 (2 * cg x+1)=true then cg x+1 else cg x
structure ExOk (x:Ex):Prop where
 p0:0≤x.p
 p1:x.p<79228162514264337593543950336
 q0:0≤x.q
 q1:x.q<70368744177664
 r0:0≤x.r
 r1:x.r<8589934592
 d0:1≤x.d
 d1:x.d<18446744073709551616
 b:nD x 1 4611686018427387904=false
theorem gB {x:Ex} (h:ExOk x):nD x 1 (cg x)=true∧nD x 1 (cg x+1)=false∧0≤cg x∧cg x<4611686018427387904:=by
 have hm:∀ a b,a≤b→nD x 1 b=true→nD x 1 a=true:=fun a b hab hb=>oJ (by have:=h.d0;omega) hb hab
 have h0:nD x 1 0=true:=by
  have:=h.p0
  simp only [nD,decide_eq_true_eq];omega
 have h63:nD x 1 (0+2 ^ 63)=false:=by
  rw [← Bool.not_eq_true]
  intro q
  have:=hm 4611686018427387904 _ (by decide) q
  rw [h.b] at this;cases this
 obtain ⟨a,b,c,d⟩:=tD hm _ _ h0 h63
 refine ⟨a,b,c,Int.not_le.1 fun q => ?_⟩
 have:=hm _ _ q a
 rw [h.b] at this;cases this
theorem lz {x:Ex} (h:ExOk x):nD x 2 (2 * hx x - 1)=true∧nD x 2 (2 * hx x+1)=false∧0≤hx x:=by
 obtain ⟨h1,h2,h3,h4⟩:=gB h
 have hd:=h.d0
 have dbl:∀ n,nD x 1 n=nD x 2 (2 * n):=fun n=>by
  simp only [nD]
  congr 1
  refine propext ⟨fun q => ?_,fun q => ?_⟩
  ·rcases q with q|q
   ·exact .inl (by rw [Int.mul_assoc];omega)
   ·refine .inr ?_
    have e1:(2 * n * x.d - 2 * x.p)=2 * (n * x.d - 1 * x.p):=by rw [Int.mul_assoc];omega
    rw [e1]
    generalize n * x.d - 1 * x.p=u at *
    simp only [Int.one_mul] at q
    have e2:2 * u * (2 * u)=4 * (u * u):=by grind
    have e3:2 * x.q * (2 * x.q) * x.r=4 * (x.q * x.q * x.r):=by grind
    omega
  ·rcases q with q|q
   ·exact .inl (by rw [Int.mul_assoc] at q;omega)
   ·refine .inr ?_
    have e1:(2 * n * x.d - 2 * x.p)=2 * (n * x.d - 1 * x.p):=by rw [Int.mul_assoc];omega
    rw [e1] at q
    generalize n * x.d - 1 * x.p=u at *
    simp only [Int.one_mul]
    have e2:2 * u * (2 * u)=4 * (u * u):=by grind
    have e3:2 * x.q * (2 * x.q) * x.r=4 * (x.q * x.q * x.r):=by grind
    omega
 rw [dbl] at h1 h2
 unfold hx
 split
 ·rename_i h5
  refine ⟨by rw [show 2 * (cg x+1) - 1=2 * cg x+1 by omega];exact h5, ?_,by omega⟩
  rw [← Bool.not_eq_true]
  intro q
  have:=oJ (by omega) q (show 2 * (cg x+1)≤2 * (cg x+1)+1 by omega)
  rw [h2] at this;cases this
 ·rename_i h5
  exact ⟨oJ (by omega) h1 (by omega),by simpa using h5,h3⟩
theorem LZ {x:Ex} {n m:Int} (h:ExOk x) (hm:0<m) (h1:x.p * m≤n * x.d) (h2:x.q * x.q * x.r * (m * m)≤(n * x.d - x.p * m) * (n * x.d - x.p * m)):hx x≤bL n m:=by
 obtain ⟨a1,_,a3⟩:=lz h
 obtain ⟨b1,b2⟩:=nc (n:=n) hm
 have hd:=h.d0
 have key:(2 * hx x - 1) * m≤2 * n:=by
  simp only [nD,decide_eq_true_eq] at a1
  generalize hx x=k at *
  have dm:(2 * k - 1) * m * x.d≤2 * n * x.d:=by
   rcases a1 with a1|a1
   ·have:=Int.mul_le_mul_of_nonneg_right a1 (Int.le_of_lt hm)
    grind
   ·have e1:((2 * k - 1) * x.d - 2 * x.p) * m * (((2 * k - 1) * x.d - 2 * x.p) * m)=((2 * k - 1) * x.d - 2 * x.p) * ((2 * k - 1) * x.d - 2 * x.p) * (m * m):=by grind
    have e2:=Int.mul_le_mul_of_nonneg_right a1 (Int.le_of_lt (Int.mul_pos hm hm))
    have e3:2 * (n * x.d - x.p * m) * (2 * (n * x.d - x.p * m))=4 * ((n * x.d - x.p * m) * (n * x.d - x.p * m)):=by grind
    have e4:2 * x.q * (2 * x.q) * x.r * (m * m)=4 * (x.q * x.q * x.r * (m * m)):=by grind
    have e5:=PX (a:=((2 * k - 1) * x.d - 2 * x.p) * m) (b:=2 * (n * x.d - x.p * m)) (by omega) (by omega)
    grind
  exact Int.le_of_mul_le_mul_right dm (by omega)
 refine Int.not_lt.1 fun q => ?_
 have:=Int.mul_le_mul_of_nonneg_left (show bL n m+1≤hx x by omega) (Int.le_of_lt hm)
 rw [Int.mul_add,Int.mul_one] at this
 have e:(2 * hx x - 1) * m=2 * (m * hx x) - m:=by grind
 omega
end Go.Proofs.YtmfblbbemekkoaaGreatDoor
namespace Go.Proofs.YtmfblbbemekkoaaGreatDoor
def jL (s a d b:Int):Int:=if 2 * s≤a then 2 * s * d else a * b - 2 * (b - d) * (a - s)
def kS (s a d b:Int):Ex :=
 if b=0 then ⟨0,0,0,1⟩ else if 2 * s≤a then ⟨d * a * b - (a - 2 * s) * d * (b - d),0,0,b⟩
 else if 4 * d≤b then ⟨d * a * (b * b)+(2 * s - a) * d * (16 * d * d+3 * b * b - 12 * d * b),0,0,b * b⟩ else ⟨2 * d * (a - s),2 * s - a,d * b,1⟩
def lU (s a d b:Int):Ex:=if d=0 then ⟨0,0,0,1⟩ else if b * (a - s)≤d * a then ⟨a * b,0,0,1⟩ else ⟨a * a * d,0,0,a - s⟩
def oE (s a d b:Int):Ex:=if d=b then ⟨a * b,0,0,1⟩ else if s * b≤(b - d) * a then ⟨0,0,0,1⟩ else ⟨a * b * s - (b - d) * a * a,0,0,s⟩
def aZ (mode s a d b:Int):Ex :=
 if mode=1 then ⟨s * b,0,0,1⟩ else if mode=2 then ⟨s * d,0,0,1⟩ else if mode=3 then ⟨s * b+d * a - s * d,0,0,1⟩
 else if mode=4 then ⟨jL d b s a,0,0,1⟩ else if mode=5 then ⟨min (s * b) (d * a),0,0,1⟩ else if mode=6 then ⟨max (s * b) (d * a),0,0,1⟩
 else if mode=7 then lU s a d b else if mode=8 then oE s a d b else if mode=9 then ⟨jL s a d b,0,0,1⟩ else if mode=10 then kS s a d b
 else if mode=11 then ⟨max (s * b) (d * a) - min (s * b) (d * a),0,0,1⟩ else ⟨s * b+d * a - 2 * s * d,0,0,1⟩
def iT (op a b m:Int):Int :=
 if op=2∨op=4 then m else if op=5∨op=8∨op=11∨op=12 then m - b else if op=6∨op=10 then b else 0
def kE (op a b m:Int):Int :=
 if op=3∨op=5 then m else if op=4∨op=9∨op=10∨op=12 then m - a else if op=7∨op=11 then a else 0
def dB (op mode m cs sl cb ab:Int):Ex :=
 ⟨(aZ mode cs sl cb ab).p * iT op sl ab m+(m - ab) * cs * iT op sl ab m * (aZ mode cs sl cb ab).d+kE op sl ab m * cb * m * (aZ mode cs sl cb ab).d,
  iT op sl ab m * (aZ mode cs sl cb ab).q,(aZ mode cs sl cb ab).r,m * m * (aZ mode cs sl cb ab).d⟩
def dL (op mode m cs sl cb ab:Int):Int:=hx (dB op mode m cs sl cb ab)
def dj (op a b m:Int):Int:=bL (iT op a b m * a+kE op a b m * b) m
def en (op f g m:Int):Int :=
 if op=2∨op=8∨op=11 then f else if op=3∨op=9∨op=10 then g else if op=4∨op=5∨op=12 then bL (m * f+(m - f) * g) m
 else if op=6∨op=7 then bL (f * g) m else 0
def ey (mode m cs sl fs c cb ab:Int):Ex :=
 ⟨(aZ mode cs sl cb ab).p+((m - fs) * c+(fs - sl) * cb+(m - ab) * cs) * (aZ mode cs sl cb ab).d,(aZ mode cs sl cb ab).q,(aZ mode cs sl cb ab).r,m * (aZ mode cs sl cb ab).d⟩
def dr (mode m cs sl fs c cb ab:Int):Int:=hx (ey mode m cs sl fs c cb ab)
def dc (m a f acc b:Int):Int:=bL ((m - f) * acc+(f - a) * b+m * a) m
structure Full (m:Int):Prop where
 h:m=255∨m=65535
theorem Full.pos {m:Int} (h:Full m):0<m:=by rcases h.h with q|q <;> omega
theorem Full.le {m:Int} (h:Full m):m≤65535:=by rcases h.h with q|q <;> omega
structure Pre (s a m:Int):Prop where
 s0:0≤s
 sa:s≤a
 am:a≤m
structure TermOk (x:Ex) (a b:Int):Prop where
 p0:0≤x.p
 q0:0≤x.q
 q1:x.q≤65535
 r0:0≤x.r
 r1:x.r≤4294836225
 d0:1≤x.d
 d1:x.d≤4294836225
 le:x.p≤a * b * x.d
 sq:x.q * x.q * x.r≤(a * b * x.d - x.p) * (a * b * x.d - x.p)
theorem ar {a b:Int} (ha:0≤a) (hb:0≤b):0≤a * b:=Int.mul_nonneg ha hb
theorem ay {a b c d:Int} (h1:a≤c) (h2:b≤d) (h3:0≤b) (h4:0≤c):a * b≤c * d:=Int.mul_le_mul h1 h2 h3 h4
theorem uZ (a:Int):0≤a * a:=by
 rcases Int.le_total 0 a with h|h
 ·exact Int.mul_nonneg h h
 ·exact Int.mul_nonneg_of_nonpos_of_nonpos h h
theorem cH {p a b:Int} (h0:0≤p) (h1:p≤a * b):TermOk ⟨p,0,0,1⟩ a b :=
 ⟨h0,Int.le_refl _,by dsimp only;omega,Int.le_refl _,by dsimp only;omega,by dsimp only;omega,by dsimp only;omega,by rw [Int.mul_one];exact h1,by simpa using uZ _⟩
theorem mT {p d a b:Int} (hd:1≤d) (hd1:d≤4294836225) (h0:0≤p) (h1:p≤a * b * d):TermOk ⟨p,0,0,d⟩ a b :=
 ⟨h0,Int.le_refl _,by dsimp only;omega,Int.le_refl _,by dsimp only;omega,hd,hd1,h1,by simpa using uZ _⟩
theorem lB {s a d b:Int} (hs:0≤s) (hsa:s≤a) (hd:0≤d) (hdb:d≤b):0≤jL s a d b∧jL s a d b≤a * b:=by
 unfold jL
 split
 ·have h1:0≤s * d:=ar hs hd
  have h2:2 * s * d≤a * b:=ay (by omega) hdb hd (by omega)
  have e:2 * s * d=2 * (s * d):=by grind
  omega
 ·have h1:0≤(b - d) * (a - s):=ar (by omega) (by omega)
  have h2:(b - d) * (2 * (a - s))≤b * a:=ay (by omega) (by omega) (by omega) (by omega)
  have e:2 * (b - d) * (a - s)=2 * ((b - d) * (a - s)):=by grind
  have e2:(b - d) * (2 * (a - s))=2 * ((b - d) * (a - s)):=by grind
  have e3:b * a=a * b:=Int.mul_comm _ _
  omega
theorem sX {s a d b:Int} (hs0:0≤s) (hsa:s≤a) (ham:a≤65535) (hd0:0≤d) (hdb:d≤b) (hbm:b≤65535):TermOk (lU s a d b) a b:=by
 have ab0:0≤a * b:=ar (by omega) (by omega)
 unfold lU
 split
 ·exact cH (Int.le_refl _) ab0
 split
 ·exact cH ab0 (Int.le_refl _)
 ·rename_i h1 h2
  have has:0<a - s:=by
   refine Int.not_le.1 fun q=>h2 ?_
   rw [show a - s=0 by omega,Int.mul_zero];exact ar hd0 (by omega)
  refine mT (by omega) (by omega) (ar (ar (by omega) (by omega)) hd0) ?_
  have:=Int.mul_le_mul_of_nonneg_left (show d * a≤b * (a - s) from Int.le_of_lt (Int.not_le.1 h2)) (show 0≤a by omega)
  have e1:a * a * d=a * (d * a):=by grind
  have e2:a * b * (a - s)=a * (b * (a - s)):=by grind
  rw [e1,e2];exact this
theorem qJ {s a d b:Int} (hs0:0≤s) (hsa:s≤a) (ham:a≤65535) (hd0:0≤d) (hdb:d≤b) (hbm:b≤65535):TermOk (oE s a d b) a b:=by
 have ab0:0≤a * b:=ar (by omega) (by omega)
 unfold oE
 split
 ·exact cH ab0 (Int.le_refl _)
 split
 ·exact cH (Int.le_refl _) ab0
 ·rename_i h1 h2
  have hs1:0<s:=by
   refine Int.not_le.1 fun q=>h2 ?_
   rw [show s=0 by omega,Int.zero_mul];exact ar (by omega) (by omega)
  have h3:a * b * s - (b - d) * a * a=a * (s * b - (b - d) * a):=by grind
  refine mT (by omega) (by omega) ?_ ?_
  ·rw [h3];exact ar (by omega) (Int.sub_nonneg_of_le (Int.le_of_lt (Int.not_le.1 h2)))
  ·have:=ar (ar (show 0≤b - d by omega) (show 0≤a by omega)) (show 0≤a by omega)
   exact Int.sub_le_self _ this
theorem ql {d b:Int} (hd0:0≤d) (h4:4 * d≤b):0≤16 * d * d+3 * b * b - 12 * d * b∧16 * d * d+3 * b * b - 12 * d * b≤3 * (b * b):=by
 have g1:0≤(b - 4 * d) * (b - 4 * d):=uZ _
 have g2:0≤(b - 4 * d) * b:=ar (by omega) (by omega)
 have g3:0≤(b - 4 * d) * d:=ar (by omega) (by omega)
 have g4:0≤b * d:=ar (by omega) (by omega)
 have e1:(b - 4 * d) * (b - 4 * d)=b * b - 8 * (b * d)+16 * (d * d):=by grind
 have e2:(b - 4 * d) * b=b * b - 4 * (b * d):=by grind
 have e3:(b - 4 * d) * d=b * d - 4 * (d * d):=by grind
 have e4:16 * d * d+3 * b * b - 12 * d * b=16 * (d * d)+3 * (b * b) - 12 * (b * d):=by grind
 rw [e4]
 generalize b * b=x at *
 generalize b * d=y at *
 generalize d * d=z at *
 omega
theorem qB {s a d b:Int} (hs0:0≤s) (hsa:s≤a) (ham:a≤65535) (hd0:0≤d) (hdb:d≤b) (hbm:b≤65535):TermOk (kS s a d b) a b:=by
 have ab0:0≤a * b:=ar (by omega) (by omega)
 have da0:0≤d * a:=ar hd0 (by omega)
 have da1:d * a≤a * b:=by rw [Int.mul_comm a b];exact ay hdb (Int.le_refl _) (by omega) (by omega)
 unfold kS
 split
 ·exact cH (Int.le_refl _) ab0
 rename_i hb0
 split
 ·rename_i hs2
  refine mT (by omega) (by omega) ?_ ?_
  ·have h1:(a - 2 * s) * (b - d)≤a * b:=ay (by omega) (by omega) (by omega) (by omega)
   have h2:=Int.mul_le_mul_of_nonneg_left h1 hd0
   have e1:(a - 2 * s) * d * (b - d)=d * ((a - 2 * s) * (b - d)):=by grind
   have e2:d * a * b=d * (a * b):=Int.mul_assoc _ _ _
   rw [e1,e2];exact Int.sub_nonneg_of_le h2
  ·have h1:0≤(a - 2 * s) * d * (b - d):=ar (ar (by omega) hd0) (by omega)
   have h2:=Int.mul_le_mul_of_nonneg_right da1 (show 0≤b by omega)
   exact Int.le_trans (Int.sub_le_self _ h1) h2
 rename_i hsa2
 split
 ·rename_i h4
  have hbb:b * b≤65535 * 65535:=ay (by omega) (by omega) (by omega) (by omega)
  have hb1:1 * 1≤b * b:=ay (by omega) (by omega) (by omega) (by omega)
  obtain ⟨hpol,hpol2⟩:=ql hd0 h4
  refine mT (by omega) (by omega) ?_ ?_
  ·exact Int.add_nonneg (ar da0 (by omega)) (ar (ar (by omega) hd0) hpol)
  ·have h1:(2 * s - a) * d * (16 * d * d+3 * b * b - 12 * d * b)≤a * d * (3 * (b * b)) :=
    ay (ay (by omega) (Int.le_refl _) hd0 (by omega)) hpol2 hpol (ar (by omega) hd0)
   have h2:=Int.mul_le_mul_of_nonneg_left h4 (ar (show 0≤a by omega) (show 0≤b * b by omega))
   have e1:a * (b * b) * (4 * d)=d * a * (b * b)+a * d * (3 * (b * b)):=by grind
   have e2:a * (b * b) * b=a * b * (b * b):=by grind
   rw [e1,e2] at h2
   exact Int.le_trans (Int.add_le_add_left h1 _) h2
 ·rename_i h4
  have h1:0≤d * (a - s):=ar hd0 (by omega)
  have h2:d * (a - s)≤b * (a - s):=ay hdb (Int.le_refl _) (by omega) (by omega)
  have e1:2 * d * (a - s)=2 * (d * (a - s)):=by grind
  have e3:a * b * 1 - 2 * d * (a - s)=(2 * s - a) * b+2 * (b * (a - s) - d * (a - s)):=by grind
  have h3:0≤(2 * s - a) * b:=ar (by omega) (by omega)
  have h4:(2 * s - a) * (2 * s - a) * (d * b)≤(2 * s - a) * (2 * s - a) * (b * b):=Int.mul_le_mul_of_nonneg_left (ay hdb (Int.le_refl _) (by omega) (by omega)) (uZ _)
  have h5:(2 * s - a) * b * ((2 * s - a) * b)≤(a * b * 1 - 2 * d * (a - s)) * (a * b * 1 - 2 * d * (a - s)):=jZ h3 (by rw [e3];omega)
  have e4:(2 * s - a) * b * ((2 * s - a) * b)=(2 * s - a) * (2 * s - a) * (b * b):=by grind
  have hdb2:d * b≤65535 * 65535:=ay (by omega) (by omega) (by omega) (by omega)
  rw [e4] at h5
  refine ⟨?_, ?_, ?_, ?_, ?_, ?_, ?_, ?_, ?_⟩
  ·show 0≤2 * d * (a - s);omega
  ·show 0≤2 * s - a;omega
  ·show 2 * s - a≤_;omega
  ·exact ar hd0 (by omega)
  ·exact hdb2
  ·exact Int.le_refl _
  ·show (1:Int)≤4294836225;decide
  ·show 2 * d * (a - s)≤a * b * 1;omega
  ·exact Int.le_trans h4 h5
theorem jN {p:Prop} [Decidable p] {x y:Ex} {a b:Int} (h1:TermOk x a b) (h2:TermOk y a b):TermOk (if p then x else y) a b:=by
 split
 ·exact h1
 ·exact h2
theorem kt {mode s a d b m:Int} (hm:Full m) (hs:Pre s a m) (hd:Pre d b m):TermOk (aZ mode s a d b) a b:=by
 obtain ⟨hs0,hsa,ham⟩:=hs
 obtain ⟨hd0,hdb,hbm⟩:=hd
 have hmle:=hm.le
 have sb0:0≤s * b:=ar hs0 (by omega)
 have da0:0≤d * a:=ar hd0 (by omega)
 have sd0:0≤s * d:=ar hs0 hd0
 have sb1:s * b≤a * b:=ay hsa (Int.le_refl _) (by omega) (by omega)
 have da1:d * a≤a * b:=by rw [Int.mul_comm a b];exact ay hdb (Int.le_refl _) (by omega) (by omega)
 have sd1:s * d≤a * b:=ay hsa hdb hd0 (by omega)
 have sd2:s * d≤s * b:=ay (Int.le_refl _) hdb hd0 hs0
 have sd3:s * d≤d * a:=by rw [Int.mul_comm s d];exact ay (Int.le_refl _) hsa hs0 hd0
 have scr:0≤(a - s) * (b - d):=ar (by omega) (by omega)
 have escr:(a - s) * (b - d)=a * b - s * b - d * a+s * d:=by grind
 have e2:2 * s * d=2 * (s * d):=Int.mul_assoc _ _ _
 rw [escr] at scr
 have hh1:=lB hs0 hsa hd0 hdb
 have hh2:=lB hd0 hdb hs0 hsa
 rw [Int.mul_comm b a] at hh2
 have t7:=sX hs0 hsa (by omega) hd0 hdb (by omega)
 have t8:=qJ hs0 hsa (by omega) hd0 hdb (by omega)
 have t10:=qB hs0 hsa (by omega) hd0 hdb (by omega)
 have t3:TermOk ⟨s * b+d * a - s * d,0,0,1⟩ a b:=cH (by clear t7 t8 t10 hh1 hh2;omega) (by clear t7 t8 t10 hh1 hh2;omega)
 have t5:TermOk ⟨min (s * b) (d * a),0,0,1⟩ a b:=cH (by clear t7 t8 t10 hh1 hh2 scr escr e2;omega) (by clear t7 t8 t10 hh1 hh2 scr escr e2;omega)
 have t6:TermOk ⟨max (s * b) (d * a),0,0,1⟩ a b:=cH (by clear t7 t8 t10 hh1 hh2 scr escr e2;omega) (by clear t7 t8 t10 hh1 hh2 scr escr e2;omega)
 have t11:TermOk ⟨max (s * b) (d * a) - min (s * b) (d * a),0,0,1⟩ a b:=cH (by clear t7 t8 t10 hh1 hh2 scr escr e2;omega) (by clear t7 t8 t10 hh1 hh2 scr escr e2;omega)
 have t12:TermOk ⟨s * b+d * a - 2 * s * d,0,0,1⟩ a b:=cH (by rw [e2];clear t7 t8 t10 hh1 hh2 scr escr;omega) (by rw [e2];clear t7 t8 t10 hh1 hh2;omega)
 exact jN (cH sb0 sb1) (jN (cH sd0 sd1) (jN t3 (jN (cH hh2.1 hh2.2) (jN t5 (jN t6 (jN t7 (jN t8 (jN (cH hh1.1 hh1.2) (jN t10 (jN t11 t12))))))))))
end Go.Proofs.YtmfblbbemekkoaaGreatDoor
