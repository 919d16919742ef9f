/- Part of the proof: SlZ, F0, F1. -/
import Derived.Test.YtcbifofjjpfbcaaGreatDoorM4
set_option linter.unusedSimpArgs false
set_option linter.unusedVariables false
namespace Go.SL
open Go
def VL (l:List (Nat × SV)) (b:List (Nat × Bx)) (nx:Nat) (kf:Nat→SV):St:=⟨kF l,iS b,nx,kf⟩
theorem QP {l:List (Nat × SV)} {b:List (Nat × Bx)} {nx s:Nat} {kf:Nat→SV}:(VL l b nx kf).fr s=kF l s:=rfl
theorem QT {l:List (Nat × SV)} {b:List (Nat × Bx)} {nx:Nat} {kf:Nat→SV}:(VL l b nx kf).bx=iS b:=rfl
theorem Rp {l:List (Nat × SV)} {b:List (Nat × Bx)} {nx:Nat} {kf:Nat→SV}:(VL l b nx kf).nx=nx:=rfl
theorem Tj {l:List (Nat × SV)} {b:List (Nat × Bx)} {nx:Nat} {kf:Nat→SV}:(VL l b nx kf).kf=kf:=rfl
attribute [go_sem] QP QT Rp Tj
section
variable {r:Nat→Option Nat} {bx bx':Nat→Option Bx} {n:Nat}
theorem tQ (hr:∀ id,id<n→r id=some id):∀ {x:CV},x.lt n→zq r bx bx' x x
 | .p x,_=>by
  cases x with
  | any=>trivial
  | _=>exact .inl rfl
 | .ptr id off,h=>⟨hr id h,rfl⟩
 | .pel id _ _ _,h=>⟨hr id h,rfl,rfl,rfl⟩
 | .own id _,h=>⟨hr id h,rfl⟩
 | .ipt _ _ _,_=>⟨rfl,rfl, .inl rfl⟩
 | .sub id _ _ _,h=>⟨hr id h,rfl,rfl,rfl⟩
 | .clo f ps,h=>⟨rfl,rfl,List.map_congr_left fun p hp=>hr p.1 (h p hp)⟩
theorem yM (hr:∀ id,id<n→r id=some id):∀ {l:List CV},(∀ x ∈ l,CV.lt n x)→EX r bx bx' l l
 | [],_=>trivial
 | x :: l,h=>⟨tQ hr (h x (List.mem_cons_self ..)),yM hr fun y hy=>h y (List.mem_cons_of_mem _ hy)⟩
theorem Jh (hr:∀ id,id<n→r id=some id):∀ {x:SV},x.lt n→zs r bx bx' x x
 | .b x,h=>by
  rw [PH]
  cases x with
  | c x=>rw [Pw];exact tQ hr h
  | agg l=>exact yM hr h
 | .tup vs,h=>⟨rfl,n,h,hr⟩
 | .grd p x,h=>⟨rfl,n,h,hr⟩
 | .any,_=>by rw [sX];trivial
end
def DK (S:Env) (rs:List ResultVar) (X:SV) (bx':Nat→Option Bx) (nx':Nat) (kf:Nat→SV) (e:AExit) (st:St):Prop:=Wk (EN S rs X bx' nx' kf e) st
theorem Gp {S:Env} {rs:List ResultVar} {X:SV} {bx':Nat→Option Bx} {nx':Nat} {kf:Nat→SV} {st:St}:DK S rs X bx' nx' kf .ret st=Wk (mE S rs X bx' nx' kf) st:=rfl
theorem qj {S:Env} {rs:List ResultVar} {X:SV} {bx':Nat→Option Bx} {nx':Nat} {kf:Nat→SV} {st:St}:DK S rs X bx' nx' kf .normal st=Wk (mE S rs X bx' nx' kf) st:=rfl
attribute [go_sem] Gp qj
section
variable {S:Env}
theorem LM {f : FuncId} {fn : Func} {c : Code} {rs : List ResultVar} {args : List BV} {X : SV} {bx bx' : Nat → Option Bx} {nx nx' : Nat} (hf : S.P.funcs[f]? = some fn) (hb : fn.body = some c) (hrs : fn.results.toList = rs)
  (hname : (fn.name == "runtime.NumGoroutine") = false) (hm : S.P.follows .mixedOrders = true) (hN : cO fn.ntmps c = true) (hlen : args.length ≤ fn.ntmps) (hl : ∀ x ∈ args, BV.lt nx x)
  (h:∀ kf:Nat→SV,(∀ s,(kf s).lt nx)→cw S c (DK S rs X bx' nx' kf) (Gf args bx nx kf)):nY S bx nx f args X bx' nx':=by
 subst hrs
 refine ⟨⟨fn,hf,hname,by rw [hb];rfl⟩,fun E st ρ a w vs hbx hnx g hsz hden => ?_⟩
 refine calls_of_wp hf hb ?_
 subst hbx
 subst hnx
 let E2:Ent := { w0:=E.w0,ok0:=E.ok0,rx:=E.rx,N:=fn.ntmps,kp:=fun s=>if s % 2=0 then a.tmps.getD (s / 2) undef else E.kp (s / 2) }
 let kf:Nat→SV:=fun s=>if s % 2=0 then st.fr (s / 2) else st.kf (s / 2)
 have hkl:∀ s,(kf s).lt st.nx:=fun s=>by
  simp only [kf]
  split
  ·exact g.wfs _
  ·exact (g.kept _).1
 have g2:Gam S E2 (Gf args st.bx st.nx kf) ρ { tmps:=vs ++ Array.replicate (fn.ntmps - vs.size) undef,defers:=[] } w:=by
  refine ⟨rfl,by simp [E2];omega,⟨g.frm.os,g.frm.tape,g.frm.output,g.frm.size,g.frm.block,g.frm.rxb⟩,fun s => ?_,g.wfb,g.bxs,g.new,g.inj,g.rx0,fun s => ?_,g.glb,fun s => ?_⟩
  ·simp only [Gf,bY]
   split
   ·rename_i hs
    refine hl _ ?_
    rw [List.getD_eq_getElem?_getD,List.getElem?_eq_getElem (by omega)];exact List.getElem_mem _
   ·trivial
  ·simp only [Gf,bY]
   split
   ·rename_i hs
    have e:(vs ++ Array.replicate (fn.ntmps - vs.size) undef).getD s undef=vs.getD s undef:=by
     have:s<vs.size:=by omega
     simp [this]
     rw [Array.getElem?_append_left this]
     simp [this]
    rw [e]
    exact hden (s - 0)
   ·trivial
  ·show (kf s).lt st.nx∧bu ρ (bL E st.bx ρ w) w (kf s) (E2.kp s)
   simp only [kf,E2]
   split
   ·exact ⟨g.wfs _,g.slt _⟩
   ·exact g.kept _
 have fin : ∀ {a' : Act} {w' : World}, kO S E2 (mE S fn.results.toList X bx' nx' kf) a' w' → a'.defers = [] ∧ ∃ v, (results fn a'.tmps).run S.P w' = .ok v w' ∧
   ∃ v2 ρ',Ending.returned v = .returned v2∧bu ρ' (bL E bx' ρ' w') w' X v2∧X.lt nx'∧Gam S E ⟨st.fr,bx',nx',st.kf⟩ ρ' a w':=fun {a' w'} ⟨st',ρ',g',hq⟩=>by
  unfold mE at hq
  split at hq
  ·rename_i p xs hr
   obtain ⟨hp,hX,hbx',hnx',hkf,hXl⟩:=hq
   obtain ⟨vs2,hvs,hl2,hd⟩:=ix g' hr hp
   obtain ⟨v,hv1,hv2⟩:=pk hvs hl2 hd
   subst hX
   subst hnx'
   have g'':=g'.subBox bx' hbx'
   have hkk:fG (bL E2 st'.bx ρ' w') (bL E2 bx' ρ' w') w' w':=tF hbx'
   have hv3:=bu.mono hkk (fun (_:Nat) (_:_<st'.nx)=>rfl) hXl hv2
   refine ⟨g'.dfr,v,hv1,v,ρ',rfl,hv3,hXl, ?_⟩
   have hk0:∀ s,(st.fr s).lt st'.nx∧bu ρ' (bL E bx' ρ' w') w' (st.fr s) (a.tmps.getD s undef):=fun s=>by
    have:=g''.kept (2 * s)
    dsimp only at this
    rw [hkf] at this
    have e1:2 * s % 2=0:=by omega
    have e2:2 * s / 2=s:=by omega
    simp only [kf,E2,e1,e2,if_true] at this
    exact this
   have hk1:∀ s,(st.kf s).lt st'.nx∧bu ρ' (bL E bx' ρ' w') w' (st.kf s) (E.kp s):=fun s=>by
    have:=g''.kept (2 * s+1)
    dsimp only at this
    rw [hkf] at this
    have e1:¬ (2 * s+1) % 2=0:=by omega
    have e2:(2 * s+1) / 2=s:=by omega
    simp only [kf,E2,e1,e2,if_false] at this
    exact this
   exact ⟨g.dfr,g.sz,⟨g''.frm.os,g''.frm.tape,g''.frm.output,g''.frm.size,g''.frm.block,g''.frm.rxb⟩,fun s=>(hk0 s).1,g''.wfb,g''.bxs,g''.new,g''.inj,g''.rx0,fun s=>(hk0 s).2,g''.glb,hk1⟩
  ·exact hq.elim
 refine wp_mono (dV hm c hN (h kf hkl) g2) fun e a' w' hq => ?_
 cases e with
 | normal=>obtain ⟨s1,ρ1,g1,hk⟩:=hq;exact fin (Wk.nxt hk g1)
 | ret=>obtain ⟨s1,ρ1,g1,hk⟩:=hq;exact fin (Wk.nxt hk g1)
 | exit id=>obtain ⟨_,_,_,_,_,h⟩:=hq;exact h.elim
 | _=>exact hq.elim
end
end Go.SL
namespace Go.Proofs.YtcbifofjjpfbcaaGreatDoor
open Go Go.SL
open Go.RowKit (wrap64)
attribute [go_sem ↓] reduceIte
attribute [go_sem] Nat.reduceEqDiff Nat.reduceAdd Nat.reduceMul Nat.reduceSub Nat.reduceMod Nat.reduceLeDiff Nat.reduceLT Nat.reduceBEq reduceCtorEq Int.reduceLT Int.reduceLE Int.reduceToNat Int.reduceEq Int.reduceAdd
attribute [go_sem] decide_true decide_false implies_true beq_true beq_false Bool.not_eq_true' decide_eq_true_eq decide_eq_false_iff_not Bool.and_eq_true not_false_eq_true forall_const imp_self and_self beq_iff_eq bne_iff_ne true_or or_true false_or or_false Nat.le_refl ne_eq Option.some.injEq XX fA UJ oP Ee Js Tx
theorem aa {p:Prop} (h:p:=by first|assumption|omega|trivial|exact (fun h=>h)|exact (fun hg=>And.intro hg (fun h2=>And.intro hg h2))|(intro hg;refine And.intro hg ?_;(try simp only [Bool.or_eq_false_iff,Bool.not_eq_false',Bool.not_eq_true',Bool.and_eq_true,decide_eq_true_eq,decide_eq_false_iff_not] at hg);omega)):p:=h
theorem bZ:(∀ (p:Prop) [Decidable p],(decide p=true)=p)∧(∀ (p:Prop) [Decidable p],(decide p=false)↔¬p)∧(∀ (α:Type) [BEq α] [LawfulBEq α] (a b:α),((a == b)=true)↔a=b)∧(∀ (α:Type) [BEq α] [LawfulBEq α] (a b:α),((a == b)=false)↔a≠b) ∧
 (∀ (α:Type) [BEq α] [LawfulBEq α] (a b:α),((a != b)=true)↔a≠b)∧(∀ (α:Type) [BEq α] [LawfulBEq α] (a b:α),((a != b)=false)↔a=b)∧(∀ (α:Type) (a b:α),(a≠b)=¬(a=b))∧(∀ b:Bool,(¬(b=true))=(b=false))∧(∀ b:Bool,(¬(b=false))=(b=true)) ∧
 ((!true)=false)∧((!false)=true)∧(∀ a b:Bool,((!a)=b)↔(a = !b))∧(∀ a b:Int,(¬ a<b)↔b≤a)∧(∀ a b:Int,(¬ a≤b)↔b<a)∧(∀ a b:Int,a>b↔b<a)∧(∀ a b:Int,a≥b↔b≤a)∧(∀ (α:Type) (b:Bool) (t e:α),(bif b then t else e)=if b=true then t else e) ∧
 (∀ (p:Prop) [Decidable p] (x:Bool),(if p then x else false)=(decide p && x))∧(∀ (p:Prop) [Decidable p] (x:Bool),(if p then true else x)=(decide p || x))∧(∀ a b:Bool,((a && b)=true)=(a=true∧b=true))∧(∀ a b:Bool,((a || b)=true)=(a=true∨b=true)) ∧
 (∀ a b:Bool,((a && b)=false)↔(a=true→b=false))∧(∀ a b:Bool,((a || b)=false)↔(a=false∧b=false))∧(∀ (p:Prop),[Decidable p]→((¬¬p)↔p))∧(∀ b:Bool,(b == true)=b)∧(∀ b:Bool,(b == false) = !b) ∧
 (∀ (p:Prop) [Decidable p] (a b:Bool),((if p then a else b)=true)=((p→a=true)∧(¬p→b=true)))∧(∀ (p:Prop) [Decidable p] (a b:Bool),((if p then a else b)=false)=((p→a=false)∧(¬p→b=false)))∧(∀ (α:Type) (a b:α),(bif true then a else b)=a)∧(∀ (α:Type) (a b:α),(bif false then a else b)=b) :=
 ⟨fun _ _=>decide_eq_true_eq,fun _ _=>decide_eq_false_iff_not,fun _ _ _ _ _=>beq_iff_eq,fun _ _ _ _ _=>beq_eq_false_iff_ne,fun _ _ _ _ _=>bne_iff_ne,fun _ _ _ _ _=>bne_eq_false_iff_eq,fun _ _ _=>ne_eq _ _,fun _=>Bool.not_eq_true _,fun _=>Bool.not_eq_false _,
 rfl,rfl,fun _ _=>Bool.not_eq_eq_eq_not,fun _ _=>Int.not_lt,fun _ _=>Int.not_le,fun _ _=>Iff.rfl,fun _ _=>Iff.rfl,fun _ b t e=>Bool.cond_eq_ite b t e,
 fun _ _ _=>Bool.if_false_right _ _,fun _ _ _=>Bool.if_true_left _ _,fun _ _=>Bool.and_eq_true _ _,fun _ _=>Bool.or_eq_true _ _,
 fun _ _=>Bool.and_eq_false_imp,fun _ _=>Bool.or_eq_false_iff,fun _ _=>Decidable.not_not,fun b=>by cases b <;> rfl,fun b=>by cases b <;> rfl,
 fun _ _ _ _=>Wh,fun _ _ _ _=>Wr,fun _ _ _=>rfl,fun _ _ _=>rfl⟩
theorem aK:True:=True.intro
theorem aS {α:Type} {a b:α} (h:a=b:=by (first|(simp (maxSteps:=999999)(disch:=omega) only [go_sem];rfl)|fail)):a=b:=h
theorem an {p q:Prop} (h:q) (w:q→p:=by (first|(intro h;first|exact mw h|exact Io h|exact FP h|exact AH h|((first|refine Kh ?_|refine NK ?_|refine ET ?_);first|(simp (maxSteps:=999999)(disch:=omega) only [go_sem];exact h)|(have h0:True:=h;simp (maxSteps:=999999)(disch:=omega) only [go_sem])))|fail)):p:=w h
theorem ai {p q:Prop} (h:q) (w:q→p:=by (first|(intro h;(first|refine kq ?_|refine ml ?_);first|(simp (maxSteps:=999999)(disch:=omega) only [go_sem];exact h)|(have h0:True:=h;simp (maxSteps:=999999)(disch:=omega) only [go_sem]))|fail)):p:=w h
theorem aj {p : Prop} {c : St → Prop} {q : (St → Prop) → Prop} (h : ∀ K : St → Prop, (∀ s, c s → K s) → q K)
  (w:(∀ K:St→Prop,(∀ s,c s→K s)→q K)→p:=by (first|(intro h;(first|refine lT (fun K hK => ?_)|refine LW (fun K hK => ?_)|refine Ia (by decide +kernel) (by decide +kernel) (fun K hK => ?_)|refine HO (by decide +kernel) (by decide +kernel) (fun K hK => ?_));have h:=h K hK;(try simp (maxSteps:=999999)(disch:=omega) only [go_sem]);exact h)|fail)):p:=w h
theorem aY {vc c:Prop} {r:BV} {K:SV→Prop} {g:Bool} {nx:Nat} {p q':Prop} {q:Sl p} {s:St} (h:q') (w:q'→(r.lt nx∧(g=true→c∧vc)∧K (.grd g r)):=by (first|(intro h;first|(simp (maxSteps:=999999)(disch:=omega) only [go_sem];exact h)|exact h)|fail)):VK (some g) nx (some (vc, .b r,s)) c (Sl.of K) q:=Jo (w h)
theorem ae {S:Env} {st:St} {f:FuncId} {args:List BV} {K:SV→St→Prop} {X:SV} {q:Prop} (h:aF S f args (fun r=>r=X)) (hk:q) (hl:gO args:=by simp (maxSteps:=999999)(disch:=omega) only [go_sem]) (w:q→K X st:=by (first|(intro h;first|(simp (maxSteps:=999999)(disch:=omega) only [go_sem];exact h)|exact h)|fail)):eB S st f args (Sl.of K):=zo h hl (w hk)
theorem aq {S : Env} {st : St} {f : FuncId} {args : List BV} {X : BV} {g : Bool} {c : Prop} {d : Option Nat} {K : St → Prop} {q : Prop} (h : g = true → aF S f args (fun r => r = .b X)) (hk : q) (hl : gO args := by simp (maxSteps := 1000000) (disch := omega) only [go_sem]) (hx : X.lt st.nx := by simp (maxSteps := 1000000) (disch := omega) only [go_sem]) (hc : g = true → c := by simp (maxSteps := 1000000) (disch := omega) only [go_sem]; try omega)
  (w:q→K (st.set d (.grd g X)):=by (first|(intro h;first|(simp (maxSteps:=999999)(disch:=omega) only [go_sem];exact h)|exact h)|fail)):To (some g) c S st f args d (Sl.of K):=HD h hl hx hc (w hk)
theorem aH {t1 t2 q1 q2 p:Prop} (h1:t1→q1) (h2:t2→q2) (w:(t1→q1)→(t2→q2)→p:=by (first|(intro k1 k2;(first|apply xG|apply lK);(case hc=>simp (maxSteps:=999999)(disch:=omega) only [go_sem];rfl);(case h1=>first|(intro hb;simp only [bZ] at hb;exact k1 hb)|(have k0:True→True:=k1;intro hb;simp only [bZ] at hb;done)|(intro hb;exact k1 hb));(case h2=>first|(intro hb;simp only [bZ] at hb;exact k2 hb)|(have k0:True→True:=k2;intro hb;simp only [bZ] at hb;done)|(intro hb;exact k2 hb)))|fail)):p:=w h1 h2
theorem ax {p:Prop} (h:p:=by (first|(first|with_reducible exact True.intro|(exfalso;omega))|fail)):p:=h
theorem qR {S:Env} {st:St} {f:FuncId} {args:List BV} {K:SV→St→Prop} {X:SV} {q:Prop} (h:Bi S f args X) (hk:q) (hl:gO args:=by simp (maxSteps:=999999)(disch:=omega) only [go_sem]) (w:q→K X st:=by (first|(intro h;first|(simp (maxSteps:=999999)(disch:=omega) only [go_sem];exact h)|exact h)|fail)):eB S st f args (Sl.of K):=Hn h hl (w hk)
theorem oZ : (∀ n : Nat, ((n : Int)).toNat = n) ∧ ((!true) = false) ∧ ((!false) = true) ∧ (∀ b : Bool, (b && true) = b) ∧ (∀ b : Bool, (true && b) = b) ∧ (∀ b : Bool, (b && false) = false) ∧ (∀ b : Bool, (false && b) = false) ∧
  (∀ b:Bool,(b || true)=true)∧(∀ b:Bool,(true || b)=true)∧(∀ b:Bool,(b || false)=b)∧(∀ b:Bool,(false || b)=b) :=
 ⟨Int.toNat_natCast,rfl,rfl,Bool.and_true,Bool.true_and,Bool.and_false,Bool.false_and,Bool.or_true,Bool.true_or,Bool.or_false,Bool.false_or⟩
theorem ak {E p q : Prop} (e : E) (h : q) (w : E → q → p := by (first | (intro e h; first
  | ((first|apply ft|apply jB);(case hc=>simp (maxSteps:=999999)(disch:=omega) only [go_sem];rfl);(case ht=>(simp only [oZ,decide_true,decide_false,Int.reduceBEq,Int.reduceBNe,Int.reduceLT,Int.reduceLE,e];done));exact h)
  | ((first|apply gZ|apply iz);(case hc=>simp (maxSteps:=999999)(disch:=omega) only [go_sem];rfl);(case ht=>(simp only [oZ,decide_true,decide_false,Int.reduceBEq,Int.reduceBNe,Int.reduceLT,Int.reduceLE,e];done));exact h))|fail)):p:=w e h
theorem aI {f : FuncId} {fn : Func} {c : Code} {args : List BV} {R : SV → Prop} (hf : Sg.P.funcs[f]? = some fn) (rs : List ResultVar) (h : cw Sg c (OK Sg rs R) (uj args)) (hb : fn.body = some c := by rfl) (hrs : fn.results.toList = rs := by rfl)
  (hname : (fn.name == "runtime.NumGoroutine") = false := by rfl) (hN : cO fn.ntmps c = true := by decide +kernel) (hlen : args.length ≤ fn.ntmps := by exact Nat.le_of_ble_eq_true rfl) (hl : gO args := by simp (maxSteps := 1000000) (disch := omega) only [go_sem]) : aF Sg f args R := Nw hf hb hrs hname gp hN hlen (cG hl) h
theorem cS {n:Nat} {st:St} (h:gS n st:=by (first|(refine And.intro (fun iw hiw=>by ((try simp (maxSteps:=999999)(disch:=omega) only [go_sem] at hiw ⊢);(repeat (first|rfl|exact if_neg (by omega)|rw [if_neg (by omega)]));done)) (by first|exact Nat.zero_le _|(simp (maxSteps:=999999)(disch:=omega) only [go_sem];done)|(simp (maxSteps:=999999)(disch:=omega) only [go_sem];omega)|decide))|fail)):gS n st:=h
theorem aE {st : St} {l : List (Nat × SV)} {b : List (Nat × Bx)} {nx : Nat} (r : List (Nat × Option Nat)) {q1 q2 : Prop} (h1 : q1) (h2 : q2) (h0 : vS r 0 = some 0 := by rfl) (hnx : 0 < nx := by decide) (hinj : GS (vS r) (b.map (·.1)) = true := by rfl)
  (w1:q1→nX (vS r) st (iS b) nx l:=by (first|(intro h;first|(simp (maxSteps:=999999)(disch:=omega) only [go_sem];exact h)|(have h0:True:=h;simp (maxSteps:=999999)(disch:=omega) only [go_sem]))|fail)) (w2:q2→AB (vS r) st (iS b) nx b:=by (first|(intro h;first|(simp (maxSteps:=999999)(disch:=omega) only [go_sem];exact h)|(have h0:True:=h;simp (maxSteps:=999999)(disch:=omega) only [go_sem]))|fail)):Le st (bg l b nx):=Uy r h0 hnx hinj (w1 h1) (w2 h2)
theorem aw {p:Prop} (h:p:=by first|rfl|omega|exact .inl rfl|trivial):p:=h
abbrev PI (x:Int):PV := .val (.int .i64 x)
abbrev PU (x:Int):PV := .val (.int .u16 x)
abbrev PB (x:Bool):PV := .val (.bool x)
abbrev I (x:Int):BV := .c (.p (.val (.int .i64 x)))
abbrev U (x:Int):BV := .c (.p (.val (.int .u16 x)))
abbrev B (x:Bool):BV := .c (.p (.val (.bool x)))
abbrev Ls:PV := .val (.slice none 0 0)
abbrev ag (l:List PV):BV := .agg (l.map CV.p)
structure Rect where
 x0:Int
 y0:Int
 x1:Int
 y1:Int
 deriving DecidableEq,Inhabited
structure Op where
 kind:Int
 image:Int
 x:Int
 y:Int
 mask:Int
 maskX:Int
 maskY:Int
 opacity:Int
 operator:Int
 mode:Int
 isolated:Bool
 knockout:Bool
 deriving DecidableEq,Inhabited
structure Pixel where
 c0:Int
 c1:Int
 c2:Int
 a:Int
 f:Int
 deriving DecidableEq,Inhabited
structure Plane where
 w:Int
 h:Int
 stride:Int
 s:List Int
 deriving DecidableEq,Inhabited
structure Image where
 w:Int
 h:Int
 solid:Bool
 color:Pixel
 p0:Plane
 p1:Plane
 p2:Plane
 p3:Plane
 p4:Plane
 deriving DecidableEq,Inhabited
structure Script where
 bits:Int
 canvas:Rect
 tileW:Int
 tileH:Int
 order:List Int
 images:List Image
 ops:List Op
 deriving DecidableEq,Inhabited
structure Raw where
 kind:Int
 image:Int
 x:Int
 y:Int
 mask:Int
 maskX:Int
 maskY:Int
 opacity:Int
 operator:Int
 mode:Int
 flags:Int
 deriving DecidableEq,Inhabited
structure N5 where
 a:Int
 b:Int
 c:Int
 d:Int
 e:Int
 deriving DecidableEq,Inhabited
structure Row where
 mood:Int
 l:List N5
 deriving DecidableEq,Inhabited
structure Pic where
 w:Int
 h:Int
 solid:Int
 row:Row
 deriving DecidableEq,Inhabited
structure Scene where
 bits:Int
 x:Int
 y:Int
 w:Int
 h:Int
 tileW:Int
 tileH:Int
 order:List Int
 pics:List Pic
 ops:List Raw
 deriving DecidableEq,Inhabited
def Ha (n:Int):List PV:=[PI n]
def Om (n:Int):List PV:=[PU n]
def bc (r:Rect):List PV:=[PI r.x0,PI r.y0,PI r.x1,PI r.y1]
def eA (o:Op):List PV:=[PI o.kind,PI o.image,PI o.x,PI o.y,PI o.mask,PI o.maskX,PI o.maskY,PU o.opacity,PI o.operator,PI o.mode,PB o.isolated,PB o.knockout]
def aW (p:Pixel):List PV:=[PU p.c0,PU p.c1,PU p.c2,PU p.a,PU p.f]
def eZ (l:List Int):PV := .lst 1 l.length (dG Ha l)
def jV (l:List Int):PV := .lst 1 l.length (dG Om l)
def jD (p:Plane):List PV:=[PI p.w,PI p.h,PI p.stride,jV p.s]
def bl (m:Image):List PV:=[PI m.w,PI m.h,PB m.solid,PU m.color.c0,PU m.color.c1,PU m.color.c2,PU m.color.a,PU m.color.f,
 PI m.p0.w,PI m.p0.h,PI m.p0.stride,jV m.p0.s,PI m.p1.w,PI m.p1.h,PI m.p1.stride,jV m.p1.s,PI m.p2.w,PI m.p2.h,PI m.p2.stride,jV m.p2.s,
 PI m.p3.w,PI m.p3.h,PI m.p3.stride,jV m.p3.s,PI m.p4.w,PI m.p4.h,PI m.p4.stride,jV m.p4.s]
def qB (l:List Op):PV := .lst 12 l.length (dG eA l)
def vL (l:List Image):PV := .lst 28 l.length (dG bl l)
def sF (l:List Pixel):PV := .lst 5 l.length (dG aW l)
def aL (s:Script):List PV:=[PI s.bits,PI s.canvas.x0,PI s.canvas.y0,PI s.canvas.x1,PI s.canvas.y1,PI s.tileW,PI s.tileH,eZ s.order,vL s.images,qB s.ops]
def OG (r:Raw):List PV:=[PI r.kind,PI r.image,PI r.x,PI r.y,PI r.mask,PI r.maskX,PI r.maskY,PI r.opacity,PI r.operator,PI r.mode,PI r.flags]
def VM (n:N5):List PV:=[PI n.a,PI n.b,PI n.c,PI n.d,PI n.e]
def VI (l:List N5):PV := .lst 5 l.length (dG VM l)
def Mz (r:Row):List PV:=[PI r.mood,VI r.l]
def KL (p:Pic):List PV:=[PI p.w,PI p.h,PI p.solid,PI p.row.mood,VI p.row.l]
def RZ (l:List Pic):PV := .lst 5 l.length (dG KL l)
def QM (l:List Raw):PV := .lst 11 l.length (dG OG l)
def gI (s:Scene):List PV:=[PI s.bits,PI s.x,PI s.y,PI s.w,PI s.h,PI s.tileW,PI s.tileH,eZ s.order,RZ s.pics,QM s.ops]
attribute [go_sem] Ha Om bc eA aW eZ jV jD bl qB vL sF aL OG VM VI Mz KL RZ QM gI
def i64 (n:Int):Prop := -9223372036854775808≤n∧n≤9223372036854775807
def u16 (n:Int):Prop:=0≤n∧n≤65535
end Go.Proofs.YtcbifofjjpfbcaaGreatDoor
set_option maxRecDepth 16000
namespace Go.Proofs.YtcbifofjjpfbcaaGreatDoor
open Go Go.SL
open Go.RowKit (wrap64)
def Gy (n k:Int):Int:=if k<1 then 0 else n % k
theorem HP (n k:Int):(n.tmod k+k) % k=n % k:=by
 rw [Int.add_emod_right,Int.tmod_def,Int.sub_mul_emod_self_left]
theorem Bt (n k : Int) (hk : k ≤ 4611686018427387904) :
  aF Sg 18 [I n,I k] (fun r=>r = .b (I (Gy n k))):=by
 refine aI Tryz.func18 [.tmp 4] ?_
 repeat first|refine an ?_|((first|refine aj (fun K hK => ?_));and_intros;all_goals first|(refine hK _ ?_;clear hK K)|try exact aa)|fail
 refine xG (t := ?tt) ?hc ?h1 ?h2
 case hc=>simp (maxSteps:=999999)(disch:=omega) only [go_sem];rfl
 case h1 =>
  intro hb
  try simp only [decide_eq_true_eq,decide_eq_false_iff_not,beq_iff_eq,beq_eq_false_iff_ne,bne_iff_ne,bne_eq_false_iff_eq,ne_eq,Bool.not_eq_true,Bool.not_eq_false,Bool.not_true,Bool.not_false,Bool.not_eq_eq_eq_not,Int.not_lt,Int.not_le,gt_iff_lt,ge_iff_le,Bool.cond_eq_ite,Bool.if_false_right,Bool.if_true_left,Bool.and_eq_true,Bool.or_eq_true,Bool.and_eq_false_imp,Bool.or_eq_false_iff,Decidable.not_not] at hb
  repeat first|refine an ?_|((first|refine aj (fun K hK => ?_));and_intros;all_goals first|(refine hK _ ?_;clear hK K)|try exact aa)|fail
  first|refine kq ?_|refine ml ?_
  simp (maxSteps:=999999)(disch:=omega) only [go_sem]
  simp only [Gy,if_pos hb]
 case h2 =>
  intro hb
  try simp only [decide_eq_true_eq,decide_eq_false_iff_not,beq_iff_eq,beq_eq_false_iff_ne,bne_iff_ne,bne_eq_false_iff_eq,ne_eq,Bool.not_eq_true,Bool.not_eq_false,Bool.not_true,Bool.not_false,Bool.not_eq_eq_eq_not,Int.not_lt,Int.not_le,gt_iff_lt,ge_iff_le,Bool.cond_eq_ite,Bool.if_false_right,Bool.if_true_left,Bool.and_eq_true,Bool.or_eq_true,Bool.and_eq_false_imp,Bool.or_eq_false_iff,Decidable.not_not] at hb
  have hm1:=Int.tmod_lt_of_pos n (show 0<k by omega)
  have hm2:=Int.lt_tmod_of_pos n (show 0<k by omega)
  repeat first|refine an ?_|((first|refine aj (fun K hK => ?_));and_intros;all_goals first|(refine hK _ ?_;clear hK K)|try exact aa)|fail
  first|refine kq ?_|refine ml ?_
  simp (maxSteps:=999999)(disch:=omega) only [go_sem]
  rw [Gy,if_neg (by omega),HP n k]
theorem cL (n k : Int) (hk1 : 1 ≤ k) (hk : k ≤ 4611686018427387904) :
  aF Sg 18 [I n,I k] (fun r=>r = .b (I (n % k))):=by
 have h:=Bt n k hk
 rwa [Gy,if_neg (by omega)] at h
def An (l:List Int) (i:Int):Int:=if i<0∨(l.length:Int)≤i then 0 else l.getD i.toNat 0
theorem NQ (l : List Int) (i : Int) :
  aF Sg 50 [.c (.p (eZ l)),I i] (fun r=>r = .b (I (An l i))):=by
 refine aI Tryz.func50 [.tmp 4] ?_
 repeat first|refine an ?_|((first|refine aj (fun K hK => ?_));and_intros;all_goals first|(refine hK _ ?_;clear hK K)|try exact aa)|fail
 refine xG (t := ?tt) ?hc ?h1 ?h2
 case hc=>simp (maxSteps:=999999)(disch:=omega) only [go_sem];rfl
 case h1 =>
  intro hb
  try simp only [decide_eq_true_eq,decide_eq_false_iff_not,beq_iff_eq,beq_eq_false_iff_ne,bne_iff_ne,bne_eq_false_iff_eq,ne_eq,Bool.not_eq_true,Bool.not_eq_false,Bool.not_true,Bool.not_false,Bool.not_eq_eq_eq_not,Int.not_lt,Int.not_le,gt_iff_lt,ge_iff_le,Bool.cond_eq_ite,Bool.if_false_right,Bool.if_true_left,Bool.and_eq_true,Bool.or_eq_true,Bool.and_eq_false_imp,Bool.or_eq_false_iff,Decidable.not_not] at hb
  repeat first|refine an ?_|((first|refine aj (fun K hK => ?_));and_intros;all_goals first|(refine hK _ ?_;clear hK K)|try exact aa)|fail
  first|refine kq ?_|refine ml ?_
  simp (maxSteps:=999999)(disch:=omega) only [go_sem]
  rw [An,if_pos hb]
 case h2 =>
  intro hb
  try simp only [decide_eq_true_eq,decide_eq_false_iff_not,beq_iff_eq,beq_eq_false_iff_ne,bne_iff_ne,bne_eq_false_iff_eq,ne_eq,Bool.not_eq_true,Bool.not_eq_false,Bool.not_true,Bool.not_false,Bool.not_eq_eq_eq_not,Int.not_lt,Int.not_le,gt_iff_lt,ge_iff_le,Bool.cond_eq_ite,Bool.if_false_right,Bool.if_true_left,Bool.and_eq_true,Bool.or_eq_true,Bool.and_eq_false_imp,Bool.or_eq_false_iff,Decidable.not_not] at hb
  repeat first|refine an ?_|((first|refine aj (fun K hK => ?_));and_intros;all_goals first|(refine hK _ ?_;clear hK K)|try exact aa)|fail
  first|refine kq ?_|refine ml ?_
  simp (maxSteps:=999999)(disch:=omega) only [go_sem]
  rw [An,if_neg (by omega)];rfl
def dF (n:Int):Int:=if n % 3=2 then 65535 else 255
theorem Kj (n : Int) :
  aF Sg 32 [I n] (fun r=>r = .b (U (dF n))):=by
 refine aI Tryz.func32 [.tmp 2] ?_
 repeat first|refine an ?_|((first|refine aj (fun K hK => ?_));and_intros;all_goals first|(refine hK _ ?_;clear hK K)|try exact aa)|fail
 refine zo (Bt n 3 (by omega)) (by simp (maxSteps:=999999)(disch:=omega) only [go_sem]) ?_
 try simp (maxSteps:=999999)(disch:=omega) only [go_sem]
 and_intros
 all_goals first|(refine hK _ ?_;clear hK K)|exact aa|skip
 refine xG (t := ?tt) ?hc ?h1 ?h2
 case hc=>simp (maxSteps:=999999)(disch:=omega) only [go_sem];rfl
 case h1 =>
  intro hb
  try simp only [decide_eq_true_eq,decide_eq_false_iff_not,beq_iff_eq,beq_eq_false_iff_ne,bne_iff_ne,bne_eq_false_iff_eq,ne_eq,Bool.not_eq_true,Bool.not_eq_false,Bool.not_true,Bool.not_false,Bool.not_eq_eq_eq_not,Int.not_lt,Int.not_le,gt_iff_lt,ge_iff_le,Bool.cond_eq_ite,Bool.if_false_right,Bool.if_true_left,Bool.and_eq_true,Bool.or_eq_true,Bool.and_eq_false_imp,Bool.or_eq_false_iff,Decidable.not_not] at hb
  repeat first|refine an ?_|((first|refine aj (fun K hK => ?_));and_intros;all_goals first|(refine hK _ ?_;clear hK K)|try exact aa)|fail
  first|refine kq ?_|refine ml ?_
  simp (maxSteps:=999999)(disch:=omega) only [go_sem]
  simp [dF,Gy] at hb ⊢
  omega
 case h2 =>
  intro hb
  try simp only [decide_eq_true_eq,decide_eq_false_iff_not,beq_iff_eq,beq_eq_false_iff_ne,bne_iff_ne,bne_eq_false_iff_eq,ne_eq,Bool.not_eq_true,Bool.not_eq_false,Bool.not_true,Bool.not_false,Bool.not_eq_eq_eq_not,Int.not_lt,Int.not_le,gt_iff_lt,ge_iff_le,Bool.cond_eq_ite,Bool.if_false_right,Bool.if_true_left,Bool.and_eq_true,Bool.or_eq_true,Bool.and_eq_false_imp,Bool.or_eq_false_iff,Decidable.not_not] at hb
  repeat first|refine an ?_|((first|refine aj (fun K hK => ?_));and_intros;all_goals first|(refine hK _ ?_;clear hK K)|try exact aa)|fail
  first|refine kq ?_|refine ml ?_
  simp (maxSteps:=999999)(disch:=omega) only [go_sem]
  simp [dF,Gy] at hb ⊢
  omega
end Go.Proofs.YtcbifofjjpfbcaaGreatDoor
