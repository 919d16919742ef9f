/- Part of the proof: T4, V4, V5, WQ, VA, VD, P1, P6, Y3, RK, RL, WR, Y4, WS, WT, Z1, WU, Z2, Z3, N1. -/
import Derived.Test.YtcbifofjjpfbcaaGreatDoorM35
set_option linter.unusedSimpArgs false
set_option linter.unusedVariables false
namespace Go.Proofs.YtcbifofjjpfbcaaGreatDoor
section
variable {op m a b f g:Int}
end
section
variable {m a f acc acc' b:Int}
end
theorem vM {p:Pixel} {m:Int} (hm:Full m):cc p m m=p:=by
 have e:∀ x:Int,cf (x * m) m=x:=fun x=>by rw [Int.mul_comm,iA hm.pos]
 simp only [cc,e]
end Go.Proofs.YtcbifofjjpfbcaaGreatDoor
set_option maxHeartbeats 2000000
set_option maxRecDepth 16000
namespace Go.Proofs.YtcbifofjjpfbcaaGreatDoor
open Go Go.SL
open Go.RowKit (wrap64)
attribute [local go_sem] cH
theorem Wq {g : Nat → PV} {t : Lv} (h : gA g t) : g 0 = PI t.op.kind ∧ g 1 = PI t.op.image ∧ g 2 = PI t.op.x ∧ g 3 = PI t.op.y ∧ g 4 = PI t.op.mask ∧ g 5 = PI t.op.maskX ∧ g 6 = PI t.op.maskY ∧ g 7 = PU t.op.opacity ∧ g 8 = PI t.op.operator ∧ g 9 = PI t.op.mode ∧
  g 10=PB t.op.isolated∧g 11=PB t.op.knockout∧g 12=PU t.acc.c0∧g 13=PU t.acc.c1∧g 14=PU t.acc.c2∧g 15=PU t.acc.a∧g 16=PU t.acc.own∧g 17=PU t.acc.f∧g 18=PU t.back.c0∧g 19=PU t.back.c1∧g 20=PU t.back.c2∧g 21=PU t.back.a∧g 22=PU t.back.f :=
 ⟨h 0 (by decide),h 1 (by decide),h 2 (by decide),h 3 (by decide),h 4 (by decide),h 5 (by decide),h 6 (by decide),h 7 (by decide),h 8 (by decide),h 9 (by decide),h 10 (by decide),h 11 (by decide),h 12 (by decide),h 13 (by decide),h 14 (by decide),h 15 (by decide),h 16 (by decide),
  h 17 (by decide),h 18 (by decide),h 19 (by decide),h 20 (by decide),h 21 (by decide),h 22 (by decide)⟩
attribute [local go_sem] sY cz Int.toNat_natCast qD vR
theorem mR (p:Pixel):(SV.b (ag (aW p))).flat:=fun c hc=>by
 obtain ⟨x,hx,rfl⟩:=List.mem_map.1 hc
 simp only [aW,List.mem_cons,List.not_mem_nil,or_false] at hx
 rcases hx with rfl|rfl|rfl|rfl|rfl <;> trivial
theorem tW (a:Acc):(SV.b (ag (cH a))).flat:=fun c hc=>by
 obtain ⟨x,hx,rfl⟩:=List.mem_map.1 hc
 simp only [cH,List.mem_cons,List.not_mem_nil,or_false] at hx
 rcases hx with rfl|rfl|rfl|rfl|rfl|rfl <;> trivial
end Go.Proofs.YtcbifofjjpfbcaaGreatDoor
set_option maxHeartbeats 4000000
set_option maxRecDepth 16000
namespace Go.Proofs.YtcbifofjjpfbcaaGreatDoor
open Go Go.SL
open Go.RowKit (wrap64)
attribute [local go_sem] cH vR cz Int.toNat_natCast bU
theorem EI {a c nx:Nat} {A C:Bx} {bx b:Nat→Option Bx} (hw:∀ i,nx≤i→bx i=none) (h1:b a=some A) (h2:b c=some C) (h3:∀ i,i<nx→i≠a→i≠c→b i=bx i):Tp (aN a A (aN c C bx)) b:=fun i y hi=>by
 unfold aN at hi
 split at hi
 ·rename_i e;rw [e,h1];exact hi
 rename_i e
 split at hi
 ·rename_i e2;rw [e2,h2];exact hi
 ·rename_i e2
  rcases Nat.lt_or_ge i nx with q|q
  ·rw [h3 i q e e2];exact hi
  ·rw [hw i q] at hi;cases hi
end Go.Proofs.YtcbifofjjpfbcaaGreatDoor
set_option maxHeartbeats 4000000
set_option maxRecDepth 16000
namespace Go.Proofs.YtcbifofjjpfbcaaGreatDoor
open Go Go.SL
open Go.RowKit (wrap64)
attribute [local go_sem] cH sY cz Int.toNat_natCast qD vR
theorem yQ (t:Lv):(SV.b (ag (vR t))).flat:=fun c hc=>by
 obtain ⟨x,hx,rfl⟩:=List.mem_map.1 hc
 simp only [vR,List.mem_cons,List.not_mem_nil,or_false] at hx
 rcases hx with rfl|rfl|rfl|rfl|rfl|rfl|rfl|rfl|rfl|rfl|rfl|rfl|rfl|rfl|rfl|rfl|rfl|rfl|rfl|rfl|rfl|rfl|rfl <;> trivial
theorem pa (m:Int) (n:Nat) (f:Nat→Nat→PV) (t:Lv) (hl:n≤1000) (hf:gA (f n) t):aF Sg 125 [sY m (n+1) f] (fun x=>x = .b (ag (vR t))):=by
 have ht:True:=trivial
 obtain ⟨e0,e1,e2,e3,e4,e5,e6,e7,e8,e9,e10,e11,e12,e13,e14,e15,e16,e17,e18,e19,e20,e21,e22⟩:=Wq hf
 refine aI Tryz.func125 [.cell 2 184] ?_
 repeat' (first|(refine aj (fun K hK => ?_);and_intros;all_goals first|(refine hK _ ?_;clear hK K)|try exact aa)|(refine ai ?_;(try clear hB KB);(try clear hK K)))
 simp only [e0,e1,e2,e3,e4,e5,e6,e7,e8,e9,e10,e11,e12,e13,e14,e15,e16,e17,e18,e19,e20,e21,e22]
 rfl
theorem nf (m:Int) (n:Nat) (f:Nat→Nat→PV) (hl:n≤1000):aF Sg 124 [sY m (n+1) f] (fun x=>x = .b (I n)):=by
 have ht:True:=trivial
 refine aI Tryz.func124 [.tmp 2] ?_
 repeat' (first|with_reducible exact aK|refine ak ht ?_|refine an ?_|(refine aj (fun K hK => ?_);and_intros;all_goals first|(refine hK _ ?_;clear hK K)|try exact aa)|(refine ai ?_;(try clear hB KB);(try clear hK K)))
theorem sZ (m:Int) (n:Nat) (f:Nat→Nat→PV) (t:Lv) (hl:n≤1000) (hf:gA (f n) t):aF Sg 91 [sY m (n+1) f] (fun x=>x = .b (ag (cH t.acc))):=by
 have ht:True:=trivial
 have h1:=pa m n f t hl hf
 refine aI Tryz.func91 [.cell 2 147] ?_
 repeat' (first|refine ak ht ?_|refine an ?_|((first|refine aj (fun K hK => ?_)|refine ae (h1) ?_);and_intros;all_goals first|(refine hK _ ?_;clear hK K)|try exact aa)|(refine ai ?_;(try clear hB KB);(try clear hK K)))
 rfl
theorem AE (m:Int) (n:Nat) (f:Nat→Nat→PV) (t:Lv) (hl:n≤1000) (hf:gA (f n) t):aF Sg 89 [sY m (n+1) f] (fun x=>x = .b (ag (aW t.back))):=by
 have ht:True:=trivial
 have h1:=pa m n f t hl hf
 refine aI Tryz.func89 [.cell 2 37] ?_
 repeat' (first|refine ak ht ?_|refine an ?_|((first|refine aj (fun K hK => ?_)|refine ae (h1) ?_);and_intros;all_goals first|(refine hK _ ?_;clear hK K)|try exact aa)|(refine ai ?_;(try clear hB KB);(try clear hK K)))
 rfl
theorem Gc (m:Int) (n:Nat) (f:Nat→Nat→PV) (t:Lv) (hl:n<1000) (hf:gA (f n) t):aF Sg 131 [sY m (n+1+1) f] (fun x=>x = .b (ag (cH t.acc))):=by
 have h1:=nf m (n+1) f (by omega)
 have g:(((n+1:Nat):Int) == 0)=false:=by rw [beq_eq_false_iff_ne];omega
 have g2:(((n+1+1:Nat):Int) - 2)=(n:Int):=by omega
 obtain ⟨e0,e1,e2,e3,e4,e5,e6,e7,e8,e9,e10,e11,e12,e13,e14,e15,e16,e17,e18,e19,e20,e21,e22⟩:=Wq hf
 refine aI Tryz.func131 [.cell 2 147] ?_
 repeat' (first|refine ak g ?_|refine an ?_|((first|refine aj (fun K hK => ?_)|refine ae (h1) ?_);and_intros;all_goals first|(refine hK _ ?_;clear hK K)|try exact aa)|(refine ai ?_;(try clear hB KB);(try clear hK K)))
 rw [show ((((n+1+1:Nat):Int) - 2).toNat)=n by omega,e12,e13,e14,e15,e16,e17]
 rfl
theorem zV (m:Int) (f:Nat→Nat→PV) (t:Lv) (hf:gA (f 0) t) (hm:Full m) (hv:AccV t.acc t.back m):aF Sg 97 [sY m 1 f] (fun x=>x = .tup [ag (aW (bB t.acc t.back m)),I 0]):=by
 have ht:True:=trivial
 have h1:=nf m 0 f (by decide)
 have h3:=pa m 0 f t (by decide) hf
 have h2:=lY t.acc t.back m hm hv
 generalize bB t.acc t.back m=q at *
 have g:(((0:Nat):Int) != 0)=false:=by decide
 refine aI Tryz.func97 [.cell 2 37, .tmp 3] ?_
 repeat' (first|refine ak g ?_|refine an ?_|((first|refine aj (fun K hK => ?_)|refine ae (h1) ?_);and_intros;all_goals first|(refine hK _ ?_;clear hK K)|try exact aa))
 refine mn (id:=5) (.br 0 (.br 3 (.br 6 (.br 7 (.br 8 (.br 9 (.br 1 (.br 2 (.br 4 (.br 5 (.br 10 (.br 11 (.br 12 (.br 13 (.br 14 (.br 15 (.br 16 .leaf .nil) .nil) .nil) .nil) .nil) .nil) .nil) (.br 14 (.br 5 (.br 10 (.br 11 (.br 12 (.br 13 (.br 15 (.br 16 .leaf .nil) .nil) .nil) .nil) .nil) .nil) .nil) .nil)) (.br 14 (.br 4 (.br 5 (.br 10 (.br 11 (.br 12 (.br 13 (.br 15 (.br 16 .leaf .nil) .nil) .nil) .nil) .nil) .nil) .nil) .nil) .nil)) (.br 4 (.br 2 (.br 5 (.br 10 (.br 11 (.br 12 (.br 13 (.br 14 (.br 15 (.br 16 .leaf .nil) .nil) .nil) .nil) .nil) .nil) .nil) (.br 14 (.br 5 (.br 10 (.br 11 (.br 12 (.br 13 (.br 15 (.br 16 .leaf .nil) .nil) .nil) .nil) .nil) .nil) .nil) .nil)) (.br 5 (.br 2 (.br 10 (.br 11 (.br 12 (.br 13 (.br 14 (.br 15 (.br 16 .leaf .nil) .nil) .nil) .nil) .nil) .nil) .nil) (.br 14 (.br 2 (.br 10 (.br 11 (.br 12 (.br 13 (.br 15 (.br 16 .leaf .nil) .nil) .nil) .nil) .nil) .nil) .nil) .nil)) (.br 14 (.br 2 (.br 5 (.br 10 (.br 11 (.br 12 (.br 13 (.br 15 (.br 16 .leaf .nil) .nil) .nil) .nil) .nil) .nil) .nil) (.br 5 (.br 2 (.br 10 (.br 11 (.br 12 (.br 13 (.br 15 (.br 16 .leaf .nil) .nil) .nil) .nil) .nil) .nil) .nil) .nil)) .nil))) (.br 14 (.br 2 (.br 4 (.br 5 (.br 10 (.br 11 (.br 12 (.br 13 (.br 15 (.br 16 .leaf .nil) .nil) .nil) .nil) .nil) .nil) .nil) .nil) (.br 4 (.br 2 (.br 5 (.br 10 (.br 11 (.br 12 (.br 13 (.br 15 (.br 16 .leaf .nil) .nil) .nil) .nil) .nil) .nil) .nil) (.br 5 (.br 2 (.br 10 (.br 11 (.br 12 (.br 13 (.br 15 (.br 16 .leaf .nil) .nil) .nil) .nil) .nil) .nil) .nil) .nil)) .nil)) .nil))) (.br 14 (.br 1 (.br 2 (.br 4 (.br 5 (.br 10 (.br 11 (.br 12 (.br 13 (.br 15 (.br 16 .leaf .nil) .nil) .nil) .nil) .nil) .nil) .nil) .nil) (.br 4 (.br 2 (.br 5 (.br 10 (.br 11 (.br 12 (.br 13 (.br 15 (.br 16 .leaf .nil) .nil) .nil) .nil) .nil) .nil) .nil) (.br 5 (.br 2 (.br 10 (.br 11 (.br 12 (.br 13 (.br 15 (.br 16 .leaf .nil) .nil) .nil) .nil) .nil) .nil) .nil) .nil)) .nil)) .nil) .nil)) .nil) .nil) .nil) .nil) .nil) .nil) (by decide +kernel) ?_ (fun K0 hW => ?_)
 ·(first|(refine And.intro (fun iw hiw => ?_) ?_;(focus ((try simp (maxSteps:=999999)(disch:=omega) only [go_sem] at hiw ⊢);(repeat (refine Eq.trans (if_neg ?_) ?_;(focus omega)));(first|exact hw iw (by omega)|rfl)));(focus (first|exact Nat.zero_le _|(simp (maxSteps:=999999)(disch:=omega) only [go_sem];done)|(simp (maxSteps:=999999)(disch:=omega) only [go_sem];omega))))|exact cS)
 replace hW:=lQ hW
 repeat' (first|exact cE|(refine dA (fun K' hK' => ?_) ?_)|(refine cj (hW _ ?_);clear hW)|((first|refine ae (h3) ?_|refine ae (h2) ?_);(try simp (maxSteps:=999999)(disch:=omega) only [go_sem]);and_intros;(all_goals first|(refine hK' _ ?_;clear hK' K')|trivial|omega|exact Nat.le_of_ble_eq_true rfl|exact aa|skip))|(simp (maxSteps:=999999)(disch:=omega) only [go_sem];and_intros;(all_goals first|(refine hK' _ ?_;clear hK' K')|trivial|omega|exact Nat.le_of_ble_eq_true rfl|exact aa|skip)))
 all_goals
  refine ji ?_
  repeat' (first|(refine aj (fun K hK => ?_);and_intros;all_goals first|(refine hK _ ?_;clear hK K)|try exact aa)|(refine ai ?_;(try clear hB KB);(try clear hK K)))
  rfl
theorem CI (m : Int) (n : Nat) (f : Nat → Nat → PV) (o : Op) (p : Pixel) (k : Int) (hm : Full m) (hp : PixV p m) (hk : 0 ≤ k) (hkm : k ≤ m) (ho : 0 ≤ o.opacity) (hom : o.opacity ≤ m) :
  aF Sg 132 [sY m n f,ag (eA o),ag (aW p),U k] (fun r=>r = .tup [ag (aW (aP m o p k)),B true]):=by
 have ht:True:=trivial
 unfold aP
 by_cases h:o.mask=0
 ·rw [if_pos h,vM hm]
  have hb:=nh p o.opacity m hm hp ho hom
  generalize cc p o.opacity m=q at *
  have g:(o.mask == 0)=true:=beq_iff_eq.2 h
  refine aI Tryz.func132 [.cell 8 37, .tmp 9] ?_
  repeat' (first|refine ak g ?_|refine an ?_|((first|refine aj (fun K hK => ?_)|refine ae (hb) ?_);and_intros;all_goals first|(refine hK _ ?_;clear hK K)|try exact aa)|(refine ai ?_;(try clear hB KB);(try clear hK K)))
  rfl
 ·rw [if_neg h]
  have hb:=BN p k o.opacity m hm hp hk hkm ho hom
  generalize cc (cc p k m) o.opacity m=q at *
  have g:(o.mask == 0)=false:=beq_eq_false_iff_ne.2 h
  refine aI Tryz.func132 [.cell 8 37, .tmp 9] ?_
  repeat' (first|refine ak g ?_|refine an ?_|((first|refine aj (fun K hK => ?_)|refine ae (hb) ?_);and_intros;all_goals first|(refine hK _ ?_;clear hK K)|try exact aa)|(refine ai ?_;(try clear hB KB);(try clear hK K)))
  rfl
theorem Gg (m : Int) (N n : Nat) (g f : Nat → Nat → PV) (o : Op) (p : Pixel) (t : Lv) (hl : n ≤ 1000) (hf : gA (f n) t) (hm : Full m) (ho : 1 ≤ o.operator ∧ o.operator ≤ 12) (hmo : 1 ≤ o.mode ∧ o.mode ≤ 12) (hp : PixV p m) (hv : AccV t.acc t.back m) (hko : t.op.knockout = true → o.operator = 4) :
  aF Sg 133 [sY m N g, .c (.p (.lst 23 (n+1) f)),ag (eA o),ag (aW p)] (fun r=>r = .tup [ag (vR (eX m o p t)),B true]):=by
 have ht:True:=trivial
 have hst:=As t.op.knockout o.operator o.mode m p t.acc t.back hm ho hmo hp hv hko
 have hpl:eX m o p t=⟨t.op,dI t.op.knockout o.operator o.mode m p t.acc t.back,t.back⟩:=rfl
 rw [hpl]
 obtain ⟨e0,e1,e2,e3,e4,e5,e6,e7,e8,e9,e10,e11,e12,e13,e14,e15,e16,e17,e18,e19,e20,e21,e22⟩:=Wq hf
 have hst2:aF Sg 171 [.c (.p (f n 11)),I o.operator,I o.mode,U m,ag (aW p),ag [f n 12,f n 13,f n 14,f n 15,f n 16,f n 17],ag [f n 18,f n 19,f n 20,f n 21,f n 22]] (fun r=>r = .tup [ag (cH (dI t.op.knockout o.operator o.mode m p t.acc t.back)),B true]):=by
  rw [e11,e12,e13,e14,e15,e16,e17,e18,e19,e20,e21,e22]
  exact hst
 generalize dI t.op.knockout o.operator o.mode m p t.acc t.back=q at *
 refine aI Tryz.func133 [.cell 8 184, .tmp 9] ?_
 repeat' (first|(((with_reducible refine bC (id:=2) [] (by decide +kernel) (by decide +kernel) ?_ (fun K hK => ?_));(first|(refine And.intro (fun iw hiw => ?_) ?_;(focus ((try simp (maxSteps:=999999)(disch:=omega) only [go_sem] at hiw ⊢);(repeat (refine Eq.trans (if_neg ?_) ?_;(focus omega)));(first|exact hw iw (by omega)|rfl)));(focus (first|exact Nat.zero_le _|(simp (maxSteps:=999999)(disch:=omega) only [go_sem];done)|(simp (maxSteps:=999999)(disch:=omega) only [go_sem];omega))))|exact cS));(try simp (maxSteps:=999999)(disch:=omega) only [go_sem]);and_intros;(all_goals first|(refine hK _ (by simp (maxSteps:=999999)(disch:=omega) only [go_sem]) ?_;clear hK K)|exact aa|skip))|((first|refine aj (fun K hK => ?_)|refine ae (hst2) ?_);and_intros;all_goals first|(refine hK _ ?_;clear hK K)|try exact aa))
 refine hK _ trivial ?_
 clear hK
 repeat' (first|(refine aj (fun K hK => ?_);and_intros;all_goals first|(refine hK _ ?_;clear hK K)|try exact aa)|(refine ai ?_;(try clear hB KB);(try clear hK K)))
 simp only [e0,e1,e2,e3,e4,e5,e6,e7,e8,e9,e10,e11,e12,e13,e14,e15,e16,e17,e18,e19,e20,e21,e22]
 rfl
theorem ph {bx:Nat→Option Bx} {b k n N e:Nat} {m:Int} {g:Nat→Nat→PV} (hb:bx b=some (.fix [.p (PU m), .own k n])) (hk:bx k=some (.arr e 23 N g)) (hN:n≤N):dp bx (.c (.ptr b 0))=sY m n g:=by
 have h0:eR bx (.own k n) = .p (.lst 23 n g):=by
  simp only [eR,hk,hN,if_true]
 have hf:(fun j=>(eR bx (([CV.p (PU m), .own k n]:List CV).getD (0+j) .any)).toP)=fun j=>[PU m, .lst 23 n g].getD j .any:=by
  funext j
  match j with
  | 0=>rfl
  | 1=>show (eR bx (.own k n)).toP=_;rw [h0];rfl
  | j+2=>rw [show 0+(j+2)=j+2 by omega];rfl
 simp only [dp,iX,hb]
 unfold sY
 rw [if_pos (Nat.zero_le _)]
 exact congrArg (fun g=>BV.c (.ipt 2 g 0)) hf
theorem kz {st : St} {f : FuncId} {K : SV → St → Prop} {X : SV} {b k n N e : Nat} {m : Int} {g : Nat → Nat → PV} {q : Prop} (hN : n ≤ N) (h : aF Sg f [sY m n g] (fun r => r = X)) (hf : X.flat) (hk : q)
  (h1:st.bx b=some (.fix [.p (PU m), .own k n]):=by (first|(simp (maxSteps:=999999)(disch:=omega) only [go_sem];done)|rfl|fail)) (h2:st.bx k=some (.arr e 23 N g):=by (first|(simp (maxSteps:=999999)(disch:=omega) only [go_sem];done)|rfl|fail)) (hp:Sg.rcv (f+1000000)=false:=by rfl)
  (w:q→K X st:=by (first|(intro h;first|(simp (maxSteps:=999999)(disch:=omega) only [go_sem];exact h)|exact h)|fail)):eB Sg st f [.c (.ptr b 0)] (Sl.of K):=by
 refine .lend [sY m n g] X h ?_ ?_ hf (w hk) hp
 ·rw [List.map_cons,List.map_nil,ph h1 h2 hN];exact dB _
 ·intro x hx
  rw [List.mem_singleton.1 hx]
  trivial
theorem pb {bx:Nat→Option Bx}:∀ {l:List PV},dp bx (ag l)=ag l:=by
 intro l
 show BV.agg ((l.map CV.p).map (iX bx))=BV.agg (l.map CV.p)
 rw [List.map_map]
 rfl
theorem AJ {l:List PV}:BV.lt 0 (ag l):=fun c hc=>by
 obtain ⟨x,_,rfl⟩:=List.mem_map.1 hc
 trivial
theorem Jy {p:Pixel}:(SV.tup [ag (aW p),B true]).flat:=fun v hv=>by
 rcases List.mem_cons.1 hv with rfl|hv
 ·exact mR p
 ·rw [List.mem_singleton.1 hv];trivial
theorem Cr {t:Lv}:(SV.tup [ag (vR t),B true]).flat:=fun v hv=>by
 rcases List.mem_cons.1 hv with rfl|hv
 ·exact yQ t
 ·rw [List.mem_singleton.1 hv];trivial
theorem pM {st : St} {K : SV → St → Prop} (b k n N e : Nat) (f : Nat → Nat → PV) (m : Int) (o : Op) (p : Pixel) (ms : Int) (hN : n ≤ N) (hb : st.bx b = some (.fix [.p (PU m), .own k n])) (hk : st.bx k = some (.arr e 23 N f))
  (hm:Full m) (hp:PixV p m) (h0:0≤ms) (h1:ms≤m) (ho:0≤o.opacity) (hom:o.opacity≤m) (hK:K (.tup [ag (aW (aP m o p ms)),B true]) st) :
  eB Sg st 132 [.c (.ptr b 0),ag (eA o),ag (aW p),U ms] (Sl.of K):=by
 refine .lend [sY m n f,ag (eA o),ag (aW p),U ms] _ (CI m n f o p ms hm hp h0 h1 ho hom) ?_ ?_ Jy hK rfl
 ·rw [List.map_cons,List.map_cons,List.map_cons,List.map_cons,List.map_nil,ph hb hk hN,pb,pb];exact dB _
 ·intro x hx
  simp only [List.mem_cons,List.not_mem_nil,or_false] at hx
  rcases hx with rfl|rfl|rfl|rfl
  ·trivial
  ·exact AJ
  ·exact AJ
  ·trivial
theorem rN {st : St} {K : SV → St → Prop} (b k M N n e : Nat) (f : Nat → Nat → PV) (m : Int) (o : Op) (p : Pixel) (t : Lv) (hMN : M ≤ N) (hnN : n + 1 ≤ N) (hb : st.bx b = some (.fix [.p (PU m), .own k M])) (hk : st.bx k = some (.arr e 23 N f))
  (hl:n≤1000) (hf:gA (f n) t) (hm:Full m) (ho:1≤o.operator∧o.operator≤12) (hmo:1≤o.mode∧o.mode≤12) (hp:PixV p m) (hv:AccV t.acc t.back m) (hko:t.op.knockout=true→o.operator=4) (hK:K (.tup [ag (vR (eX m o p t)),B true]) st) :
  eB Sg st 133 [.c (.ptr b 0), .c (.own k (n+1)),ag (eA o),ag (aW p)] (Sl.of K):=by
 refine .lend [sY m M f, .c (.p (.lst 23 (n+1) f)),ag (eA o),ag (aW p)] _ (Gg m M n f f o p t hl hf hm ho hmo hp hv hko) ?_ ?_ Cr hK rfl
 ·have e2:dp st.bx (.c (.own k (n+1))) = .c (.p (.lst 23 (n+1) f)):=by
   simp only [dp,iX,eR,hk,hnN,if_true]
  rw [List.map_cons,List.map_cons,List.map_cons,List.map_cons,List.map_nil,ph hb hk hMN,pb,pb,e2];exact dB _
 ·intro x hx
  simp only [List.mem_cons,List.not_mem_nil,or_false] at hx
  rcases hx with rfl|rfl|rfl|rfl
  ·trivial
  ·trivial
  ·exact AJ
  ·exact AJ
end Go.Proofs.YtcbifofjjpfbcaaGreatDoor
set_option maxHeartbeats 8000000
set_option maxRecDepth 16000
namespace Go.Proofs.YtcbifofjjpfbcaaGreatDoor
open Go Go.SL
open Go.RowKit (wrap64)
attribute [local go_sem] cH vR cz Int.toNat_natCast
theorem Bu {l:List (Nat × SV)} {b:List (Nat × Bx)} {nx:Nat} (h:((b.map (·.1)).all fun i=>Nat.blt i nx)=true):gS 0 (bg l b nx):=⟨fun i hi=>by
 have hi:nx≤i:=hi
 show iS b i=none
 cases hx:iS b i with
 | none=>rfl
 | some x =>
  have:=List.all_eq_true.1 h i (List.mem_map.2 ⟨_,iy hx,rfl⟩)
  have:=Nat.le_of_ble_eq_true this
  omega,Nat.zero_le _⟩
theorem Ef {st:St} {id:Nat} {x:Bx} (hid:id<st.nx) (h:gS 0 st):gS 0 (st.setBox id x):=⟨fun i hi=>by
 have hi:st.nx≤i:=hi
 show (if i=id then some x else st.bx i)=none
 rw [if_neg (by omega)]
 exact h.1 i hi,Nat.zero_le _⟩
theorem ki {f g:Nat→Nat→PV}:∀ {st:List Lv},(∀ i,i<st.length→∀ j,g i j=f i j)→DT f st→DT g st
 | [],_,_=>trivial
 | t :: r,h,⟨h1,h2⟩=>⟨fun j hj=>by rw [h r.length (by simp) j];exact h1 j hj,ki (fun i hi j=>h i (by simp;omega) j) h2⟩
end Go.Proofs.YtcbifofjjpfbcaaGreatDoor
set_option maxHeartbeats 4000000
set_option maxRecDepth 16000
namespace Go.Proofs.YtcbifofjjpfbcaaGreatDoor
open Go Go.SL
open Go.RowKit (wrap64)
attribute [local go_sem] Int.toNat_natCast
def Pr (r:Rect) (x:Int):Int:=r.x0+x % (r.x1 - r.x0)
def Pz (r:Rect) (y:Int):Int:=r.y0+y % (r.y1 - r.y0)
theorem HJ (r:Rect) (x y:Int) (hr:Small r):aF Sg 25 [ag (bc r),I x,I y] (fun q=>q = .tup [I (Pr r x),I (Pz r y)]):=by
 have ht:True:=trivial
 obtain ⟨x0,x1,y0,y1,hw,hh⟩:=hr
 have h1:=cL x (r.x1 - r.x0) (by omega) (by omega)
 have h2:=cL y (r.y1 - r.y0) (by omega) (by omega)
 have a1:=Int.emod_nonneg x (show r.x1 - r.x0≠0 by omega)
 have a2:=Int.emod_lt_of_pos x (show 0<r.x1 - r.x0 by omega)
 have a3:=Int.emod_nonneg y (show r.y1 - r.y0≠0 by omega)
 have a4:=Int.emod_lt_of_pos y (show 0<r.y1 - r.y0 by omega)
 unfold Pr Pz
 generalize x % (r.x1 - r.x0)=a at *
 generalize y % (r.y1 - r.y0)=b at *
 refine aI Tryz.func25 [.tmp 6, .tmp 7] ?_
 repeat' (first|with_reducible exact aK|((first|refine aj (fun K hK => ?_)|refine ae (h1) ?_|refine ae (h2) ?_);and_intros;all_goals first|(refine hK _ ?_;clear hK K)|try exact aa)|(refine ai ?_;(try clear hB KB);(try clear hK K)))
theorem PK {r:Rect} (hr:Small r) (x y:Int):iO r (Pr r x) (Pz r y):=by
 obtain ⟨x0,x1,y0,y1,hw,hh⟩:=hr
 have a1:=Int.emod_nonneg x (show r.x1 - r.x0≠0 by omega)
 have a2:=Int.emod_lt_of_pos x (show 0<r.x1 - r.x0 by omega)
 have a3:=Int.emod_nonneg y (show r.y1 - r.y0≠0 by omega)
 have a4:=Int.emod_lt_of_pos y (show 0<r.y1 - r.y0 by omega)
 unfold Pr Pz iO
 omega
end Go.Proofs.YtcbifofjjpfbcaaGreatDoor
set_option maxHeartbeats 1000000
namespace Go.Proofs.YtcbifofjjpfbcaaGreatDoor
def sJ (a:Acc):Pixel:=⟨a.c0,a.c1,a.c2,a.a,a.f⟩
def Vu (m:Int) (o:Op) (p:Pixel) (k:Int):Pixel:=if o.mask=0 then p else cc p k m
def Pv (m:Int) (i:Nat) (o:Op) (p:Pixel) (k:Int):List Mic :=
 (if o.mask=0 then [] else [⟨i,2,p,ba,k,cc p k m⟩]) ++ [⟨i,3,Vu m o p k,ba,o.opacity,aP m o p k⟩]
def Xo (m:Int) (z:Op→Pixel × Int) (i:Nat) (st:List Lv) (o:Op):List Mic :=
 match st with
 | []=>[]
 | t :: r =>
  if o.kind=1 then ⟨i,1,ba,ba,0,(z o).1⟩ :: (Pv m i o (z o).1 (z o).2 ++ [⟨i,4,aP m o (z o).1 (z o).2,sJ t.acc,0,sJ (eX m o (aP m o (z o).1 (z o).2) t).acc⟩])
  else if o.kind=2 then [⟨i,5,ba,ba,0,(jA o t).back⟩]
  else match r with
   | []=>[]
   | u :: _ => ⟨i, 6, ba, ba, 0, bB t.acc t.back m⟩ :: (Pv m i t.op (bB t.acc t.back m) (z t.op).2 ++
     [⟨i,4,aP m t.op (bB t.acc t.back m) (z t.op).2,sJ u.acc,0,sJ (eX m t.op (aP m t.op (bB t.acc t.back m) (z t.op).2) u).acc⟩])
def Cs (m:Int) (z:Op→Pixel × Int) (ops:List Op):Nat→List Mic
 | 0=>[]
 | n+1=>Cs m z ops n ++ Xo m z n (jM m z ops n) (aB ops n)
section
variable {s:Script} {m x y:Int}
end
end Go.Proofs.YtcbifofjjpfbcaaGreatDoor
namespace Go.Proofs.YtcbifofjjpfbcaaGreatDoor
open Go Go.SL
open Go.RowKit (wrap64)
def vE (s:Script) (x y:Int):Pixel:=if mc s x y=0 then dH s x y else ba
def EJ (s:Script) (x y:Int):List Mic:=if mc s x y=0 then Cs (bA s.bits) (cD s x y) s.ops s.ops.length else []
theorem PG {s:Script} {m x y:Int} (C:Pt s m x y):mc s x y=0∧vE s x y=dH s x y∧EJ s x y=Cs m (cD s x y) s.ops s.ops.length:=by
 have h:mc s x y=0:=by
  unfold mc
  rw [lv C.V C.im,if_neg (by decide)]
  rw [Es.2 ⟨C.c,C.xy⟩,if_neg (by decide)]
 refine ⟨h, ?_, ?_⟩
 ·unfold vE;rw [if_pos h]
 ·unfold EJ;rw [if_pos h,C.mx]
end Go.Proofs.YtcbifofjjpfbcaaGreatDoor
set_option maxHeartbeats 4000000
set_option maxRecDepth 16000
namespace Go.Proofs.YtcbifofjjpfbcaaGreatDoor
open Go Go.SL
open Go.RowKit (wrap64)
theorem zg (r:Rect) (x y:Int):aF Sg 85 [ag (bc r),I x,I y] (fun q=>q = .b (B (AZ r x y))):=by
 have ht:True:=trivial
 have h1:=cN r
 refine aI Tryz.func85 [.tmp 6] ?_
 repeat' (first|((first|refine aj (fun K hK => ?_)|refine ae (h1) ?_);and_intros;all_goals first|(refine hK _ ?_;clear hK K)|try exact aa)|(refine ai ?_;(try clear hB KB);(try clear hK K)))
 first|rfl|(unfold AZ;rfl)|(refine congrArg (fun v=>SV.b (B v)) ?_;unfold AZ;simp)
theorem FG (s:Script) (x y:Int) (E:EvOk s):aF Sg 58 [ag (aL s),I x,I y] (fun r=>r = .b (I (mc s x y))):=by
 have ht:True:=trivial
 have h1:=oX s E.len (fun h=>⟨ij h,fun m hm=>(E.im h m hm).1⟩)
 have h2:=zg s.canvas x y
 unfold mc
 by_cases hc:(bQ s).1=0
 ·rw [if_neg (by rw [Decidable.not_not];exact hc)]
  rw [hc] at h1
  cases hk:AZ s.canvas x y
  ·rw [if_pos rfl]
   rw [hk] at h2
   refine aI Tryz.func58 [.tmp 6] ?_
   repeat' (first|with_reducible exact aK|refine ak ht ?_|refine an ?_|((first|refine aj (fun K hK => ?_)|refine ae (h1) ?_|refine ae (h2) ?_);and_intros;all_goals first|(refine hK _ ?_;clear hK K)|try exact aa)|(refine ai ?_;(try clear hB KB);(try clear hK K)))
  ·rw [if_neg (by decide)]
   rw [hk] at h2
   refine aI Tryz.func58 [.tmp 6] ?_
   repeat' (first|with_reducible exact aK|refine ak ht ?_|refine an ?_|((first|refine aj (fun K hK => ?_)|refine ae (h1) ?_|refine ae (h2) ?_);and_intros;all_goals first|(refine hK _ ?_;clear hK K)|try exact aa)|(refine ai ?_;(try clear hB KB);(try clear hK K)))
 ·rw [if_pos hc]
  have g0:((bQ s).1 != 0)=true:=by rw [bne_iff_ne];exact hc
  refine aI Tryz.func58 [.tmp 6] ?_
  repeat' (first|with_reducible exact aK|refine ak g0 ?_|refine an ?_|((first|refine aj (fun K hK => ?_)|refine ae (h1) ?_);and_intros;all_goals first|(refine hK _ ?_;clear hK K)|try exact aa)|(refine ai ?_;(try clear hB KB);(try clear hK K)))
end Go.Proofs.YtcbifofjjpfbcaaGreatDoor
set_option maxHeartbeats 1000000
namespace Go.Proofs.YtcbifofjjpfbcaaGreatDoor
theorem rI {s:Script}:eL s=mq s s.canvas:=rfl
end Go.Proofs.YtcbifofjjpfbcaaGreatDoor
set_option maxRecDepth 8000
set_option maxHeartbeats 8000000
namespace Go.Proofs.YtcbifofjjpfbcaaGreatDoor
open Go Go.SL
open Go.RowKit (wrap64)
theorem PO {r:Rect} (hr:Small r) (x y:Int):i64 (Pr r x)∧i64 (Pz r y):=by
 obtain ⟨i1,i2,i3,i4⟩:=PK hr x y
 obtain ⟨x0,x1,y0,y1,hw,hh⟩:=hr
 exact ⟨⟨by omega,by omega⟩,⟨by omega,by omega⟩⟩
end Go.Proofs.YtcbifofjjpfbcaaGreatDoor
set_option maxHeartbeats 4000000
set_option maxRecDepth 16000
namespace Go.Proofs.YtcbifofjjpfbcaaGreatDoor
open Go Go.SL
open Go.RowKit (wrap64)
attribute [local go_sem] cH vR cz Int.toNat_natCast bU
attribute [local go_sem] VJ
theorem HW (bx : Nat → Option Bx) (nx : Nat) (m : Int) (hm : Full m) (hw : ∀ i, nx ≤ i → bx i = none) : ∃ F : Nat → Nat → PV, gA (F 0) base ∧ nY Sg bx nx 86 [U m] (.tup [.c (.ptr (nx + 1) 0), I 0])
  (aN (nx+1) (.fix [.p (PU m), .own nx 1]) (aN nx (.arr 184 23 1 F) bx)) (nx+2):=by
 have g:(m != 255 && m != 65535)=false:=by rcases hm.h with q|q <;> rw [q] <;> rfl
 refine ⟨?F, ?hF, ?hI⟩
 case hI =>
  refine nQ Tryz.func86 rfl (rs:=[.tmp 2, .tmp 3]) rfl rfl gp (by decide +kernel) (Nat.le_of_ble_eq_true rfl) ?_ (fun kf => ?_)
  ·intro v hv
   rw [List.mem_singleton.1 hv];trivial
  repeat' (first|refine ak g ?_|refine an ?_|(refine aj (fun K hK => ?_);and_intros;all_goals first|(refine hK _ ?_;clear hK K)|try exact aa)|(refine ai ?_;(try clear hB KB);(try clear hK K)))
  refine ⟨EI hw ?_ ?_ (fun i hi h1 h2 => ?_),by omega⟩
  ·simp (maxSteps:=999999)(disch:=omega) only [go_sem]
  ·simp (maxSteps:=999999)(disch:=omega) only [go_sem]
   rfl
  ·simp (maxSteps:=999999)(disch:=omega) only [go_sem]
 intro j hj
 have hivl:j=0∨j=1∨j=2∨j=3∨j=4∨j=5∨j=6∨j=7∨j=8∨j=9∨j=10∨j=11∨j=12∨j=13∨j=14∨j=15∨j=16∨j=17∨j=18∨j=19∨j=20∨j=21∨j=22:=by omega
 rcases hivl with rfl|rfl|rfl|rfl|rfl|rfl|rfl|rfl|rfl|rfl|rfl|rfl|rfl|rfl|rfl|rfl|rfl|rfl|rfl|rfl|rfl|rfl|rfl <;> rfl
theorem Gt (bx : Nat → Option Bx) (nx b k n N : Nat) (hN : n + 1 ≤ N) (f : Nat → Nat → PV) (m : Int) (o : Op) (p : Pixel) (ms : Int) (t : Lv)
  (hb:bx b=some (.fix [.p (PU m), .own k (n+1)])) (hk:bx k=some (.arr 184 23 N f)) (hbn:b<nx) (hkn:k<nx) (hbk:b≠k) (hn:n≤1000) (hf:gA (f n) t)
  (hm:Full m) (hkd:o.kind=1) (ho:1≤o.operator∧o.operator≤12) (hmo:1≤o.mode∧o.mode≤12) (hop:0≤o.opacity∧o.opacity≤m) (hp:PixV p m) (hms:0≤ms∧ms≤m) (hv:AccV t.acc t.back m) (hko:t.op.knockout=true→o.operator=4) (hw:∀ i,nx≤i→bx i=none) :
  ∃ F:Nat→Nat→PV,(gA (F n) (eX m o (aP m o p ms) t)∧∀ i,i<n→∀ j,F i j=f i j) ∧
  nY Sg bx nx 95 [.c (.ptr b 0),ag (eA o),ag (aW p),U ms] (.tup [ag (aW (aP m o p ms)),I 0]) (aN k (.arr 184 23 N F) bx) (nx+5):=by
 have hsv:=mN (o:=o) hm hp hms.1 hms.2 hop.1 hop.2
 have hvs:=jv p m
 rw [jZ hp] at hvs
 have e:bx=aN b (.fix [.p (PU m), .own k (n+1)]) (aN k (.arr 184 23 N f) bx):=by rw [← cR hk];exact cR hb
 have g:(o.kind != 1)=false:=by rw [bne_eq_false_iff_eq];exact hkd
 have hsc:=fun (st:St) (K:SV→St→Prop) hb hk hK=>pM (st:=st) (K:=K) b k (n+1) N 184 f m o p ms hN hb hk hm hp hms.1 hms.2 hop.1 hop.2 hK
 have hpt:=fun (st:St) (K:SV→St→Prop) hb hk hK=>rN (st:=st) (K:=K) b k (n+1) N n 184 f m o (aP m o p ms) t hN hN hb hk hn hf hm ho hmo hsv hv hko hK
 generalize aP m o p ms=q at *
 generalize eX m o q t=t' at *
 refine ⟨?F,⟨?hF, ?hG⟩, ?hI⟩
 case hI =>
  refine nQ Tryz.func95 rfl (rs:=[.cell 8 37, .tmp 9]) rfl rfl gp (by decide +kernel) (Nat.le_of_ble_eq_true rfl) ?_ (fun kf => ?_)
  ·intro v hv
   simp only [List.mem_cons,List.not_mem_nil,or_false] at hv
   rcases hv with rfl|rfl|rfl|rfl
   ·exact hbn
   ·exact fun c hc=>by (obtain ⟨x,_,rfl⟩:=List.mem_map.1 hc;trivial)
   ·exact fun c hc=>by (obtain ⟨x,_,rfl⟩:=List.mem_map.1 hc;trivial)
   ·trivial
  rw [e]
  repeat' (first|(((with_reducible refine bC (id:=1) [] (by decide +kernel) (by decide +kernel) ?_ (fun K hK => ?_));(first|(refine And.intro (fun iw hiw => ?_) ?_;(focus ((try simp (maxSteps:=999999)(disch:=omega) only [go_sem] at hiw ⊢);(repeat (refine Eq.trans (if_neg ?_) ?_;(focus omega)));(first|exact hw iw (by omega)|rfl)));(focus (first|exact Nat.zero_le _|(simp (maxSteps:=999999)(disch:=omega) only [go_sem];done)|(simp (maxSteps:=999999)(disch:=omega) only [go_sem];omega))))|exact cS));(try simp (maxSteps:=999999)(disch:=omega) only [go_sem]);and_intros;(all_goals first|(refine hK _ (by simp (maxSteps:=999999)(disch:=omega) only [go_sem]) ?_;clear hK K)|exact aa|skip))|refine an ?_|((first|refine aj (fun K hK => ?_)|refine aq (fun hg=>hvs) ?_);and_intros;all_goals first|(refine hK _ ?_;clear hK K)|try exact aa))
  refine hK _ trivial ?_
  clear hK
  repeat' (first|refine ak g ?_|refine an ?_|(refine aj (fun K hK => ?_);and_intros;all_goals first|(refine hK _ ?_;clear hK K)|try exact aa))
  refine hsc _ _ ?_ ?_ ?_
  ·simp (maxSteps:=999999)(disch:=omega) only [go_sem]
  ·simp (maxSteps:=999999)(disch:=omega) only [go_sem]
  simp (maxSteps:=999999)(disch:=omega) only [go_sem]
  refine hK _ ?_
  clear hK
  repeat' (first|refine ak g ?_|refine an ?_|(refine aj (fun K hK => ?_);and_intros;all_goals first|(refine hK _ ?_;clear hK K)|try exact aa))
  refine mn (id:=6) (.br 0 (.br 1 (.br 2 (.br 3 (.br 4 (.br 5 (.br 6 (.br 7 (.br 8 (.br 9 (.br 10 (.br 11 (.br 12 (.br 13 .leaf .nil) .nil) .nil) .nil) .nil) .nil) (.br 11 (.br 7 (.br 8 (.br 9 (.br 10 (.br 12 (.br 13 .leaf .nil) .nil) .nil) .nil) .nil) .nil) .nil)) .nil) .nil) .nil) .nil) .nil) .nil) .nil) (by decide +kernel) ?_ (fun K0 hW => ?_)
  ·(first|(refine And.intro (fun iw hiw => ?_) ?_;(focus ((try simp (maxSteps:=999999)(disch:=omega) only [go_sem] at hiw ⊢);(repeat (refine Eq.trans (if_neg ?_) ?_;(focus omega)));(first|exact hw iw (by omega)|rfl)));(focus (first|exact Nat.zero_le _|(simp (maxSteps:=999999)(disch:=omega) only [go_sem];done)|(simp (maxSteps:=999999)(disch:=omega) only [go_sem];omega))))|exact cS)
  replace hW:=lQ hW
  repeat' (first|exact cE|(refine dA (fun K' hK' => ?_) ?_)|(simp (maxSteps:=999999)(disch:=omega) only [go_sem];and_intros;(all_goals first|(refine hK' _ ?_;clear hK' K')|trivial|omega|exact Nat.le_of_ble_eq_true rfl|exact aa|skip)))
  all_goals
   refine hpt _ _ ?_ ?_ ?_
   ·simp (maxSteps:=999999)(disch:=omega) only [go_sem]
   ·simp (maxSteps:=999999)(disch:=omega) only [go_sem]
   simp (maxSteps:=999999)(disch:=omega) only [go_sem]
   refine hK' _ ?_
   clear hK' K'
   repeat' (first|exact cE|(refine dA (fun K' hK' => ?_) ?_)|(refine cj (hW _ ?_);clear hW)|(simp (maxSteps:=999999)(disch:=omega) only [go_sem];and_intros;(all_goals first|(refine hK' _ ?_;clear hK' K')|trivial|omega|exact Nat.le_of_ble_eq_true rfl|exact aa|skip)))
   refine ji ?_
   repeat' (first|refine ak g ?_|(((with_reducible refine bC (id:=9) [] (by decide +kernel) (by decide +kernel) ?_ (fun K hK => ?_));(first|(refine And.intro (fun iw hiw => ?_) ?_;(focus ((try simp (maxSteps:=999999)(disch:=omega) only [go_sem] at hiw ⊢);(repeat (refine Eq.trans (if_neg ?_) ?_;(focus omega)));(first|exact hw iw (by omega)|rfl)));(focus (first|exact Nat.zero_le _|(simp (maxSteps:=999999)(disch:=omega) only [go_sem];done)|(simp (maxSteps:=999999)(disch:=omega) only [go_sem];omega))))|exact cS));(try simp (maxSteps:=999999)(disch:=omega) only [go_sem]);and_intros;(all_goals first|(refine hK _ (by simp (maxSteps:=999999)(disch:=omega) only [go_sem]) ?_;clear hK K)|exact aa|skip))|refine an ?_|(refine aj (fun K hK => ?_);and_intros;all_goals first|(refine hK _ ?_;clear hK K)|try exact aa)|(refine ai ?_;(try clear hB KB);(try clear hK K)))
   refine ⟨rfl,ye (bx:=aN b (.fix [.p (PU m), .own k (n+1)]) (aN k (.arr 184 23 N f) bx)) (nx:=nx) ?_ ?_ (fun i hi h1 => ?_)⟩
   ·rw [← e];exact hw
   ·(first|(simp (maxSteps:=999999)(disch:=omega) only [go_sem];done)|(simp (maxSteps:=999999)(disch:=omega) only [go_sem];rfl))
   ·simp (maxSteps:=999999)(disch:=omega) only [go_sem]
 ·intro j hj
  dsimp only
  rw [if_pos rfl]
  have hivl:j=0∨j=1∨j=2∨j=3∨j=4∨j=5∨j=6∨j=7∨j=8∨j=9∨j=10∨j=11∨j=12∨j=13∨j=14∨j=15∨j=16∨j=17∨j=18∨j=19∨j=20∨j=21∨j=22:=by omega
  rcases hivl with rfl|rfl|rfl|rfl|rfl|rfl|rfl|rfl|rfl|rfl|rfl|rfl|rfl|rfl|rfl|rfl|rfl|rfl|rfl|rfl|rfl|rfl|rfl <;> rfl
 ·intro i hi j
  exact if_neg (by omega)
end Go.Proofs.YtcbifofjjpfbcaaGreatDoor
set_option maxHeartbeats 8000000
set_option maxRecDepth 16000
namespace Go.Proofs.YtcbifofjjpfbcaaGreatDoor
open Go Go.SL
open Go.RowKit (wrap64)
attribute [local go_sem] Int.toNat_natCast bU zm cH
attribute [local go_sem] CU Pq
theorem ka (a:Acc):aF Sg 96 [ag (cH a)] (fun r=>r = .b (ag (aW (sJ a)))):=by
 have ht:True:=trivial
 unfold sJ
 refine aI Tryz.func96 [.cell 2 37] ?_
 repeat' (first|(refine aj (fun K hK => ?_);and_intros;all_goals first|(refine hK _ ?_;clear hK K)|try exact aa)|(refine ai ?_;(try clear hB KB);(try clear hK K)))
 rfl
theorem nE (a0 a1 a2 a3 a4 a5 a6 a7 a8 a9 a10 a11 a12 a13 a14 a15 a16 a17:PV):aF Sg 60 [ag [a0,a1,a2,a3,a4,a5,a6,a7,a8,a9,a10,a11,a12,a13,a14,a15,a16,a17]] (fun r=>r = .tup []):=by
 have ht:True:=trivial
 refine aI Tryz.func60 [] ?_
 repeat' (refine aj (fun K hK => ?_);and_intros;all_goals first|(refine hK _ ?_;clear hK K)|try exact aa)
 exact ⟨trivial,fun _ h=>(by cases h),rfl⟩
attribute [local go_sem] gU
theorem oR (bx : Nat → Option Bx) (nx b5 b2 b3 b1 : Nat) (kd k m : Int) (p : Pixel) (v : Mic) (h5 : bx b5 = some (.fix ((aW p).map CV.p))) (h2 : bx b2 = some (.fix [.p (PU m)])) (h3 : bx b3 = some (.fix [.p (.val (.func (.func 60) #[] #[]))])) (h1 : bx b1 = some (.fix ((zm v).map CV.p)))
  (n5:b5<nx) (n2:b2<nx) (n3:b3<nx) (n1:b1<nx) (d52:b5≠b2) (d53:b5≠b3) (d51:b5≠b1) (d23:b2≠b3) (d21:b2≠b1) (d31:b3≠b1)
  (hm:Full m) (hp:PixV p m) (hk:0≤k) (hkm:k≤m) (hw:∀ i,nx≤i→bx i=none) :
  nY Sg bx nx 129 [I kd,U k, .c (.ptr b5 0), .c (.ptr b2 0), .c (.ptr b3 0), .c (.ptr b1 0)] (.tup []) (aN b5 (.fix ((aW (cc p k m)).map CV.p)) bx) (nx+1):=by
 have hs:=nh p k m hm hp hk hkm
 have e:bx=aN b5 (.fix ((aW p).map CV.p)) (aN b2 (.fix [.p (PU m)]) (aN b3 (.fix [.p (.val (.func (.func 60) #[] #[]))]) (aN b1 (.fix ((zm v).map CV.p)) bx))):=by
  rw [← cR h1,← cR h3,← cR h2];exact cR h5
 have ht:True:=trivial
 generalize cc p k m=q at *
 refine nQ Tryz.func129 rfl (rs:=[]) rfl rfl gp (by decide +kernel) (Nat.le_of_ble_eq_true rfl) ?_ (fun kf => ?_)
 ·intro v hv
  simp only [List.mem_cons,List.not_mem_nil,or_false] at hv
  rcases hv with rfl|rfl|rfl|rfl|rfl|rfl
  ·trivial
  ·trivial
  ·exact n5
  ·exact n2
  ·exact n3
  ·exact n1
 rw [e]
 repeat' ((first|refine aj (fun K hK => ?_)|refine ae (hs) ?_|refine ae (nE _ _ _ _ _ _ _ _ _ _ _ _ _ _ _ _ _ _) ?_);and_intros;all_goals first|(refine hK _ ?_;clear hK K)|try exact aa)
 refine ⟨trivial,rfl,ye (bx:=aN b5 (.fix ((aW p).map CV.p)) (aN b2 (.fix [.p (PU m)]) (aN b3 (.fix [.p (.val (.func (.func 60) #[] #[]))]) (aN b1 (.fix ((zm v).map CV.p)) bx)))) (nx:=nx) ?_ ?_ (fun i hi h1 => ?_), ?_, ?_, ?_⟩
 ·rw [← e];exact hw
 ·(first|(simp (maxSteps:=999999)(disch:=omega) only [go_sem];done)|(simp (maxSteps:=999999)(disch:=omega) only [go_sem];rfl))
 ·simp (maxSteps:=999999)(disch:=omega) only [go_sem]
 ·simp (maxSteps:=999999)(disch:=omega) only [go_sem]
 ·rfl
 ·exact fun v hv=>(by cases hv)
theorem ry (o:Op) (v:Mic) (k m:Int) (hm:Full m) (hp:PixV v.out m) (hk:0≤k) (hkm:k≤m) (ho:0≤o.opacity) (hom:o.opacity≤m):aF Sg 92 [ag (eA o),ag (zm v),U k,U m,gU] (fun r=>r = .b (ag (aW (aP m o v.out k)))):=by
 have ht:True:=trivial
 unfold aP
 by_cases h:o.mask=0
 ·rw [if_pos h,vM hm]
  have g:(o.mask != 0)=false:=bne_eq_false_iff_eq.2 h
  refine aI Tryz.func92 [.cell 10 37] ?_
  repeat' (first|refine ak g ?_|refine an ?_|((first|refine aj (fun K hK => ?_)|refine ae (nE _ _ _ _ _ _ _ _ _ _ _ _ _ _ _ _ _ _) ?_);and_intros;all_goals first|(refine hK _ ?_;clear hK K)|try exact aa))
  refine eO (oR _ _ 5 2 3 1 3 o.opacity m v.out v ?_ ?_ ?_ ?_ ?_ ?_ ?_ ?_ (by decide) (by decide) (by decide) (by decide) (by decide) (by decide) hm hp ho hom ?_) rfl ?_ ?_ ?_
  ·simp (maxSteps:=999999)(disch:=omega) only [go_sem]
  ·simp (maxSteps:=999999)(disch:=omega) only [go_sem]
  ·simp (maxSteps:=999999)(disch:=omega) only [go_sem]
  ·simp (maxSteps:=999999)(disch:=omega) only [go_sem]
  ·(first|(simp (maxSteps:=999999)(disch:=omega) only [go_sem];done)|(simp (maxSteps:=999999)(disch:=omega) only [go_sem];omega))
  ·(first|(simp (maxSteps:=999999)(disch:=omega) only [go_sem];done)|(simp (maxSteps:=999999)(disch:=omega) only [go_sem];omega))
  ·(first|(simp (maxSteps:=999999)(disch:=omega) only [go_sem];done)|(simp (maxSteps:=999999)(disch:=omega) only [go_sem];omega))
  ·(first|(simp (maxSteps:=999999)(disch:=omega) only [go_sem];done)|(simp (maxSteps:=999999)(disch:=omega) only [go_sem];omega))
  ·intro iw hiw
   (try simp (maxSteps:=999999)(disch:=omega) only [go_sem] at hiw ⊢)
   (repeat (refine Eq.trans (if_neg ?_) ?_;(focus omega)))
   (try rfl)
  ·intro iw hiw
   (try simp (maxSteps:=999999)(disch:=omega) only [go_sem] at hiw ⊢)
   (repeat (refine Eq.trans (if_neg ?_) ?_;(focus omega)))
   (try rfl)
  ·exact Nat.le_succ _
  simp (maxSteps:=999999)(disch:=omega) only [go_sem]
  refine hK _ ?_
  clear hK
  repeat' (first|(refine aj (fun K hK => ?_);and_intros;all_goals first|(refine hK _ ?_;clear hK K)|try exact aa)|(refine ai ?_;(try clear hB KB);(try clear hK K)))
  rfl
 ·rw [if_neg h]
  have g:(o.mask != 0)=true:=bne_iff_ne.2 h
  have hp2:=pT hm hp hk hkm
  generalize hq:cc v.out k m=q at hp2 ⊢
  refine aI Tryz.func92 [.cell 10 37] ?_
  repeat' (first|refine ak g ?_|refine an ?_|((first|refine aj (fun K hK => ?_)|refine ae (nE _ _ _ _ _ _ _ _ _ _ _ _ _ _ _ _ _ _) ?_);and_intros;all_goals first|(refine hK _ ?_;clear hK K)|try exact aa))
  refine eO (oR _ _ 5 2 3 1 2 k m v.out v ?_ ?_ ?_ ?_ ?_ ?_ ?_ ?_ (by decide) (by decide) (by decide) (by decide) (by decide) (by decide) hm hp hk hkm ?_) rfl ?_ ?_ ?_
  ·simp (maxSteps:=999999)(disch:=omega) only [go_sem]
  ·simp (maxSteps:=999999)(disch:=omega) only [go_sem]
  ·simp (maxSteps:=999999)(disch:=omega) only [go_sem]
  ·simp (maxSteps:=999999)(disch:=omega) only [go_sem]
  ·(first|(simp (maxSteps:=999999)(disch:=omega) only [go_sem];done)|(simp (maxSteps:=999999)(disch:=omega) only [go_sem];omega))
  ·(first|(simp (maxSteps:=999999)(disch:=omega) only [go_sem];done)|(simp (maxSteps:=999999)(disch:=omega) only [go_sem];omega))
  ·(first|(simp (maxSteps:=999999)(disch:=omega) only [go_sem];done)|(simp (maxSteps:=999999)(disch:=omega) only [go_sem];omega))
  ·(first|(simp (maxSteps:=999999)(disch:=omega) only [go_sem];done)|(simp (maxSteps:=999999)(disch:=omega) only [go_sem];omega))
  ·intro iw hiw
   (try simp (maxSteps:=999999)(disch:=omega) only [go_sem] at hiw ⊢)
   (repeat (refine Eq.trans (if_neg ?_) ?_;(focus omega)))
   (try rfl)
  ·intro iw hiw
   (try simp (maxSteps:=999999)(disch:=omega) only [go_sem] at hiw ⊢)
   (repeat (refine Eq.trans (if_neg ?_) ?_;(focus omega)))
   (try rfl)
  ·exact Nat.le_succ _
  simp (maxSteps:=999999)(disch:=omega) only [go_sem]
  refine hK _ ?_
  clear hK
  rw [hq]
  repeat' (refine aj (fun K hK => ?_);and_intros;all_goals first|(refine hK _ ?_;clear hK K)|try exact aa)
  refine eO (oR _ _ 5 2 3 1 3 o.opacity m q v ?_ ?_ ?_ ?_ ?_ ?_ ?_ ?_ (by decide) (by decide) (by decide) (by decide) (by decide) (by decide) hm hp2 ho hom ?_) rfl ?_ ?_ ?_
  ·simp (maxSteps:=999999)(disch:=omega) only [go_sem]
  ·simp (maxSteps:=999999)(disch:=omega) only [go_sem]
  ·simp (maxSteps:=999999)(disch:=omega) only [go_sem]
  ·simp (maxSteps:=999999)(disch:=omega) only [go_sem]
  ·(first|(simp (maxSteps:=999999)(disch:=omega) only [go_sem];done)|(simp (maxSteps:=999999)(disch:=omega) only [go_sem];omega))
  ·(first|(simp (maxSteps:=999999)(disch:=omega) only [go_sem];done)|(simp (maxSteps:=999999)(disch:=omega) only [go_sem];omega))
  ·(first|(simp (maxSteps:=999999)(disch:=omega) only [go_sem];done)|(simp (maxSteps:=999999)(disch:=omega) only [go_sem];omega))
  ·(first|(simp (maxSteps:=999999)(disch:=omega) only [go_sem];done)|(simp (maxSteps:=999999)(disch:=omega) only [go_sem];omega))
  ·intro iw hiw
   (try simp (maxSteps:=999999)(disch:=omega) only [go_sem] at hiw ⊢)
   (repeat (refine Eq.trans (if_neg ?_) ?_;(focus omega)))
   (try rfl)
  ·intro iw hiw
   (try simp (maxSteps:=999999)(disch:=omega) only [go_sem] at hiw ⊢)
   (repeat (refine Eq.trans (if_neg ?_) ?_;(focus omega)))
   (try rfl)
  ·exact Nat.le_succ _
  simp (maxSteps:=999999)(disch:=omega) only [go_sem]
  refine hK _ ?_
  clear hK
  repeat' (first|(refine aj (fun K hK => ?_);and_intros;all_goals first|(refine hK _ ?_;clear hK K)|try exact aa)|(refine ai ?_;(try clear hB KB);(try clear hK K)))
  rfl
end Go.Proofs.YtcbifofjjpfbcaaGreatDoor
set_option maxHeartbeats 8000000
set_option maxRecDepth 16000
namespace Go.Proofs.YtcbifofjjpfbcaaGreatDoor
open Go Go.SL
open Go.RowKit (wrap64)
attribute [local go_sem] cH vR cz Int.toNat_natCast bU
attribute [local go_sem] VJ
theorem Bf {a c k nx:Nat} {A C:Bx} {bx b:Nat→Option Bx} (hw:∀ i,nx≤i→bx i=none) (h1:b a=some A) (h2:b c=some C) (h3:∀ i,i<nx→i≠a→i≠c→i≠k→b i=bx i):Tp (aN a A (aN c C (di k bx))) b:=fun i y hi=>by
 unfold aN at hi
 split at hi
 ·rename_i e;rw [e,h1];exact hi
 rename_i e
 split at hi
 ·rename_i e2;rw [e2,h2];exact hi
 rename_i e2
 unfold di at hi
 split at hi
 ·cases hi
 ·rename_i e3
  rcases Nat.lt_or_ge i nx with q|q
  ·rw [h3 i q e e2 e3];exact hi
  ·rw [hw i q] at hi;cases hi
theorem Fz (bx : Nat → Option Bx) (nx b k n N : Nat) (hN : n + 1 ≤ N) (f : Nat → Nat → PV) (m : Int) (o : Op) (t : Lv)
  (hb:bx b=some (.fix [.p (PU m), .own k (n+1)])) (hk:bx k=some (.arr 184 23 N f)) (hbn:b<nx) (hkn:k<nx) (hbk:b≠k) (hn:n<64) (hf:gA (f n) t) (hkd:o.kind=2) (hw:∀ i,nx≤i→bx i=none) :
  ∃ F:Nat→Nat→PV,(gA (F (n+1)) (jA o t)∧∀ i,i<n+1→∀ j,F i j=f i j) ∧
  nY Sg bx nx 88 [.c (.ptr b 0),ag (eA o)] (.b (I 0)) (aN b (.fix [.p (PU m), .own (nx+5) (n+2)]) (aN (nx+5) (.arr 184 23 (n+2) F) (di k bx))) (nx+6):=by
 have hst:=wD o.isolated t.op.knockout t.acc t.back
 have hdp:=nf m n f (by omega)
 have htp:=pa m n f t (by omega) hf
 have e:bx=aN b (.fix [.p (PU m), .own k (n+1)]) (aN k (.arr 184 23 N f) bx):=by rw [← cR hk];exact cR hb
 have g1:(o.kind != 2)=false:=by rw [bne_eq_false_iff_eq];exact hkd
 have g2:decide ((n:Int)≥64)=false:=decide_eq_false (by omega)
 unfold jA
 generalize en o.isolated t.op.knockout t.acc t.back=q at *
 refine ⟨?F,⟨?hF, ?hG⟩, ?hI⟩
 case hI =>
  refine nQ Tryz.func88 rfl (rs:=[.tmp 4]) rfl rfl gp (by decide +kernel) (Nat.le_of_ble_eq_true rfl) ?_ (fun kf => ?_)
  ·intro v hv
   simp only [List.mem_cons,List.not_mem_nil,or_false] at hv
   rcases hv with rfl|rfl
   ·exact hbn
   ·exact fun c hc=>by (obtain ⟨x,_,rfl⟩:=List.mem_map.1 hc;trivial)
  rw [e]
  repeat' (first|refine ak (And.intro g1 g2) ?_|refine an ?_|((first|refine aj (fun K hK => ?_)|refine kz (k:=k) (e:=184) hN hdp trivial ?_|refine kz (k:=k) (e:=184) hN htp (yQ _) ?_|refine ae (hst) ?_);and_intros;all_goals first|(refine hK _ ?_;clear hK K)|try exact aa))
  refine mn (id:=7) (.br 0 (.br 1 (.br 2 (.br 3 (.br 4 (.br 5 (.br 6 (.br 7 (.br 8 (.br 9 (.br 10 (.br 11 (.br 12 (.br 13 .leaf .nil) .nil) .nil) .nil) .nil) .nil) .nil) .nil) .nil) .nil) .nil) .nil) .nil) .nil) (by decide +kernel) ?_ (fun K0 hW => ?_)
  ·(first|(refine And.intro (fun iw hiw => ?_) ?_;(focus ((try simp (maxSteps:=999999)(disch:=omega) only [go_sem] at hiw ⊢);(repeat (refine Eq.trans (if_neg ?_) ?_;(focus omega)));(first|exact hw iw (by omega)|rfl)));(focus (first|exact Nat.zero_le _|(simp (maxSteps:=999999)(disch:=omega) only [go_sem];done)|(simp (maxSteps:=999999)(disch:=omega) only [go_sem];omega))))|exact cS)
  replace hW:=lQ hW
  repeat' (first|exact cE|(refine dA (fun K' hK' => ?_) ?_)|(refine cj (hW _ ?_);clear hW)|(simp (maxSteps:=999999)(disch:=omega) only [go_sem];and_intros;(all_goals first|(refine hK' _ ?_;clear hK' K')|trivial|omega|exact Nat.le_of_ble_eq_true rfl|exact aa|skip)))
  all_goals
   refine ji ?_
   repeat' (first|(refine aj (fun K hK => ?_);and_intros;all_goals first|(refine hK _ ?_;clear hK K)|try exact aa)|(refine ai ?_;(try clear hB KB);(try clear hK K)))
   refine Bf (bx:=aN b (.fix [.p (PU m), .own k (n+1)]) (aN k (.arr 184 23 N f) bx)) (nx:=nx) ?_ ?_ ?_ (fun i hi h1 h2 h3 => ?_)
   ·rw [← e];exact hw
   ·simp (maxSteps:=999999)(disch:=omega) only [go_sem]
   ·(first|(simp (maxSteps:=999999)(disch:=omega) only [go_sem];done)|(simp (maxSteps:=999999)(disch:=omega) only [go_sem];rfl))
   ·simp (maxSteps:=999999)(disch:=omega) only [go_sem]
 ·intro j hj
  show gh (n+1) f _ (n+1) j=_
  unfold gh
  rw [if_neg (by omega),Nat.sub_self]
  have hivl:j=0∨j=1∨j=2∨j=3∨j=4∨j=5∨j=6∨j=7∨j=8∨j=9∨j=10∨j=11∨j=12∨j=13∨j=14∨j=15∨j=16∨j=17∨j=18∨j=19∨j=20∨j=21∨j=22:=by omega
  rcases hivl with rfl|rfl|rfl|rfl|rfl|rfl|rfl|rfl|rfl|rfl|rfl|rfl|rfl|rfl|rfl|rfl|rfl|rfl|rfl|rfl|rfl|rfl|rfl <;> rfl
 ·intro i hi j
  show gh (n+1) f _ i j=_
  unfold gh
  rw [if_pos hi]
end Go.Proofs.YtcbifofjjpfbcaaGreatDoor
set_option maxHeartbeats 8000000
set_option maxRecDepth 16000
namespace Go.Proofs.YtcbifofjjpfbcaaGreatDoor
open Go Go.SL
open Go.RowKit (wrap64)
attribute [local go_sem] cH vR cz Int.toNat_natCast bU
attribute [local go_sem] VJ
theorem Iw (bx : Nat → Option Bx) (nx b k n N : Nat) (hN : n + 2 ≤ N) (f : Nat → Nat → PV) (m ms : Int) (t u : Lv)
  (hb:bx b=some (.fix [.p (PU m), .own k (n+2)])) (hk:bx k=some (.arr 184 23 N f)) (hbn:b<nx) (hkn:k<nx) (hbk:b≠k) (hn:n<64) (hf:gA (f (n+1)) t) (hf2:gA (f n) u)
  (hm:Full m) (ho:1≤t.op.operator∧t.op.operator≤12) (hmo:1≤t.op.mode∧t.op.mode≤12) (hop:0≤t.op.opacity∧t.op.opacity≤m) (hms:0≤ms∧ms≤m) (hv:AccV t.acc t.back m) (hv2:AccV u.acc u.back m) (hko:u.op.knockout=true→t.op.operator=4) (hw:∀ i,nx≤i→bx i=none) :
  ∃ F:Nat→Nat→PV,(gA (F n) (eX m t.op (aP m t.op (bB t.acc t.back m) ms) u)∧∀ i,i<n→∀ j,F i j=f i j) ∧
  nY Sg bx nx 94 [.c (.ptr b 0),U ms] (.tup [ag (aW (aP m t.op (bB t.acc t.back m) ms)),I 0]) (aN b (.fix [.p (PU m), .own k (n+1)]) (aN k (.arr 184 23 N F) bx)) (nx+4):=by
 have hrv:=ql hm hv
 have hr:=lY t.acc t.back m hm hv
 have hdp:=nf m (n+1) f (by omega)
 have htp:=pa m (n+1) f t (by omega) hf
 have hsv:=mN (o:=t.op) hm hrv hms.1 hms.2 hop.1 hop.2
 have e:bx=aN b (.fix [.p (PU m), .own k (n+2)]) (aN k (.arr 184 23 N f) bx):=by rw [← cR hk];exact cR hb
 have g:(((n+1:Nat):Int) == 0)=false:=by rw [beq_eq_false_iff_ne];omega
 have g2:decide (ms>m)=false:=decide_eq_false (by omega)
 have g3:decide (t.op.opacity>m)=false:=decide_eq_false (by omega)
 have hsc:=fun (st:St) (K:SV→St→Prop) hb hk hK=>pM (st:=st) (K:=K) b k (n+2) N 184 f m t.op (bB t.acc t.back m) ms hN hb hk hm hrv hms.1 hms.2 hop.1 hop.2 hK
 have hpt:=fun (st:St) (K:SV→St→Prop) hb hk hK=>rN (st:=st) (K:=K) b k (n+2) N n 184 f m t.op (aP m t.op (bB t.acc t.back m) ms) u hN (by omega) hb hk (by omega) hf2 hm ho hmo hsv hv2 hko hK
 generalize aP m t.op (bB t.acc t.back m) ms=q at *
 generalize bB t.acc t.back m=res at *
 generalize eX m t.op q u=t' at *
 refine ⟨?F,⟨?hF, ?hG⟩, ?hI⟩
 case hI =>
  refine nQ Tryz.func94 rfl (rs:=[.cell 4 37, .tmp 5]) rfl rfl gp (by decide +kernel) (Nat.le_of_ble_eq_true rfl) ?_ (fun kf => ?_)
  ·intro v hv
   simp only [List.mem_cons,List.not_mem_nil,or_false] at hv
   rcases hv with rfl|rfl
   ·exact hbn
   ·trivial
  rw [e]
  repeat' (first|refine ak (And.intro g (And.intro g2 g3)) ?_|refine an ?_|((first|refine aj (fun K hK => ?_)|refine kz (k:=k) (e:=184) hN hdp trivial ?_|refine kz (k:=k) (e:=184) hN htp (yQ _) ?_);and_intros;all_goals first|(refine hK _ ?_;clear hK K)|try exact aa))
  refine mn (id:=9) (.br 0 (.br 1 (.br 2 (.br 3 (.br 4 (.br 5 (.br 6 (.br 7 (.br 8 (.br 9 (.br 10 (.br 11 (.br 12 (.br 13 (.br 14 .leaf .nil) .nil) .nil) .nil) .nil) .nil) .nil) .nil) .nil) .nil) .nil) .nil) .nil) .nil) .nil) (by decide +kernel) ?_ (fun K0 hW => ?_)
  ·(first|(refine And.intro (fun iw hiw => ?_) ?_;(focus ((try simp (maxSteps:=999999)(disch:=omega) only [go_sem] at hiw ⊢);(repeat (refine Eq.trans (if_neg ?_) ?_;(focus omega)));(first|exact hw iw (by omega)|rfl)));(focus (first|exact Nat.zero_le _|(simp (maxSteps:=999999)(disch:=omega) only [go_sem];done)|(simp (maxSteps:=999999)(disch:=omega) only [go_sem];omega))))|exact cS)
  replace hW:=lQ hW
  repeat' (first|exact cE|(refine dA (fun K' hK' => ?_) ?_)|(refine cj (hW _ ?_);clear hW)|(refine ae (hr) ?_;(try simp (maxSteps:=999999)(disch:=omega) only [go_sem]);and_intros;(all_goals first|(refine hK' _ ?_;clear hK' K')|trivial|omega|exact Nat.le_of_ble_eq_true rfl|exact aa|skip))|(simp (maxSteps:=999999)(disch:=omega) only [go_sem];and_intros;(all_goals first|(refine hK' _ ?_;clear hK' K')|trivial|omega|exact Nat.le_of_ble_eq_true rfl|exact aa|skip)))
  all_goals
   refine ji ?_
   repeat' (first|refine ak g ?_|refine an ?_|(refine aj (fun K hK => ?_);and_intros;all_goals first|(refine hK _ ?_;clear hK K)|try exact aa))
   refine hsc _ _ ?_ ?_ ?_
   ·simp (maxSteps:=999999)(disch:=omega) only [go_sem]
   ·simp (maxSteps:=999999)(disch:=omega) only [go_sem]
   simp (maxSteps:=999999)(disch:=omega) only [go_sem]
   refine hK _ ?_
   clear hK
   repeat' (first|refine ak g ?_|refine an ?_|(refine aj (fun K hK => ?_);and_intros;all_goals first|(refine hK _ ?_;clear hK K)|try exact aa))
   refine hpt _ _ ?_ ?_ ?_
   ·simp (maxSteps:=999999)(disch:=omega) only [go_sem]
   ·simp (maxSteps:=999999)(disch:=omega) only [go_sem]
   simp (maxSteps:=999999)(disch:=omega) only [go_sem]
   refine hK _ ?_
   clear hK
   repeat' (first|refine ak g ?_|refine an ?_|(refine aj (fun K hK => ?_);and_intros;all_goals first|(refine hK _ ?_;clear hK K)|try exact aa)|(refine ai ?_;(try clear hB KB);(try clear hK K)))
   refine ⟨rfl,EI (bx:=aN b (.fix [.p (PU m), .own k (n+2)]) (aN k (.arr 184 23 N f) bx)) (nx:=nx) ?_ ?_ ?_ (fun i hi h1 h2 => ?_)⟩
   ·rw [← e];exact hw
   ·simp (maxSteps:=999999)(disch:=omega) only [go_sem]
   ·(first|(simp (maxSteps:=999999)(disch:=omega) only [go_sem];done)|(simp (maxSteps:=999999)(disch:=omega) only [go_sem];rfl))
   ·simp (maxSteps:=999999)(disch:=omega) only [go_sem]
 ·intro j hj
  dsimp only
  rw [if_pos rfl]
  have hivl:j=0∨j=1∨j=2∨j=3∨j=4∨j=5∨j=6∨j=7∨j=8∨j=9∨j=10∨j=11∨j=12∨j=13∨j=14∨j=15∨j=16∨j=17∨j=18∨j=19∨j=20∨j=21∨j=22:=by omega
  rcases hivl with rfl|rfl|rfl|rfl|rfl|rfl|rfl|rfl|rfl|rfl|rfl|rfl|rfl|rfl|rfl|rfl|rfl|rfl|rfl|rfl|rfl|rfl|rfl <;> rfl
 ·intro i hi j
  exact if_neg (by omega)
end Go.Proofs.YtcbifofjjpfbcaaGreatDoor
set_option maxHeartbeats 8000000
set_option maxRecDepth 16000
namespace Go.Proofs.YtcbifofjjpfbcaaGreatDoor
open Go Go.SL
open Go.RowKit (wrap64)
attribute [local go_sem] cH sY cz Int.toNat_natCast
theorem Gz {st : St} {K : SV → St → Prop} (m : Int) (hm : Full m) (hw : ∀ i, st.nx ≤ i → st.bx i = none)
  (hK:∀ F:Nat→Nat→PV,gA (F 0) base→K (.tup [.c (.ptr (st.nx+1) 0),I 0]) (st.turn (aN (st.nx+1) (.fix [.p (PU m), .own st.nx 1]) (aN st.nx (.arr 184 23 1 F) st.bx)) (st.nx+2))) :
  eB Sg st 86 [U m] (Sl.of K):=by
 obtain ⟨F,h1,hI⟩:=HW st.bx st.nx m hm hw
 refine eO hI rfl (fun i hi => ?_) (by omega) (hK F h1)
 unfold aN
 rw [if_neg (by omega),if_neg (by omega)]
 exact hw i (by omega)
theorem Dw {st : St} {K : SV → St → Prop} (b k n N : Nat) (hN : n + 1 ≤ N) (f : Nat → Nat → PV) (m : Int) (o : Op) (p : Pixel) (ms : Int) (t : Lv)
  (hb:st.bx b=some (.fix [.p (PU m), .own k (n+1)])) (hk:st.bx k=some (.arr 184 23 N f)) (hbn:b<st.nx) (hkn:k<st.nx) (hbk:b≠k) (hn:n≤1000) (hf:gA (f n) t)
  (hm:Full m) (hkd:o.kind=1) (ho:1≤o.operator∧o.operator≤12) (hmo:1≤o.mode∧o.mode≤12) (hop:0≤o.opacity∧o.opacity≤m) (hp:PixV p m) (hms:0≤ms∧ms≤m) (hv:AccV t.acc t.back m) (hko:t.op.knockout=true→o.operator=4) (hw:∀ i,st.nx≤i→st.bx i=none)
  (hK:∀ F:Nat→Nat→PV,gA (F n) (eX m o (aP m o p ms) t)→(∀ i,i<n→∀ j,F i j=f i j)→K (.tup [ag (aW (aP m o p ms)),I 0]) (st.turn (aN k (.arr 184 23 N F) st.bx) (st.nx+5))) :
  eB Sg st 95 [.c (.ptr b 0),ag (eA o),ag (aW p),U ms] (Sl.of K):=by
 obtain ⟨F,⟨h1,h2⟩,hI⟩:=Gt st.bx st.nx b k n N hN f m o p ms t hb hk hbn hkn hbk hn hf hm hkd ho hmo hop hp hms hv hko hw
 refine eO hI rfl (fun i hi => ?_) (by omega) (hK F h1 h2)
 unfold aN
 rw [if_neg (by omega)]
 exact hw i (by omega)
theorem Dg {st : St} {K : SV → St → Prop} (b k n N : Nat) (hN : n + 1 ≤ N) (f : Nat → Nat → PV) (m : Int) (o : Op) (t : Lv)
  (hb:st.bx b=some (.fix [.p (PU m), .own k (n+1)])) (hk:st.bx k=some (.arr 184 23 N f)) (hbn:b<st.nx) (hkn:k<st.nx) (hbk:b≠k) (hn:n<64) (hf:gA (f n) t) (hkd:o.kind=2) (hw:∀ i,st.nx≤i→st.bx i=none)
  (hK:∀ F:Nat→Nat→PV,gA (F (n+1)) (jA o t)→(∀ i,i<n+1→∀ j,F i j=f i j)→K (.b (I 0)) (st.turn (aN b (.fix [.p (PU m), .own (st.nx+5) (n+2)]) (aN (st.nx+5) (.arr 184 23 (n+2) F) (di k st.bx))) (st.nx+6))) :
  eB Sg st 88 [.c (.ptr b 0),ag (eA o)] (Sl.of K):=by
 obtain ⟨F,⟨h1,h2⟩,hI⟩:=Fz st.bx st.nx b k n N hN f m o t hb hk hbn hkn hbk hn hf hkd hw
 refine eO hI rfl (fun i hi => ?_) (by omega) (hK F h1 h2)
 unfold aN di
 rw [if_neg (by omega),if_neg (by omega),if_neg (by omega)]
 exact hw i (by omega)
theorem Fy {st : St} {K : SV → St → Prop} (b k n N : Nat) (hN : n + 2 ≤ N) (f : Nat → Nat → PV) (m ms : Int) (t u : Lv)
  (hb:st.bx b=some (.fix [.p (PU m), .own k (n+2)])) (hk:st.bx k=some (.arr 184 23 N f)) (hbn:b<st.nx) (hkn:k<st.nx) (hbk:b≠k) (hn:n<64) (hf:gA (f (n+1)) t) (hf2:gA (f n) u)
  (hm:Full m) (ho:1≤t.op.operator∧t.op.operator≤12) (hmo:1≤t.op.mode∧t.op.mode≤12) (hop:0≤t.op.opacity∧t.op.opacity≤m) (hms:0≤ms∧ms≤m) (hv:AccV t.acc t.back m) (hv2:AccV u.acc u.back m) (hko:u.op.knockout=true→t.op.operator=4) (hw:∀ i,st.nx≤i→st.bx i=none)
  (hK:∀ F:Nat→Nat→PV,gA (F n) (eX m t.op (aP m t.op (bB t.acc t.back m) ms) u)→(∀ i,i<n→∀ j,F i j=f i j) →
   K (.tup [ag (aW (aP m t.op (bB t.acc t.back m) ms)),I 0]) (st.turn (aN b (.fix [.p (PU m), .own k (n+1)]) (aN k (.arr 184 23 N F) st.bx)) (st.nx+4))) :
  eB Sg st 94 [.c (.ptr b 0),U ms] (Sl.of K):=by
 obtain ⟨F,⟨h1,h2⟩,hI⟩:=Iw st.bx st.nx b k n N hN f m ms t u hb hk hbn hkn hbk hn hf hf2 hm ho hmo hop hms hv hv2 hko hw
 refine eO hI rfl (fun i hi => ?_) (by omega) (hK F h1 h2)
 unfold aN
 rw [if_neg (by omega),if_neg (by omega)]
 exact hw i (by omega)
theorem Do (m:Int) (n:Nat) (f:Nat→Nat→PV) (t:Lv) (o:Op) (hl:n≤1000) (hf:gA (f n) t) (hk:o.kind≠3):aF Sg 93 [sY m (n+1) f,ag (eA o)] (fun x=>x = .b (ag (aW (sJ t.acc)))):=by
 have g:(o.kind != 3)=true:=bne_iff_ne.2 hk
 have h1:=sZ m n f t hl hf
 have h2:=ka t.acc
 generalize sJ t.acc=q at *
 refine aI Tryz.func93 [.cell 4 37] ?_
 repeat' (first|refine ak g ?_|refine an ?_|((first|refine aj (fun K hK => ?_)|refine ae (h1) ?_|refine ae (h2) ?_);and_intros;all_goals first|(refine hK _ ?_;clear hK K)|try exact aa)|(refine ai ?_;(try clear hB KB);(try clear hK K)))
 all_goals (try rfl)
theorem CH (m:Int) (n:Nat) (f:Nat→Nat→PV) (t:Lv) (o:Op) (hl:n<1000) (hf:gA (f n) t) (hk:o.kind=3):aF Sg 93 [sY m (n+1+1) f,ag (eA o)] (fun x=>x = .b (ag (aW (sJ t.acc)))):=by
 have g:(o.kind != 3)=false:=bne_eq_false_iff_eq.2 hk
 have h1:=Gc m n f t hl hf
 have h2:=ka t.acc
 generalize sJ t.acc=q at *
 refine aI Tryz.func93 [.cell 4 37] ?_
 repeat' (first|refine ak g ?_|refine an ?_|((first|refine aj (fun K hK => ?_)|refine ae (h1) ?_|refine ae (h2) ?_);and_intros;all_goals first|(refine hK _ ?_;clear hK K)|try exact aa)|(refine ai ?_;(try clear hB KB);(try clear hK K)))
 all_goals (try rfl)
theorem sx {st : St} {K : SV → St → Prop} {X : Pixel} (b k n N : Nat) (f : Nat → Nat → PV) (m : Int) (o : Op) (hN : n ≤ N) (h : aF Sg 93 [sY m n f, ag (eA o)] (fun x => x = .b (ag (aW X)))) (hb : st.bx b = some (.fix [.p (PU m), .own k n])) (hk : st.bx k = some (.arr 184 23 N f)) (hK : K (.b (ag (aW X))) st) :
  eB Sg st 93 [.c (.ptr b 0),ag (eA o)] (Sl.of K):=by
 refine .lend [sY m n f,ag (eA o)] _ h ?_ ?_ (mR _) hK rfl
 ·rw [List.map_cons,List.map_cons,List.map_nil,ph hb hk hN,pb];exact dB _
 ·intro x hx
  simp only [List.mem_cons,List.not_mem_nil,or_false] at hx
  rcases hx with rfl|rfl
  ·trivial
  ·exact AJ
def wu (ops:List Op) (g:Nat→Nat→PV):List Nat→Prop
 | []=>True
 | a :: l=>(∀ c,g l.length c=(eA (aB ops a)).getD c .any)∧wu ops g l
def Fg (n:Nat) (o:Op) (g:Nat→Nat→PV) (i j:Nat):PV:=if i=n then (eA o).getD j .any else g i j
theorem rH {ops:List Op} {f g:Nat→Nat→PV}:∀ {l:List Nat},(∀ i,i<l.length→∀ j,g i j=f i j)→wu ops f l→wu ops g l
 | [],_,_=>trivial
 | a :: l,h,⟨h1,h2⟩=>⟨fun c=>by rw [h l.length (by simp) c];exact h1 c,rH (fun i hi j=>h i (by simp;omega) j) h2⟩
theorem DE {ops:List Op} {g:Nat→Nat→PV} {l:List Nat} {a:Nat} (h:wu ops g l):wu ops (Fg l.length (aB ops a) g) (a :: l) :=
 ⟨fun c=>by unfold Fg;rw [if_pos rfl],rH (fun i hi j=>by unfold Fg;rw [if_neg (by omega)]) h⟩
end Go.Proofs.YtcbifofjjpfbcaaGreatDoor
set_option maxHeartbeats 4000000
set_option maxRecDepth 16000
namespace Go.Proofs.YtcbifofjjpfbcaaGreatDoor
open Go Go.SL
open Go.RowKit (wrap64)
attribute [local go_sem] cH
def jU (a b:Int):Bool:=(decide (a≥0) == decide (b≥0)) || (decide (IntKind.i64.wrap (a - b)≥0) == decide (a≥0))
theorem zA (a b:Int):aF Sg 166 [I a,I b] (fun r=>r = .tup [I (IntKind.i64.wrap (a - b)),B (jU a b)]):=by
 refine aI Tryz.func166 [.tmp 4, .tmp 5] ?_
 repeat' (first|(refine aj (fun K hK => ?_);and_intros;all_goals first|(refine hK _ ?_;clear hK K)|try exact aa)|(refine ai ?_;(try clear hB KB);(try clear hK K)))
 first|rfl|(refine congrArg (fun v=>SV.tup [_,B v]) ?_;unfold jU;simp)
theorem HN (n:Int):IntKind.i64.wrap n=(n+9223372036854775808) % 18446744073709551616 - 9223372036854775808:=by
 simp only [IntKind.wrap,IntKind.bits,IntKind.signed]
 simp
 split <;> omega
theorem zD {a b:Int} (ha:i64 a) (hb:i64 b) (h:jU a b=true):IntKind.i64.wrap (a - b)=a - b:=by
 obtain ⟨a1,a2⟩:=ha
 obtain ⟨b1,b2⟩:=hb
 unfold jU at h
 rw [HN] at h ⊢
 simp only [Bool.or_eq_true,beq_iff_eq,decide_eq_decide] at h
 omega
theorem BB {a b:Int} (ha:i64 a) (hb:i64 b) (h:jU a b=false):a - b < -9223372036854775808∨9223372036854775808≤a - b:=by
 obtain ⟨a1,a2⟩:=ha
 obtain ⟨b1,b2⟩:=hb
 unfold jU at h
 rw [HN] at h
 simp only [Bool.or_eq_false_iff,beq_eq_false_iff_ne,ne_eq,decide_eq_decide] at h
 omega
theorem JZ {m:Image} {x y:Int} (h:x<0∨9223372036854775808≤x∨y<0∨9223372036854775808≤y):cu m x y=ba:=by
 unfold cu
 cases hf:bp m with
 | false=>rw [if_pos (.inl rfl)]
 | true =>
  obtain ⟨a,b,c,d⟩:=hP hf
  rw [if_pos (by omega)]
theorem Ht (s : Script) (i x y dx dy : Int) (hs : ScriptLen s) (hx : i64 x) (hy : i64 y) (hdx : i64 dx) (hdy : i64 dy) :
  aF Sg 123 [ag (aL s),I i,I x,I y,I dx,I dy] (fun r=>r = .b (ag (aW (if 0≤i∧i<s.images.length then iD (gQ s i) x y dx dy else ba)))):=by
 have hl:=hs.images
 have m1:=zA x dx
 have m2:=zA y dy
 by_cases hi:0≤i∧i<s.images.length
 ·rw [if_pos hi,yE]
  have g1:decide (i<0)=false:=decide_eq_false (by omega)
  have g2:decide (i≥s.images.length)=false:=decide_eq_false (by omega)
  have hm:∀ px py,aF Sg 158 [ag (bl (s.images.getD i.toNat default)),I px,I py] (fun r=>r = .b (ag (aW (cu (s.images.getD i.toNat default) px py)))):=fun px py=>IG _ px py
  cases h1:jU x dx
  ·have e:cu (gQ s i) (x - dx) (y - dy)=ba:=JZ (by have:=BB hx hdx h1;omega)
   rw [e]
   rw [h1] at m1
   generalize jU y dy=b2 at *
   refine aI Tryz.func123 [.cell 12 37] ?_
   repeat' (first|refine ak (And.intro g1 g2) ?_|refine an ?_|((first|refine aj (fun K hK => ?_)|refine ae (m1) ?_|refine ae (m2) ?_);and_intros;all_goals first|(refine hK _ ?_;clear hK K)|try exact aa)|(refine ai ?_;(try clear hB KB);(try clear hK K)))
   all_goals rfl
  cases h2:jU y dy
  ·have e:cu (gQ s i) (x - dx) (y - dy)=ba:=JZ (by have:=BB hy hdy h2;omega)
   rw [e]
   rw [h1] at m1
   rw [h2] at m2
   refine aI Tryz.func123 [.cell 12 37] ?_
   repeat' (first|refine ak (And.intro g1 g2) ?_|refine an ?_|((first|refine aj (fun K hK => ?_)|refine ae (m1) ?_|refine ae (m2) ?_);and_intros;all_goals first|(refine hK _ ?_;clear hK K)|try exact aa)|(refine ai ?_;(try clear hB KB);(try clear hK K)))
   rfl
  rw [h1,zD hx hdx h1] at m1
  rw [h2,zD hy hdy h2] at m2
  have hv:=hm (x - dx) (y - dy)
  show aF _ _ _ (fun r=>r = .b (ag (aW (cu (s.images.getD i.toNat default) (x - dx) (y - dy)))))
  generalize cu (s.images.getD i.toNat default) (x - dx) (y - dy)=q at *
  refine aI Tryz.func123 [.cell 12 37] ?_
  repeat' (first|refine ak (And.intro g1 g2) ?_|refine an ?_|((first|refine aj (fun K hK => ?_)|refine ae (m1) ?_|refine ae (m2) ?_|refine ae (hv) ?_);and_intros;all_goals first|(refine hK _ ?_;clear hK K)|try exact aa)|(refine ai ?_;(try clear hB KB);(try clear hK K)))
  rfl
 ·rw [if_neg hi]
  have g:(decide (i<0) || decide (i≥s.images.length))=true:=by
   simp only [Bool.or_eq_true,decide_eq_true_eq]
   omega
  generalize jU x dx=b1 at *
  generalize jU y dy=b2 at *
  refine aI Tryz.func123 [.cell 12 37] ?_
  repeat' (first|refine ak g ?_|refine an ?_|((first|refine aj (fun K hK => ?_)|refine ae (m1) ?_|refine ae (m2) ?_);and_intros;all_goals first|(refine hK _ ?_;clear hK K)|try exact aa)|(refine ai ?_;(try clear hB KB);(try clear hK K)))
  all_goals rfl
theorem oS (s : Script) (o : Op) (x y : Int) (hs : ScriptLen s) (hx : i64 x) (hy : i64 y) (h1 : i64 o.x) (h2 : i64 o.y) (h3 : i64 o.maskX) (h4 : i64 o.maskY) (h5 : i64 o.mask) :
  aF Sg 87 [ag (aL s),ag (eA o),I x,I y] (fun r=>r = .tup [ag (aW (cD s x y o).1),U (cD s x y o).2]):=by
 have n1:=Ht s o.image x y o.x o.y hs hx hy h1 h2
 have n2:=Ht s (o.mask - 1) x y o.maskX o.maskY hs hx hy h3 h4
 obtain ⟨q1,q2⟩:=h5
 have e1:(cD s x y o).1=if o.kind=1 then (if 0≤o.image∧o.image<s.images.length then iD (gQ s o.image) x y o.x o.y else ba) else ba:=by
  unfold cD
  dsimp only
  by_cases k:o.kind=1
  ·rw [if_pos k]
   by_cases c:0≤o.image∧o.image<s.images.length
   ·rw [if_pos ⟨k,c⟩,if_pos c]
   ·rw [if_neg (fun q=>c q.2),if_neg c]
  ·rw [if_neg (fun q=>k q.1),if_neg k]
 have e2:(cD s x y o).2=if 0<o.mask then (if 0≤o.mask - 1∧o.mask - 1<s.images.length then iD (gQ s (o.mask - 1)) x y o.maskX o.maskY else ba).a else 0:=by
  unfold cD
  dsimp only
  by_cases k:0<o.mask
  ·rw [if_pos k]
   by_cases c:1≤o.mask∧o.mask≤s.images.length
   ·rw [if_pos c,if_pos (by omega)]
   ·rw [if_neg c,if_neg (by omega)];rfl
  ·rw [if_neg k,if_neg (by omega)]
 rw [e1,e2]
 generalize (if 0≤o.image∧o.image<s.images.length then iD (gQ s o.image) x y o.x o.y else ba)=p1 at *
 generalize (if 0≤o.mask - 1∧o.mask - 1<s.images.length then iD (gQ s (o.mask - 1)) x y o.maskX o.maskY else ba)=p2 at *
 by_cases k1:o.kind=1
 ·rw [if_pos k1]
  have g1:(o.kind == 1)=true:=beq_iff_eq.2 k1
  by_cases k2:0<o.mask
  ·rw [if_pos k2]
   have g2:decide (o.mask>0)=true:=decide_eq_true k2
   refine aI Tryz.func87 [.cell 8 37, .tmp 9] ?_
   repeat' (first|refine ak (And.intro g1 g2) ?_|refine an ?_|((first|refine aj (fun K hK => ?_)|refine ae (n1) ?_|refine ae (n2) ?_);and_intros;all_goals first|(refine hK _ ?_;clear hK K)|try exact aa)|(refine ai ?_;(try clear hB KB);(try clear hK K)))
   rfl
  ·rw [if_neg k2]
   have g2:decide (o.mask>0)=false:=decide_eq_false k2
   refine aI Tryz.func87 [.cell 8 37, .tmp 9] ?_
   repeat' (first|refine ak (And.intro g1 g2) ?_|refine an ?_|((first|refine aj (fun K hK => ?_)|refine ae (n1) ?_);and_intros;all_goals first|(refine hK _ ?_;clear hK K)|try exact aa)|(refine ai ?_;(try clear hB KB);(try clear hK K)))
   rfl
 ·rw [if_neg k1]
  have g1:(o.kind == 1)=false:=beq_eq_false_iff_ne.2 k1
  by_cases k2:0<o.mask
  ·rw [if_pos k2]
   have g2:decide (o.mask>0)=true:=decide_eq_true k2
   refine aI Tryz.func87 [.cell 8 37, .tmp 9] ?_
   repeat' (first|refine ak (And.intro g1 g2) ?_|refine an ?_|((first|refine aj (fun K hK => ?_)|refine ae (n2) ?_);and_intros;all_goals first|(refine hK _ ?_;clear hK K)|try exact aa)|(refine ai ?_;(try clear hB KB);(try clear hK K)))
   rfl
  ·rw [if_neg k2]
   have g2:decide (o.mask>0)=false:=decide_eq_false k2
   refine aI Tryz.func87 [.cell 8 37, .tmp 9] ?_
   repeat' (first|refine ak (And.intro g1 g2) ?_|refine an ?_|(refine aj (fun K hK => ?_);and_intros;all_goals first|(refine hK _ ?_;clear hK K)|try exact aa)|(refine ai ?_;(try clear hB KB);(try clear hK K)))
   rfl
end Go.Proofs.YtcbifofjjpfbcaaGreatDoor
set_option maxHeartbeats 8000000
set_option maxRecDepth 16000
namespace Go.Proofs.YtcbifofjjpfbcaaGreatDoor
open Go Go.SL
open Go.RowKit (wrap64)
attribute [local go_sem] cH vR cz Int.toNat_natCast zm bU gU CU
theorem IK {n:Nat} {o:Op} {g h:Nat→Nat→PV} (hh:∀ j,j<12→h 0 j=(eA o).getD j .any):∀ a,a<n+1→∀ j,j<12→PV.le (gh n g h a j) (Fg n o g a j):=fun a ha j hj=>by
 unfold gh Fg
 rcases Nat.lt_or_ge a n with q|q
 ·rw [if_pos q,if_neg (by omega)];exact PV.le_refl _
 ·have e:a=n:=by omega
  subst e
  rw [if_neg (by omega),if_pos rfl,Nat.sub_self,hh j hj];exact PV.le_refl _
theorem Gd {p:Pixel} {n:Int}:(SV.tup [ag (aW p),I n]).flat:=fun v hv=>by
 rcases List.mem_cons.1 hv with rfl|hv
 ·exact mR p
 ·rw [List.mem_singleton.1 hv];trivial
theorem Ig (s : Script) (x y m : Int) (C : Pt s m x y) (hs : ScriptLen s) (hx : i64 x) (hy : i64 y) :
  aF Sg 59 [ag (aL s),I x,I y,gU] (fun r=>r = .b (ag (aW (dH s x y)))):=by
 have V:=C.V
 have W:=V.wf
 have hm:=C.hm
 have hmx:aF Sg 68 [I s.bits] (fun x=>x = .tup [U m,B (decide (s.bits=8∨s.bits=16))]):=by
  have:=fv s.bits
  rw [show (if s.bits=8 then (255:Int) else if s.bits=16 then 65535 else 0)=bA s.bits from rfl,C.mx] at this
  exact this
 have hcnt:=V.cnt
 have ht:True:=trivial
 have hv:∀ t r,jM m (cD s x y) s.ops s.ops.length=t :: r→dH s x y=bB t.acc t.back m:=fun t r e=>by
  have e2:lD m (cD s x y) s.ops [base]=t :: r:=by
   rw [← e];unfold jM;rw [List.take_length]
  unfold dH
  rw [C.mx,e2];rfl
 generalize dH s x y=vv at *
 refine aI Tryz.func59 [.cell 8 37] ?_
 repeat' ((first|refine aj (fun K hK => ?_)|refine ae (hmx) ?_);and_intros;all_goals first|(refine hK _ ?_;clear hK K)|try exact aa)
 refine Gz m hm ?_ (fun F0 hF0 => ?_)
 ·intro iw hiw
  simp (maxSteps:=999999)(disch:=omega) only [go_sem] at hiw ⊢
  repeat (refine Eq.trans (if_neg ?_) ?_;(focus omega))
  rfl
 simp (maxSteps:=999999)(disch:=omega) only [go_sem]
 refine hK _ ?_
 clear hK
 repeat' (first|refine an ?_|(refine aj (fun K hK => ?_);and_intros;all_goals first|(refine hK _ ?_;clear hK K)|try exact aa))
 have e0:jM m (cD s x y) s.ops 0=[base]:=by
  unfold jM lD
  rw [List.take_zero,List.foldl_nil]
 refine aM (X:=Nat × Nat × (Nat→Nat→PV) × Nat × (Nat→Nat→PV)) (fun z=>bg [(1, .b (I x)),(2, .b (I y)),(3, .b gU),(4, .b (.c (.ptr 0 0))),(8, .b (.c (.ptr 3 0))),(9, .b (U m)),(11, .b (.c (.ptr 1 0))),(13, .b (.c (.own 4 ((bI s.ops z.1).length)))),(38, .b (.c (.p (qB s.ops)))),(39, .b (I s.ops.length)),(40, .b (I z.1))] [(0, .fix ((aL s).map CV.p)),(1, .fix [.p (PU m), .own 2 ((bI s.ops z.1).length+1)]),(2, .arr 184 23 (z.2.1) z.2.2.1),(3, .fix ((aW ba).map CV.p)),(4, .arr 74 12 (z.2.2.2.1) z.2.2.2.2)] 5)
  (fun z=>z.1≤s.ops.length∧(bI s.ops z.1).length+1≤z.2.1∧DT z.2.2.1 (jM m (cD s x y) s.ops z.1)∧(bI s.ops z.1).length≤z.2.2.2.1∧wu s.ops z.2.2.2.2 (bI s.ops z.1)) (fun z=>s.ops.length - z.1) (0,1,F0,0,fun _ _ => .any) ?_ ?_ ?_
 ·refine ⟨Nat.zero_le _,Nat.le_refl _, ?_,Nat.le_refl _,trivial⟩
  rw [e0]
  exact ⟨hF0,trivial⟩
 ·refine aE [(1,some 3),(2,some 2),(3,some 1),(4,none)] ?_ ?_
  and_intros
  all_goals first|exact aw|skip
 rintro ⟨i,N,f,NO,g⟩ ⟨hi,hN,hh,hNO,hop⟩
 dsimp only at hi hN hh hNO hop ⊢
 have ha:=Hs C i hi
 obtain ⟨t,r,e⟩:=ha.ne
 rw [e] at ha hh
 have hlen:(bI s.ops i).length=r.length:=by
  have:=congrArg List.length ha.o
  simp only [List.length_map,List.length_cons,List.length_append,List.length_nil] at this
  omega
 have hf:gA (f (bI s.ops i).length) t:=by rw [hlen];exact hh.1
 have hst:=Jj V hi
 rcases Nat.lt_or_ge i s.ops.length with hlt|hge
 ·rcases W.kinds i hlt with hk|hk|hk
  ·have hk2:(s.ops.getD i default).kind=1:=hk
   have hfit:=ha.fit C hlt (by omega)
   obtain ⟨b0,b1,b2,⟨b3,b3'⟩,⟨b4,b4'⟩,⟨b5,b5'⟩,b6,b6'⟩:=oG C hlt (by omega)
   have hz:=C.z
   have himg:=hs.images
   obtain ⟨q1,q2,q3,q4⟩:=dr.1 (V.ok i hlt)
   obtain ⟨_,_,_,q5,q6,_⟩:=q4 (by omega)
   simp only [jj,decide_eq_true_eq] at q5 q6
   have hsm:=oS s (aB s.ops i) x y hs hx hy ⟨by omega,by omega⟩ ⟨by omega,by omega⟩ ⟨by omega,by omega⟩ ⟨by omega,by omega⟩ ⟨by omega,by omega⟩
   have hp:=hz.p (aB s.ops i)
   have hk0:=hz.k0 (aB s.ops i)
   have hkm:=hz.km (aB s.ops i)
   have hko:t.op.knockout=true→(s.ops.getD i default).operator=4:=fun h=>hfit.ctx.elim id fun q=>by rw [h] at q;cases q.2
   have hnx:=nN (m:=m) (z:=cD s x y) hlt
   rw [e,oK hk] at hnx
   generalize hz1:cD s x y (aB s.ops i)=zz at *
   obtain ⟨p,ms⟩:=zz
   dsimp only at *
   unfold aB at *
   have hsc:=ry (s.ops.getD i default) ⟨(i:Int),1,ba,ba,0,p⟩ ms m hm hp hk0 hkm hfit.op0 hfit.opm
   have hbl:=Do m (bI s.ops i).length f t (s.ops.getD i default) (by omega) hf (by omega)
   repeat' (first|refine ak hk2 ?_|refine an ?_|((with_reducible refine cd (id:=11) (fun K hW => ?_));(try simp (maxSteps:=999999)(disch:=omega) only [go_sem]);and_intros;all_goals first|(refine hK _ ?_;clear hK K)|try exact aa)|((first|refine aj (fun K hK => ?_)|refine ae (hsm) ?_);and_intros;all_goals first|(refine hK _ ?_;clear hK K)|try exact aa)|(refine aH (fun hb => ?_) (fun hb => ?_);all_goals try exact ax))
   refine hW _ (bg [(1, .b (I x)),(2, .b (I y)),(3, .b gU),(4, .b (.c (.ptr 0 0))),(8, .b (.c (.ptr 3 0))),(9, .b (U m)),(11, .b (.c (.ptr 1 0))),(13, .b (.c (.own 4 ((bI s.ops i).length)))),(38, .b (.c (.p (qB s.ops)))),(39, .b (I s.ops.length)),(40, .b (I i)),(14, .b (I i)),(15, .b (.c (.ptr 5 0))),(16, .b (.c (.ptr 6 0))),(17, .b (.c (.ptr 7 0))),(18, .b (U ms)),(19, .b (.c (.ptr 8 0)))] [(0, .fix ((aL s).map CV.p)),(1, .fix [.p (PU m), .own 2 ((bI s.ops i).length+1)]),(2, .arr 184 23 (N) f),(3, .fix ((aW ba).map CV.p)),(4, .arr 74 12 (NO) g),(5, .fix ((eA (s.ops.getD i default)).map CV.p)),(6, .fix ((eA (s.ops.getD i default)).map CV.p)),(7, .fix ((aW p).map CV.p)),(8, .fix ((zm ⟨(i:Int),1,ba,ba,0,p⟩).map CV.p))] 9) ?_ ?_
   ·refine aE [(1,some 1),(2,some 2),(3,some 3),(4,some 4),(5,some 5),(6,some 6),(7,some 7),(8,some 8)] ?_ ?_
    and_intros
    all_goals first|exact aw|skip
   clear hW
   repeat' (first|refine ak hk2 ?_|refine an ?_|((with_reducible refine cd (id:=20) (fun K hW => ?_));(try simp (maxSteps:=999999)(disch:=omega) only [go_sem]);and_intros;all_goals first|(refine hK _ ?_;clear hK K)|try exact aa)|((first|refine aj (fun K hK => ?_)|refine ae (hsc) ?_);and_intros;all_goals first|(refine hK _ ?_;clear hK K)|try exact aa))
   refine hW _ (bg [(1, .b (I x)),(2, .b (I y)),(3, .b gU),(4, .b (.c (.ptr 0 0))),(8, .b (.c (.ptr 3 0))),(9, .b (U m)),(11, .b (.c (.ptr 1 0))),(13, .b (.c (.own 4 ((bI s.ops i).length)))),(38, .b (.c (.p (qB s.ops)))),(39, .b (I s.ops.length)),(40, .b (I i)),(14, .b (I i)),(15, .b (.c (.ptr 5 0))),(17, .b (.c (.ptr 6 0))),(18, .b (U ms)),(22, .b (.c (.ptr 7 0)))] [(0, .fix ((aL s).map CV.p)),(1, .fix [.p (PU m), .own 2 ((bI s.ops i).length+1)]),(2, .arr 184 23 (N) f),(3, .fix ((aW ba).map CV.p)),(4, .arr 74 12 (NO) g),(5, .fix ((eA (s.ops.getD i default)).map CV.p)),(6, .fix ((aW p).map CV.p)),(7, .fix ((aW (aP m (s.ops.getD i default) p ms)).map CV.p))] 8) ?_ ?_
   ·refine aE [(1,some 1),(2,some 2),(3,some 3),(4,some 4),(5,some 5),(6,some 7),(7,some 9)] ?_ ?_
    and_intros
    all_goals first|exact aw|skip
   clear hW
   repeat' (refine aj (fun K hK => ?_);and_intros;all_goals first|(refine hK _ ?_;clear hK K)|try exact aa)
   refine sx 1 2 ((bI s.ops i).length+1) N f m (s.ops.getD i default) hN hbl ?_ ?_ ?_
   ·simp (maxSteps:=999999)(disch:=omega) only [go_sem]
   ·simp (maxSteps:=999999)(disch:=omega) only [go_sem]
   simp (maxSteps:=999999)(disch:=omega) only [go_sem]
   refine hK _ ?_
   clear hK
   repeat' (first|refine ak hk2 ?_|refine an ?_|((with_reducible refine cd (id:=24) (fun K hW => ?_));(try simp (maxSteps:=999999)(disch:=omega) only [go_sem]);and_intros;all_goals first|(refine hK _ ?_;clear hK K)|try exact aa)|(refine aj (fun K hK => ?_);and_intros;all_goals first|(refine hK _ ?_;clear hK K)|try exact aa))
   refine Dw 1 2 (bI s.ops i).length N hN f m (s.ops.getD i default) p ms t ?_ ?_ ?_ ?_ (by decide) (by omega) hf hm hk2 q5 q6 ⟨hfit.op0,hfit.opm⟩ hp ⟨hk0,hkm⟩ ha.v.head.v hko ?_ (fun F hF1 hF2 => ?_)
   ·simp (maxSteps:=999999)(disch:=omega) only [go_sem]
   ·simp (maxSteps:=999999)(disch:=omega) only [go_sem]
   ·simp (maxSteps:=999999)(disch:=omega) only [go_sem]
   ·simp (maxSteps:=999999)(disch:=omega) only [go_sem]
   ·refine (?_:gS 0 _).1
    repeat' (first|exact Bu rfl|refine gS.set ?_ _ _|refine gS.newBox ?_ _|refine Ef (by (first|(simp (maxSteps:=999999)(disch:=omega) only [go_sem];done)|(simp (maxSteps:=999999)(disch:=omega) only [go_sem];omega))) ?_)
   have hac2:=sZ m (bI s.ops i).length F _ (by omega) hF1
   have hco2:=ka (eX m (s.ops.getD i default) (aP m (s.ops.getD i default) p ms) t).acc
   simp (maxSteps:=999999)(disch:=omega) only [go_sem]
   refine hW _ (bg [(1, .b (I x)),(2, .b (I y)),(3, .b gU),(4, .b (.c (.ptr 0 0))),(8, .b (.c (.ptr 3 0))),(9, .b (U m)),(11, .b (.c (.ptr 1 0))),(13, .b (.c (.own 4 ((bI s.ops i).length)))),(38, .b (.c (.p (qB s.ops)))),(39, .b (I s.ops.length)),(40, .b (I i)),(14, .b (I i)),(22, .b (.c (.ptr 5 0))),(23, .b (.c (.ptr 6 0)))] [(0, .fix ((aL s).map CV.p)),(1, .fix [.p (PU m), .own 2 ((bI s.ops i).length+1)]),(2, .arr 184 23 (N) F),(3, .fix ((aW ba).map CV.p)),(4, .arr 74 12 (NO) g),(5, .fix ((aW (aP m (s.ops.getD i default) p ms)).map CV.p)),(6, .fix ((aW (sJ t.acc)).map CV.p))] 7) ?_ ?_
   ·refine aE [(1,some 1),(2,some 2),(3,some 3),(4,some 4),(5,some 7),(6,some 8)] ?_ ?_
    and_intros
    all_goals first|exact aw|skip
   clear hW
   refine pD (id:=25) (.br 0 (.br 1 (.br 2 (.br 3 (.br 4 (.br 5 (.br 6 (.br 7 (.br 8 .leaf .nil) .nil) .nil) .nil) .nil) .nil) .nil) .nil) .nil) (by decide +kernel) ?_ (fun K0 hW => ?_)
   ·refine ⟨?_,Nat.zero_le _⟩
    refine (?_:gS 0 _).1
    repeat' (exact Bu rfl)
   replace hW:=lQ hW
   repeat' (first|exact cE|(refine dA (fun K' hK' => ?_) ?_)|(refine cj (hW _ ?_);clear hW)|((first|refine kz (k:=2) (e:=184) hN hac2 (tW _) ?_|refine ae (hco2) ?_|refine ae (nE _ _ _ _ _ _ _ _ _ _ _ _ _ _ _ _ _ _) ?_);(try simp (maxSteps:=999999)(disch:=omega) only [go_sem]);and_intros;(all_goals first|(refine hK' _ ?_;clear hK' K')|trivial|omega|exact Nat.le_of_ble_eq_true rfl|exact aa|skip))|(simp (maxSteps:=999999)(disch:=omega) only [go_sem];and_intros;(all_goals first|(refine hK' _ ?_;clear hK' K')|trivial|omega|exact Nat.le_of_ble_eq_true rfl|exact aa|skip)))
   all_goals
    refine ji ?_
    refine .inl ⟨bg [(1, .b (I x)),(2, .b (I y)),(3, .b gU),(4, .b (.c (.ptr 0 0))),(8, .b (.c (.ptr 3 0))),(9, .b (U m)),(11, .b (.c (.ptr 1 0))),(13, .b (.c (.own 4 ((bI s.ops i).length)))),(38, .b (.c (.p (qB s.ops)))),(39, .b (I s.ops.length)),(40, .b (I i))] [(0, .fix ((aL s).map CV.p)),(1, .fix [.p (PU m), .own 2 ((bI s.ops i).length+1)]),(2, .arr 184 23 (N) F),(3, .fix ((aW ba).map CV.p)),(4, .arr 74 12 (NO) g)] 5, ?_, ?_⟩
    ·refine aE [(1,some 1),(2,some 2),(3,some 3),(4,some 4)] ?_ ?_
     and_intros
     all_goals first|exact aw|skip
    repeat' (refine aj (fun K hK => ?_);and_intros;all_goals first|(refine hK _ ?_;clear hK K)|try exact aa)
    rw [ah]
    refine au (i+1,N,F,NO,g) ?_ ⟨by dsimp only;omega,by dsimp only;rw [cr hk];exact hN, ?_,by dsimp only;rw [cr hk];exact hNO,by dsimp only;rw [cr hk];exact hop⟩ (by dsimp only;omega)
    ·dsimp only
     rw [cr hk]
     refine aE [(1,some 1),(2,some 2),(3,some 3),(4,some 4)] ?_ ?_
     and_intros
     all_goals first|exact aw|skip
    ·dsimp only
     rw [hnx]
     refine ⟨by rw [hlen] at hF1;exact hF1,ki (fun a ha j=>hF2 a (by rw [hlen];exact ha) j) hh.2⟩
  ·have hk2:(s.ops.getD i default).kind=2:=hk
   have himg:=hs.images
   obtain ⟨b0,b1,b2,⟨b3,b3'⟩,⟨b4,b4'⟩,⟨b5,b5'⟩,b6,b6'⟩:=oG C hlt (by omega)
   obtain ⟨_,_,_,q4⟩:=dr.1 (V.ok i hlt)
   obtain ⟨_,_,_,_,_,_,q7⟩:=q4 (by omega)
   have hd:=q7 hk
   rw [List.length_map,List.length_reverse] at hd
   have hnx:=nN (m:=m) (z:=cD s x y) hlt
   rw [e,lN hk] at hnx
   have hsm:=oS s (aB s.ops i) x y hs hx hy ⟨by omega,by omega⟩ ⟨by omega,by omega⟩ ⟨by omega,by omega⟩ ⟨by omega,by omega⟩ ⟨by omega,by omega⟩
   generalize hz1:cD s x y (aB s.ops i)=zz at hsm
   obtain ⟨p,ms⟩:=zz
   dsimp only at hsm
   unfold aB at hsm
   repeat' (first|refine ak hk2 ?_|refine an ?_|((with_reducible refine cd (id:=11) (fun K hW => ?_));(try simp (maxSteps:=999999)(disch:=omega) only [go_sem]);and_intros;all_goals first|(refine hK _ ?_;clear hK K)|try exact aa)|((first|refine aj (fun K hK => ?_)|refine ae (hsm) ?_);and_intros;all_goals first|(refine hK _ ?_;clear hK K)|try exact aa)|(refine aH (fun hb => ?_) (fun hb => ?_);all_goals try exact ax))
   refine hW _ (bg [(1, .b (I x)),(2, .b (I y)),(3, .b gU),(4, .b (.c (.ptr 0 0))),(8, .b (.c (.ptr 3 0))),(9, .b (U m)),(11, .b (.c (.ptr 1 0))),(13, .b (.c (.own 4 ((bI s.ops i).length)))),(38, .b (.c (.p (qB s.ops)))),(39, .b (I s.ops.length)),(40, .b (I i)),(14, .b (I i)),(15, .b (.c (.ptr 5 0)))] [(0, .fix ((aL s).map CV.p)),(1, .fix [.p (PU m), .own 2 ((bI s.ops i).length+1)]),(2, .arr 184 23 (N) f),(3, .fix ((aW ba).map CV.p)),(4, .arr 74 12 (NO) g),(5, .fix ((eA (s.ops.getD i default)).map CV.p))] 6) ?_ ?_
   ·refine aE [(1,some 1),(2,some 2),(3,some 3),(4,some 4),(5,some 5)] ?_ ?_
    and_intros
    all_goals first|exact aw|skip
   clear hW
   repeat' (first|refine ak hk2 ?_|refine an ?_|((with_reducible refine cd (id:=14) (fun K hW => ?_));(try simp (maxSteps:=999999)(disch:=omega) only [go_sem]);and_intros;all_goals first|(refine hK _ ?_;clear hK K)|try exact aa)|(refine aj (fun K hK => ?_);and_intros;all_goals first|(refine hK _ ?_;clear hK K)|try exact aa))
   refine Dg 1 2 (bI s.ops i).length N hN f m (s.ops.getD i default) t ?_ ?_ ?_ ?_ (by decide) hd hf hk2 ?_ (fun F hF1 hF2 => ?_)
   ·simp (maxSteps:=999999)(disch:=omega) only [go_sem]
   ·simp (maxSteps:=999999)(disch:=omega) only [go_sem]
   ·simp (maxSteps:=999999)(disch:=omega) only [go_sem]
   ·simp (maxSteps:=999999)(disch:=omega) only [go_sem]
   ·refine (?_:gS 0 _).1
    repeat' (first|exact Bu rfl|refine gS.set ?_ _ _)
   have hbk:=AE m ((bI s.ops i).length+1) F (jA (s.ops.getD i default) t) (by omega) hF1
   simp (maxSteps:=999999)(disch:=omega) only [go_sem]
   refine hW _ (bg [(1, .b (I x)),(2, .b (I y)),(3, .b gU),(4, .b (.c (.ptr 0 0))),(8, .b (.c (.ptr 3 0))),(9, .b (U m)),(11, .b (.c (.ptr 1 0))),(13, .b (.c (.own 4 ((bI s.ops i).length)))),(38, .b (.c (.p (qB s.ops)))),(39, .b (I s.ops.length)),(40, .b (I i)),(14, .b (I i)),(15, .b (.c (.ptr 5 0)))] [(0, .fix ((aL s).map CV.p)),(1, .fix [.p (PU m), .own 2 ((bI s.ops i).length+1+1)]),(2, .arr 184 23 ((bI s.ops i).length+2) F),(3, .fix ((aW ba).map CV.p)),(4, .arr 74 12 (NO) g),(5, .fix ((eA (s.ops.getD i default)).map CV.p))] 6) ?_ ?_
   ·refine aE [(1,some 1),(2,some 11),(3,some 3),(4,some 4),(5,some 5)] ?_ ?_
    and_intros
    all_goals first|exact aw|skip
   clear hW
   repeat' (first|refine an ?_|((first|refine aj (fun K hK => ?_)|refine kz (k:=2) (e:=184) (Nat.le_refl _) hbk (mR _) ?_|refine ae (nE _ _ _ _ _ _ _ _ _ _ _ _ _ _ _ _ _ _) ?_);and_intros;all_goals first|(refine hK _ ?_;clear hK K)|try exact aa))
   rw [ah]
   refine au (i+1,(bI s.ops i).length+2,F,(bI s.ops i).length+1,Fg (bI s.ops i).length (s.ops.getD i default) g) ?_ ⟨by dsimp only;omega,by dsimp only;rw [ct hk];exact Nat.le_refl _, ?_,by dsimp only;rw [ct hk];exact Nat.le_refl _,by dsimp only;rw [ct hk];exact DE hop⟩ (by dsimp only;omega)
   ·dsimp only
    rw [ct hk,List.length_cons]
    refine aE [(1,some 1),(2,some 2),(3,some 3),(4,some 7)] ?_ ?_
    and_intros
    all_goals first|exact aw|skip
    exact .inr fun a ha j hj=>IK (fun j hj=>by (have hivl:j=0∨j=1∨j=2∨j=3∨j=4∨j=5∨j=6∨j=7∨j=8∨j=9∨j=10∨j=11:=by omega);rcases hivl with rfl|rfl|rfl|rfl|rfl|rfl|rfl|rfl|rfl|rfl|rfl|rfl <;> rfl) a ha j hj
   ·dsimp only
    rw [hnx]
    refine ⟨by rw [hlen] at hF1;exact hF1,ki (fun a ha j=>hF2 a (by rw [hlen];exact ha) j) hh⟩
  ·have hk2:(s.ops.getD i default).kind=3:=hk
   have hnx:=nN (m:=m) (z:=cD s x y) hlt
   have himg:=hs.images
   obtain ⟨a,sk,hsk⟩:∃ a sk,bI s.ops i=a :: sk:=by
    cases hq:bI s.ops i with
    | nil=>exact absurd hq (W.pops i hlt hk)
    | cons a sk=>exact ⟨a,sk,rfl⟩
   cases r with
   | nil=>rw [hsk] at hlen;cases hlen
   | cons u r =>
   rw [e,qI hk] at hnx
   obtain ⟨vt,vf,vs⟩:=ha.v
   have ho:=ha.o
   rw [hsk] at ho
   have eg:t.op=aB s.ops a:=(List.cons.inj ho).1
   have hgl:a<i:=dR (ops:=s.ops) (by rw [hsk];exact List.mem_cons_self ..)
   have hgk:(aB s.ops a).kind=2:=fO (i:=i) (by rw [hsk];exact List.mem_cons_self ..)
   obtain ⟨b0,b1,b2,⟨b3,b3'⟩,⟨b4,b4'⟩,⟨b5,b5'⟩,b6,b6'⟩:=oG C (show a<s.ops.length by omega) (by omega)
   obtain ⟨_,_,_,q4⟩:=dr.1 (V.ok a (by omega))
   obtain ⟨_,_,_,q5,q6,_⟩:=q4 (by omega)
   rw [← eg] at b0 b1 b2 b3 b3' b4 b4' b5 b5' b6 b6' q5 q6
   simp only [jj,decide_eq_true_eq] at q5 q6
   have hlk:(bI s.ops i).length=r.length+1:=by rw [hlen];rfl
   have hls:(bI s.ops (i+1)).length=r.length:=by rw [dQ hk,List.length_tail,hlk];rfl
   have hu:gA (f r.length) u:=hh.2.1
   have hskl:sk.length=r.length:=by rw [hsk] at hlk;simpa using hlk
   rw [hsk] at hop
   have hrow:∀ c,g r.length c=(eA t.op).getD c .any:=fun c=>by rw [← hskl,eg];exact hop.1 c
   rw [hlk] at hf hst hN hNO ⊢
   have hz:=C.z
   have hsm:=oS s t.op x y hs hx hy ⟨by omega,by omega⟩ ⟨by omega,by omega⟩ ⟨by omega,by omega⟩ ⟨by omega,by omega⟩ ⟨by omega,by omega⟩
   have hk0:=hz.k0 t.op
   have hkm:=hz.km t.op
   have hacT:=sZ m (r.length+1) f t (by omega) hf
   have hbkT:=AE m (r.length+1) f t (by omega) hf
   have hre:=lY t.acc t.back m hm vt.v
   have hrv:=ql hm vt.v
   have hko:u.op.knockout=true→t.op.operator=4:=fun h=>vf.ctx.elim id fun q=>by rw [h] at q;cases q.2
   generalize hz1:cD s x y t.op=zz at *
   obtain ⟨p,ms⟩:=zz
   dsimp only at hsm hk0 hkm hnx
   have hbl:=CH m r.length f u (s.ops.getD i default) (by omega) hu hk2
   have hsc:=ry t.op ⟨(i:Int),6,ba,ba,0,bB t.acc t.back m⟩ ms m hm hrv hk0 hkm vf.op0 vf.opm
   have er:ag [g r.length 0,g r.length 1,g r.length 2,g r.length 3,g r.length 4,g r.length 5,g r.length 6,g r.length 7,g r.length 8,g r.length 9,g r.length 10,g r.length 11]=ag (eA t.op):=by rw [hrow 0,hrow 1,hrow 2,hrow 3,hrow 4,hrow 5,hrow 6,hrow 7,hrow 8,hrow 9,hrow 10,hrow 11];rfl
   rw [← er] at hsm
   generalize hres:bB t.acc t.back m=res at *
   repeat' (first|refine an ?_|((with_reducible refine cd (id:=7) (fun K hW => ?_));(try simp (maxSteps:=999999)(disch:=omega) only [go_sem]);and_intros;all_goals first|(refine hK _ ?_;clear hK K)|try exact aa)|(refine aj (fun K hK => ?_);and_intros;all_goals first|(refine hK _ ?_;clear hK K)|try exact aa)|(refine aH (fun hb => ?_) (fun hb => ?_);all_goals try exact ax))
   refine hW _ (bg [(1, .b (I x)),(2, .b (I y)),(3, .b gU),(4, .b (.c (.ptr 0 0))),(8, .b (.c (.ptr 3 0))),(9, .b (U m)),(11, .b (.c (.ptr 1 0))),(13, .b (.c (.own 4 (r.length+1)))),(38, .b (.c (.p (qB s.ops)))),(39, .b (I s.ops.length)),(40, .b (I i)),(14, .b (I i)),(15, .b (.c (.ptr 5 0))),(16, .b (.c (.ptr 6 0)))] [(0, .fix ((aL s).map CV.p)),(1, .fix [.p (PU m), .own 2 (r.length+1+1)]),(2, .arr 184 23 (N) f),(3, .fix ((aW ba).map CV.p)),(4, .arr 74 12 (NO) g),(5, .fix ((eA (s.ops.getD i default)).map CV.p)),(6, .fix ((eA (s.ops.getD i default)).map CV.p))] 7) ?_ ?_
   ·refine aE [(1,some 1),(2,some 2),(3,some 3),(4,some 4),(5,some 5),(6,some 6)] ?_ ?_
    and_intros
    all_goals first|exact aw|skip
   clear hW
   repeat' (first|refine ak hk2 ?_|refine an ?_|((with_reducible refine cd (id:=11) (fun K hW => ?_));(try simp (maxSteps:=999999)(disch:=omega) only [go_sem]);and_intros;all_goals first|(refine hK _ ?_;clear hK K)|try exact aa)|((first|refine aj (fun K hK => ?_)|refine ae (hsm) ?_);and_intros;all_goals first|(refine hK _ ?_;clear hK K)|try exact aa))
   refine hW _ (bg [(1, .b (I x)),(2, .b (I y)),(3, .b gU),(4, .b (.c (.ptr 0 0))),(8, .b (.c (.ptr 3 0))),(9, .b (U m)),(11, .b (.c (.ptr 1 0))),(13, .b (.c (.own 4 (r.length)))),(38, .b (.c (.p (qB s.ops)))),(39, .b (I s.ops.length)),(40, .b (I i)),(14, .b (I i)),(15, .b (.c (.ptr 5 0))),(16, .b (.c (.ptr 6 0))),(18, .b (U ms)),(19, .b (.c (.ptr 7 0)))] [(0, .fix ((aL s).map CV.p)),(1, .fix [.p (PU m), .own 2 (r.length+1+1)]),(2, .arr 184 23 (N) f),(3, .fix ((aW ba).map CV.p)),(4, .arr 74 12 (NO) g),(5, .fix ((eA (s.ops.getD i default)).map CV.p)),(6, .fix ((eA t.op).map CV.p)),(7, .fix ((zm ⟨(i:Int),1,ba,ba,0,p⟩).map CV.p))] 8) ?_ ?_
   ·refine aE [(1,some 1),(2,some 2),(3,some 3),(4,some 4),(5,some 5),(6,some 6),(7,some 8)] ?_ ?_
    and_intros
    all_goals first|exact aw|skip
    all_goals exact .inl (hrow _)
   clear hW
   repeat' (first|refine ak hk2 ?_|refine an ?_|((with_reducible refine cd (id:=20) (fun K hW => ?_));(try simp (maxSteps:=999999)(disch:=omega) only [go_sem]);and_intros;all_goals first|(refine hK _ ?_;clear hK K)|try exact aa)|((first|refine aj (fun K hK => ?_)|refine kz (k:=2) (e:=184) hN hacT (tW _) ?_|refine kz (k:=2) (e:=184) hN hbkT (mR _) ?_|refine ae (hre) ?_|refine ae (hsc) ?_);and_intros;all_goals first|(refine hK _ ?_;clear hK K)|try exact aa))
   refine hW _ (bg [(1, .b (I x)),(2, .b (I y)),(3, .b gU),(4, .b (.c (.ptr 0 0))),(8, .b (.c (.ptr 3 0))),(9, .b (U m)),(11, .b (.c (.ptr 1 0))),(13, .b (.c (.own 4 (r.length)))),(38, .b (.c (.p (qB s.ops)))),(39, .b (I s.ops.length)),(40, .b (I i)),(14, .b (I i)),(15, .b (.c (.ptr 5 0))),(18, .b (U ms)),(22, .b (.c (.ptr 6 0)))] [(0, .fix ((aL s).map CV.p)),(1, .fix [.p (PU m), .own 2 (r.length+1+1)]),(2, .arr 184 23 (N) f),(3, .fix ((aW ba).map CV.p)),(4, .arr 74 12 (NO) g),(5, .fix ((eA (s.ops.getD i default)).map CV.p)),(6, .fix ((aW (aP m t.op res ms)).map CV.p))] 7) ?_ ?_
   ·refine aE [(1,some 1),(2,some 2),(3,some 3),(4,some 4),(5,some 5),(6,some 9)] ?_ ?_
    and_intros
    all_goals first|exact aw|skip
   clear hW
   repeat' (refine aj (fun K hK => ?_);and_intros;all_goals first|(refine hK _ ?_;clear hK K)|try exact aa)
   refine sx 1 2 (r.length+1+1) N f m (s.ops.getD i default) hN hbl ?_ ?_ ?_
   ·simp (maxSteps:=999999)(disch:=omega) only [go_sem]
   ·simp (maxSteps:=999999)(disch:=omega) only [go_sem]
   simp (maxSteps:=999999)(disch:=omega) only [go_sem]
   refine hK _ ?_
   clear hK
   repeat' (first|refine ak hk2 ?_|refine an ?_|((with_reducible refine cd (id:=23) (fun K hW => ?_));(try simp (maxSteps:=999999)(disch:=omega) only [go_sem]);and_intros;all_goals first|(refine hK _ ?_;clear hK K)|try exact aa)|(refine aj (fun K hK => ?_);and_intros;all_goals first|(refine hK _ ?_;clear hK K)|try exact aa))
   refine Fy 1 2 r.length N hN f m ms t u ?_ ?_ ?_ ?_ (by decide) (by omega) hf hu hm q5 q6 ⟨vf.op0,vf.opm⟩ ⟨hk0,hkm⟩ vt.v vs.head.v hko ?_ (fun F hF1 hF2 => ?_)
   ·simp (maxSteps:=999999)(disch:=omega) only [go_sem]
   ·simp (maxSteps:=999999)(disch:=omega) only [go_sem]
   ·simp (maxSteps:=999999)(disch:=omega) only [go_sem]
   ·simp (maxSteps:=999999)(disch:=omega) only [go_sem]
   ·refine (?_:gS 0 _).1
    repeat' (first|exact Bu rfl|refine gS.set ?_ _ _|refine gS.newBox ?_ _|refine Ef (by (first|(simp (maxSteps:=999999)(disch:=omega) only [go_sem];done)|(simp (maxSteps:=999999)(disch:=omega) only [go_sem];omega))) ?_)
   rw [hres] at hF1 ⊢
   have hac2:=sZ m r.length F _ (by omega) hF1
   have hco2:=ka (eX m t.op (aP m t.op res ms) u).acc
   simp (maxSteps:=999999)(disch:=omega) only [go_sem]
   refine hW _ (bg [(1, .b (I x)),(2, .b (I y)),(3, .b gU),(4, .b (.c (.ptr 0 0))),(8, .b (.c (.ptr 3 0))),(9, .b (U m)),(11, .b (.c (.ptr 1 0))),(13, .b (.c (.own 4 (r.length)))),(38, .b (.c (.p (qB s.ops)))),(39, .b (I s.ops.length)),(40, .b (I i)),(14, .b (I i)),(22, .b (.c (.ptr 5 0))),(23, .b (.c (.ptr 6 0)))] [(0, .fix ((aL s).map CV.p)),(1, .fix [.p (PU m), .own 2 (r.length+1)]),(2, .arr 184 23 (N) F),(3, .fix ((aW ba).map CV.p)),(4, .arr 74 12 (NO) g),(5, .fix ((aW (aP m t.op res ms)).map CV.p)),(6, .fix ((aW (sJ u.acc)).map CV.p))] 7) ?_ ?_
   ·refine aE [(1,some 1),(2,some 2),(3,some 3),(4,some 4),(5,some 6),(6,some 7)] ?_ ?_
    and_intros
    all_goals first|exact aw|skip
   clear hW
   refine pD (id:=25) (.br 0 (.br 1 (.br 2 (.br 3 (.br 4 (.br 5 (.br 6 (.br 7 (.br 8 .leaf .nil) .nil) .nil) .nil) .nil) .nil) .nil) .nil) .nil) (by decide +kernel) ?_ (fun K0 hW => ?_)
   ·refine ⟨?_,Nat.zero_le _⟩
    refine (?_:gS 0 _).1
    repeat' (exact Bu rfl)
   replace hW:=lQ hW
   repeat' (first|exact cE|(refine dA (fun K' hK' => ?_) ?_)|(refine cj (hW _ ?_);clear hW)|((first|refine kz (k:=2) (e:=184) (show r.length+1≤N by omega) hac2 (tW _) ?_|refine ae (hco2) ?_|refine ae (nE _ _ _ _ _ _ _ _ _ _ _ _ _ _ _ _ _ _) ?_);(try simp (maxSteps:=999999)(disch:=omega) only [go_sem]);and_intros;(all_goals first|(refine hK' _ ?_;clear hK' K')|trivial|omega|exact Nat.le_of_ble_eq_true rfl|exact aa|skip))|(simp (maxSteps:=999999)(disch:=omega) only [go_sem];and_intros;(all_goals first|(refine hK' _ ?_;clear hK' K')|trivial|omega|exact Nat.le_of_ble_eq_true rfl|exact aa|skip)))
   all_goals
    refine ji ?_
    refine .inl ⟨bg [(1, .b (I x)),(2, .b (I y)),(3, .b gU),(4, .b (.c (.ptr 0 0))),(8, .b (.c (.ptr 3 0))),(9, .b (U m)),(11, .b (.c (.ptr 1 0))),(13, .b (.c (.own 4 (r.length)))),(38, .b (.c (.p (qB s.ops)))),(39, .b (I s.ops.length)),(40, .b (I i))] [(0, .fix ((aL s).map CV.p)),(1, .fix [.p (PU m), .own 2 (r.length+1)]),(2, .arr 184 23 (N) F),(3, .fix ((aW ba).map CV.p)),(4, .arr 74 12 (NO) g)] 5, ?_, ?_⟩
    ·refine aE [(1,some 1),(2,some 2),(3,some 3),(4,some 4)] ?_ ?_
     and_intros
     all_goals first|exact aw|skip
    repeat' (refine aj (fun K hK => ?_);and_intros;all_goals first|(refine hK _ ?_;clear hK K)|try exact aa)
    rw [ah]
    refine au (i+1,N,F,NO,g) ?_ ⟨by dsimp only;omega,by dsimp only;rw [hls];omega, ?_,by dsimp only;rw [hls];omega,by dsimp only;rw [dQ hk,hsk];exact hop.2⟩ (by dsimp only;omega)
    ·dsimp only
     rw [hls]
     refine aE [(1,some 1),(2,some 2),(3,some 3),(4,some 4)] ?_ ?_
     and_intros
     all_goals first|exact aw|skip
    ·dsimp only
     rw [hnx]
     exact ⟨hF1,ki (fun a ha j=>hF2 a ha j) hh.2.2⟩
 ·have hi2:i=s.ops.length:=by omega
  subst hi2
  have hg:decide (((s.ops.length:Nat):Int)<s.ops.length)=false:=decide_eq_false (by omega)
  have hl0:(bI s.ops s.ops.length).length=0:=by rw [W.fin];rfl
  rw [hl0] at hf hN ⊢
  have hre:=zV m f t hf hm ha.v.head.v
  rw [hv t r e]
  generalize bB t.acc t.back m=q at *
  repeat' (first|refine ak hg ?_|refine an ?_|((first|refine aj (fun K hK => ?_)|refine kz (k:=2) (e:=184) hN hre (Gd) ?_);and_intros;all_goals first|(refine hK _ ?_;clear hK K)|try exact aa)|(refine ai ?_;(try clear hB KB);(try clear hK K)))
  try rfl
end Go.Proofs.YtcbifofjjpfbcaaGreatDoor
set_option maxHeartbeats 4000000
set_option maxRecDepth 16000
namespace Go.Proofs.YtcbifofjjpfbcaaGreatDoor
open Go Go.SL
open Go.RowKit (wrap64)
theorem JD (s:Script) (x y:Int) (E:EvOk s) (hx:i64 x) (hy:i64 y):aF Sg 31 [ag (aL s),I x,I y] (fun r=>r = .tup [ag (aW (vE s x y)),I (mc s x y)]):=by
 have ht:True:=trivial
 have h1:=FG s x y E
 by_cases h0:mc s x y=0
 ·have h2:=Ig s x y _ (E.pt h0) E.len hx hy
  have e2:vE s x y=dH s x y:=by unfold vE;rw [if_pos h0]
  rw [e2]
  rw [h0] at h1 ⊢
  unfold gU at h2
  generalize dH s x y=q at *
  refine aI Tryz.func31 [.cell 6 37, .tmp 7] ?_
  repeat' (first|refine ak ht ?_|refine an ?_|((first|refine aj (fun K hK => ?_)|refine ae (h1) ?_|refine ae (h2) ?_);and_intros;all_goals first|(refine hK _ ?_;clear hK K)|try exact aa)|(refine ai ?_;(try clear hB KB);(try clear hK K)))
  all_goals (try rfl)
 ·have e2:vE s x y=ba:=by unfold vE;rw [if_neg h0]
  have g0:(mc s x y != 0)=true:=by rw [bne_iff_ne];exact h0
  rw [e2]
  refine aI Tryz.func31 [.cell 6 37, .tmp 7] ?_
  repeat' (first|refine ak g0 ?_|refine an ?_|((first|refine aj (fun K hK => ?_)|refine ae (h1) ?_);and_intros;all_goals first|(refine hK _ ?_;clear hK K)|try exact aa)|(refine ai ?_;(try clear hB KB);(try clear hK K)))
  all_goals (try rfl)
end Go.Proofs.YtcbifofjjpfbcaaGreatDoor
set_option maxHeartbeats 4000000
set_option maxRecDepth 16000
namespace Go.Proofs.YtcbifofjjpfbcaaGreatDoor
open Go Go.SL
open Go.RowKit (wrap64)
attribute [local go_sem] Int.toNat_natCast
theorem zN (c:Scene) (hc:SceneOk c) (x y:Int):aF Sg 9 [ag (gI c),I x,I y] (fun r=>r = .b (B true)):=by
 have ht:True:=trivial
 have hg:=lW c hc
 have hO:=SU c
 have hsm:Small (aD c).canvas:=cY c
 have hin:=PK hsm x y
 have hp:=HJ (aD c).canvas x y hsm
 have hi:=PO hsm x y
 have C:=hO.pt (x:=Pr (aD c).canvas x) (y:=Pz (aD c).canvas y) hin
 have h1:=hO.rend
 have h2:=JD (aD c) _ _ hO.ev hi.1 hi.2
 rw [(PG C).1,(PG C).2.1] at h2
 have h3:=EC (eL (aD c)) (Pr (aD c).canvas x - (aD c).canvas.x0) (Pz (aD c).canvas y - (aD c).canvas.y0)
 rw [rI,sU hsm hin] at h3
 have haw:=oH
 obtain ⟨b1,b2,b3,b4,b5,b6⟩:=id hsm
 unfold iO at hin
 generalize Pr (aD c).canvas x=u at *
 generalize Pz (aD c).canvas y=v at *
 rw [← rI] at h3
 generalize dH (aD c) u v=w at *
 generalize eL (aD c)=M at *
 generalize aD c=s at *
 refine aI Tryz.func9 [.tmp 6] ?_
 repeat' (first|with_reducible exact aK|refine ak ht ?_|refine an ?_|((first|refine aj (fun K hK => ?_)|refine aY ?_|refine ae (hg) ?_|refine aq (fun hg=>hg) ?_|refine ae (hp) ?_|refine aq (fun hg=>hp) ?_|refine ae (h1) ?_|refine aq (fun hg=>h1) ?_|refine ae (h2) ?_|refine aq (fun hg=>h2) ?_|refine ae (haw) ?_|refine aq (fun hg=>haw) ?_|refine ae (h3) ?_|refine aq (fun hg=>h3) ?_);and_intros;all_goals first|(refine hK _ ?_;clear hK K)|try exact aa)|((first|apply aC|apply ay);(case hf=>rfl);(case hc=>exact aS);(all_goals first|(intro hb;(try simp only [bZ] at hb))|skip))|exact ao|(refine aH (fun hb => ?_) (fun hb => ?_);all_goals try exact ax)|refine ar (fun KB hB => ?_)|(refine hB _ ?_;clear hB KB)|refine aA (S:=Sg) (by assumption) ?_|(refine ai ?_;(try clear hB KB);(try clear hK K)))
 refine congrArg (fun b=>SV.b (B b)) (?_:_=true)
 simp only [beq_self_eq_true,Bool.and_self,Bool.true_and,Bool.and_true]
end Go.Proofs.YtcbifofjjpfbcaaGreatDoor
