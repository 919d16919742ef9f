/- Part of the proof: WQ, WO. -/
import Derived.Test.YtmfblbbemekkoaaGreatDoorK21
import Derived.Test.YtmfblbbemekkoaaGreatDoorK24
set_option linter.unusedSimpArgs false
set_option linter.unusedVariables false
set_option maxHeartbeats 4000000
set_option maxRecDepth 16000
namespace Go.Proofs.YtmfblbbemekkoaaGreatDoor
open Go Go.SL
open Go.RowKit (wrap64)
attribute [local go_sem] dI sI cO Int.toNat_natCast tO uB
theorem vH (t:Lv):(SV.b (ag (uB t))).flat:=fun c hc=>by
 obtain ⟨x,hx,rfl⟩:=List.mem_map.1 hc
 simp only [uB,List.mem_cons,List.not_mem_nil,or_false] at hx
 rcases hx with rfl|rfl|rfl|rfl|rfl|rfl|rfl|rfl|rfl|rfl|rfl|rfl|rfl|rfl|rfl|rfl|rfl|rfl|rfl|rfl|rfl|rfl|rfl <;> trivial
theorem np (m:Int) (n:Nat) (f:Nat→Nat→PV) (t:Lv) (hl:n≤1000) (hf:eI (f n) t):aD Sg 147 [sI m (n+1) f] (fun x=>x = .b (ag (uB t))):=by
 have ht:True:=trivial
 obtain ⟨e0,e1,e2,e3,e4,e5,e6,e7,e8,e9,e10,e11,e12,e13,e14,e15,e16,e17,e18,e19,e20,e21,e22⟩:=Pn hf
 refine aC Tryz.func147 [.cell 2 201] ?_
 repeat' (first|(refine ai (fun K hK => ?_);and_intros;all_goals first|(refine hK _ ?_;clear hK K)|try exact aa)|(refine an ?_;(try clear hB KB);(try clear hK K)))
 simp only [e0,e1,e2,e3,e4,e5,e6,e7,e8,e9,e10,e11,e12,e13,e14,e15,e16,e17,e18,e19,e20,e21,e22]
 rfl
theorem lj (m:Int) (n:Nat) (f:Nat→Nat→PV) (hl:n≤1000):aD Sg 146 [sI m (n+1) f] (fun x=>x = .b (I n)):=by
 have ht:True:=trivial
 refine aC Tryz.func146 [.tmp 2] ?_
 repeat' (first|with_reducible exact cn|refine aj ht ?_|refine ak ?_|(refine ai (fun K hK => ?_);and_intros;all_goals first|(refine hK _ ?_;clear hK K)|try exact aa)|(refine an ?_;(try clear hB KB);(try clear hK K)))
theorem jP (m:Int) (n:Nat) (f:Nat→Nat→PV) (t:Lv) (hl:n≤1000) (hf:eI (f n) t):aD Sg 108 [sI m (n+1) f] (fun x=>x = .b (ag (dI t.acc))):=by
 have ht:True:=trivial
 have h1:=np m n f t hl hf
 refine aC Tryz.func108 [.cell 2 156] ?_
 repeat' (first|refine aj ht ?_|refine ak ?_|((first|refine ai (fun K hK => ?_)|refine ae (h1) ?_);and_intros;all_goals first|(refine hK _ ?_;clear hK K)|try exact aa)|(refine an ?_;(try clear hB KB);(try clear hK K)))
 rfl
theorem mS (m:Int) (n:Nat) (f:Nat→Nat→PV) (t:Lv) (hl:n≤1000) (hf:eI (f n) t):aD Sg 106 [sI m (n+1) f] (fun x=>x = .b (ag (aH t.back))):=by
 have ht:True:=trivial
 have h1:=np m n f t hl hf
 refine aC Tryz.func106 [.cell 2 41] ?_
 repeat' (first|refine aj ht ?_|refine ak ?_|((first|refine ai (fun K hK => ?_)|refine ae (h1) ?_);and_intros;all_goals first|(refine hK _ ?_;clear hK K)|try exact aa)|(refine an ?_;(try clear hB KB);(try clear hK K)))
 rfl
theorem Cg (m:Int) (n:Nat) (f:Nat→Nat→PV) (t:Lv) (hl:n<1000) (hf:eI (f n) t):aD Sg 152 [sI m (n+1+1) f] (fun x=>x = .b (ag (dI t.acc))):=by
 have h1:=lj m (n+1) f (by omega)
 have g:(((n+1:Nat):Int) == 0)=false:=by rw [beq_eq_false_iff_ne];omega
 have g2:(((n+1+1:Nat):Int) - 2)=(n:Int):=by omega
 obtain ⟨e0,e1,e2,e3,e4,e5,e6,e7,e8,e9,e10,e11,e12,e13,e14,e15,e16,e17,e18,e19,e20,e21,e22⟩:=Pn hf
 refine aC Tryz.func152 [.cell 2 156] ?_
 repeat' (first|refine aj g ?_|refine ak ?_|((first|refine ai (fun K hK => ?_)|refine ae (h1) ?_);and_intros;all_goals first|(refine hK _ ?_;clear hK K)|try exact aa)|(refine an ?_;(try clear hB KB);(try clear hK K)))
 rw [show ((((n+1+1:Nat):Int) - 2).toNat)=n by omega,e12,e13,e14,e15,e16,e17]
 rfl
theorem oQ (m:Int) (f:Nat→Nat→PV) (t:Lv) (hf:eI (f 0) t) (hm:Full m) (hv:AccV t.acc t.back m):aD Sg 114 [sI m 1 f] (fun x=>x = .tup [ag (aH (bl t.acc t.back m)),I 0]):=by
 have ht:True:=trivial
 have h1:=lj m 0 f (by decide)
 have h3:=np m 0 f t (by decide) hf
 have h2:=ka t.acc t.back m hm hv
 generalize bl t.acc t.back m=q at *
 have g:(((0:Nat):Int) != 0)=false:=by decide
 refine aC Tryz.func114 [.cell 2 41, .tmp 3] ?_
 repeat' (first|refine aj g ?_|refine ak ?_|((first|refine ai (fun K hK => ?_)|refine ae (h1) ?_);and_intros;all_goals first|(refine hK _ ?_;clear hK K)|try exact aa))
 refine nB (id:=5) (.br 0 (.br 3 (.br 6 (.br 7 (.br 8 (.br 9 (.br 1 (.br 2 (.br 4 (.br 5 (.br 10 (.br 11 (.br 12 (.br 13 (.br 14 (.br 15 (.br 16 .leaf .nil) .nil) .nil) .nil) .nil) .nil) .nil) (.br 14 (.br 5 (.br 10 (.br 11 (.br 12 (.br 13 (.br 15 (.br 16 .leaf .nil) .nil) .nil) .nil) .nil) .nil) .nil) .nil)) (.br 14 (.br 4 (.br 5 (.br 10 (.br 11 (.br 12 (.br 13 (.br 15 (.br 16 .leaf .nil) .nil) .nil) .nil) .nil) .nil) .nil) .nil) .nil)) (.br 4 (.br 2 (.br 5 (.br 10 (.br 11 (.br 12 (.br 13 (.br 14 (.br 15 (.br 16 .leaf .nil) .nil) .nil) .nil) .nil) .nil) .nil) (.br 14 (.br 5 (.br 10 (.br 11 (.br 12 (.br 13 (.br 15 (.br 16 .leaf .nil) .nil) .nil) .nil) .nil) .nil) .nil) .nil)) (.br 5 (.br 2 (.br 10 (.br 11 (.br 12 (.br 13 (.br 14 (.br 15 (.br 16 .leaf .nil) .nil) .nil) .nil) .nil) .nil) .nil) (.br 14 (.br 2 (.br 10 (.br 11 (.br 12 (.br 13 (.br 15 (.br 16 .leaf .nil) .nil) .nil) .nil) .nil) .nil) .nil) .nil)) (.br 14 (.br 2 (.br 5 (.br 10 (.br 11 (.br 12 (.br 13 (.br 15 (.br 16 .leaf .nil) .nil) .nil) .nil) .nil) .nil) .nil) (.br 5 (.br 2 (.br 10 (.br 11 (.br 12 (.br 13 (.br 15 (.br 16 .leaf .nil) .nil) .nil) .nil) .nil) .nil) .nil) .nil)) .nil))) (.br 14 (.br 2 (.br 4 (.br 5 (.br 10 (.br 11 (.br 12 (.br 13 (.br 15 (.br 16 .leaf .nil) .nil) .nil) .nil) .nil) .nil) .nil) .nil) (.br 4 (.br 2 (.br 5 (.br 10 (.br 11 (.br 12 (.br 13 (.br 15 (.br 16 .leaf .nil) .nil) .nil) .nil) .nil) .nil) .nil) (.br 5 (.br 2 (.br 10 (.br 11 (.br 12 (.br 13 (.br 15 (.br 16 .leaf .nil) .nil) .nil) .nil) .nil) .nil) .nil) .nil)) .nil)) .nil))) (.br 14 (.br 1 (.br 2 (.br 4 (.br 5 (.br 10 (.br 11 (.br 12 (.br 13 (.br 15 (.br 16 .leaf .nil) .nil) .nil) .nil) .nil) .nil) .nil) .nil) (.br 4 (.br 2 (.br 5 (.br 10 (.br 11 (.br 12 (.br 13 (.br 15 (.br 16 .leaf .nil) .nil) .nil) .nil) .nil) .nil) .nil) (.br 5 (.br 2 (.br 10 (.br 11 (.br 12 (.br 13 (.br 15 (.br 16 .leaf .nil) .nil) .nil) .nil) .nil) .nil) .nil) .nil)) .nil)) .nil) .nil)) .nil) .nil) .nil) .nil) .nil) .nil) (by decide +kernel) ?_ (fun K0 hW => ?_)
 ·(first|(refine And.intro (fun iw hiw => ?_) ?_;(focus ((try simp (maxSteps:=999999)(disch:=omega) only [go_sem] at hiw ⊢);(repeat (refine Eq.trans (if_neg ?_) ?_;(focus omega)));exact hw iw (by omega)));(focus (first|exact Nat.zero_le _|(simp (maxSteps:=999999)(disch:=omega) only [go_sem];done)|(simp (maxSteps:=999999)(disch:=omega) only [go_sem];omega))))|exact eS)
 replace hW:=kD hW
 repeat' (first|exact cz|(refine cZ (fun K' hK' => ?_) ?_)|(refine cj (hW _ ?_);clear hW)|((first|refine ae (h3) ?_|refine ae (h2) ?_);(try simp (maxSteps:=999999)(disch:=omega) only [go_sem]);and_intros;(all_goals first|(refine hK' _ ?_;clear hK' K')|trivial|omega|exact Nat.le_of_ble_eq_true rfl|exact aa|skip))|(simp (maxSteps:=999999)(disch:=omega) only [go_sem];and_intros;(all_goals first|(refine hK' _ ?_;clear hK' K')|trivial|omega|exact Nat.le_of_ble_eq_true rfl|exact aa|skip)))
 all_goals
  refine iT ?_
  repeat' (first|(refine ai (fun K hK => ?_);and_intros;all_goals first|(refine hK _ ?_;clear hK K)|try exact aa)|(refine an ?_;(try clear hB KB);(try clear hK K)))
  rfl
theorem yI (m : Int) (n : Nat) (f : Nat → Nat → PV) (o : Op) (p : Pixel) (k : Int) (hm : Full m) (hp : PixV p m) (hk : 0 ≤ k) (hkm : k ≤ m) (ho : 0 ≤ o.opacity) (hom : o.opacity ≤ m) :
  aD Sg 153 [sI m n f,ag (dJ o),ag (aH p),U k] (fun r=>r = .tup [ag (aH (az m o p k)),B true]):=by
 have ht:True:=trivial
 unfold az
 by_cases h:o.mask=0
 ·rw [if_pos h,hZ hm]
  have hb:=gO p o.opacity m hm hp ho hom
  generalize aX p o.opacity m=q at *
  have g:(o.mask == 0)=true:=beq_iff_eq.2 h
  refine aC Tryz.func153 [.cell 8 41, .tmp 9] ?_
  repeat' (first|refine aj g ?_|refine ak ?_|((first|refine ai (fun K hK => ?_)|refine ae (hb) ?_);and_intros;all_goals first|(refine hK _ ?_;clear hK K)|try exact aa)|(refine an ?_;(try clear hB KB);(try clear hK K)))
  rfl
 ·rw [if_neg h]
  have hb:=DA p k o.opacity m hm hp hk hkm ho hom
  generalize aX (aX p k m) o.opacity m=q at *
  have g:(o.mask == 0)=false:=beq_eq_false_iff_ne.2 h
  refine aC Tryz.func153 [.cell 8 41, .tmp 9] ?_
  repeat' (first|refine aj g ?_|refine ak ?_|((first|refine ai (fun K hK => ?_)|refine ae (hb) ?_);and_intros;all_goals first|(refine hK _ ?_;clear hK K)|try exact aa)|(refine an ?_;(try clear hB KB);(try clear hK K)))
  rfl
theorem BR (m : Int) (N n : Nat) (g f : Nat → Nat → PV) (o : Op) (p : Pixel) (t : Lv) (hl : n ≤ 1000) (hf : eI (f n) t) (hm : Full m) (ho : 1 ≤ o.operator ∧ o.operator ≤ 12) (hmo : 1 ≤ o.mode ∧ o.mode ≤ 12) (hp : PixV p m) (hv : AccV t.acc t.back m) (hko : t.op.knockout = true → o.operator = 4) :
  aD Sg 154 [sI m N g, .c (.p (.lst 23 (n+1) f)),ag (dJ o),ag (aH p)] (fun r=>r = .tup [ag (uB (bT m o p t)),B true]):=by
 have ht:True:=trivial
 have hst:=Eu t.op.knockout o.operator o.mode m p t.acc t.back hm ho hmo hp hv hko
 have hpl:bT m o p t=⟨t.op,iL t.op.knockout o.operator o.mode m p t.acc t.back,t.back⟩:=rfl
 rw [hpl]
 obtain ⟨e0,e1,e2,e3,e4,e5,e6,e7,e8,e9,e10,e11,e12,e13,e14,e15,e16,e17,e18,e19,e20,e21,e22⟩:=Pn hf
 have hst2:aD Sg 180 [.c (.p (f n 11)),I o.operator,I o.mode,U m,ag (aH p),ag [f n 12,f n 13,f n 14,f n 15,f n 16,f n 17],ag [f n 18,f n 19,f n 20,f n 21,f n 22]] (fun r=>r = .tup [ag (dI (iL t.op.knockout o.operator o.mode m p t.acc t.back)),B true]):=by
  rw [e11,e12,e13,e14,e15,e16,e17,e18,e19,e20,e21,e22]
  exact hst
 generalize iL t.op.knockout o.operator o.mode m p t.acc t.back=q at *
 refine aC Tryz.func154 [.cell 8 201, .tmp 9] ?_
 repeat' (first|(((with_reducible refine cr (id:=2) [] (by decide +kernel) (by decide +kernel) ?_ (fun K hK => ?_));(first|(refine And.intro (fun iw hiw => ?_) ?_;(focus ((try simp (maxSteps:=999999)(disch:=omega) only [go_sem] at hiw ⊢);(repeat (refine Eq.trans (if_neg ?_) ?_;(focus omega)));exact hw iw (by omega)));(focus (first|exact Nat.zero_le _|(simp (maxSteps:=999999)(disch:=omega) only [go_sem];done)|(simp (maxSteps:=999999)(disch:=omega) only [go_sem];omega))))|exact eS));(try simp (maxSteps:=999999)(disch:=omega) only [go_sem]);and_intros;(all_goals first|(refine hK _ (by simp (maxSteps:=999999)(disch:=omega) only [go_sem]) ?_;clear hK K)|exact aa|skip))|((first|refine ai (fun K hK => ?_)|refine ae (hst2) ?_);and_intros;all_goals first|(refine hK _ ?_;clear hK K)|try exact aa))
 refine hK _ trivial ?_
 clear hK
 repeat' (first|(refine ai (fun K hK => ?_);and_intros;all_goals first|(refine hK _ ?_;clear hK K)|try exact aa)|(refine an ?_;(try clear hB KB);(try clear hK K)))
 simp only [e0,e1,e2,e3,e4,e5,e6,e7,e8,e9,e10,e11,e12,e13,e14,e15,e16,e17,e18,e19,e20,e21,e22]
 rfl
theorem mW {bx:Nat→Option Bx} {b k n N e:Nat} {m:Int} {g:Nat→Nat→PV} (hb:bx b=some (.fix [.p (PU m), .own k n])) (hk:bx k=some (.arr e 23 N g)) (hN:n≤N):dg bx (.c (.ptr b 0))=sI m n g:=by
 have h0:dH bx (.own k n) = .p (.lst 23 n g):=by
  simp only [dH,hk,hN,if_true]
 have hf:(fun j=>(dH bx (([CV.p (PU m), .own k n]:List CV).getD (0+j) .any)).toP)=fun j=>[PU m, .lst 23 n g].getD j .any:=by
  funext j
  match j with
  | 0=>rfl
  | 1=>show (dH bx (.own k n)).toP=_;rw [h0];rfl
  | j+2=>rw [show 0+(j+2)=j+2 by omega];rfl
 simp only [dg,ir,hb]
 unfold sI
 rw [if_pos (Nat.zero_le _)]
 exact congrArg (fun g=>BV.c (.ipt 2 g 0)) hf
theorem ed {st : St} {f : FuncId} {K : SV → St → Prop} {X : SV} {b k n N e : Nat} {m : Int} {g : Nat → Nat → PV} {q : Prop} (hN : n ≤ N) (h : aD Sg f [sI m n g] (fun r => r = X)) (hf : X.flat) (hk : q)
  (h1:st.bx b=some (.fix [.p (PU m), .own k n]):=by (first|(simp (maxSteps:=999999)(disch:=omega) only [go_sem];done)|rfl|fail)) (h2:st.bx k=some (.arr e 23 N g):=by (first|(simp (maxSteps:=999999)(disch:=omega) only [go_sem];done)|rfl|fail)) (hp:Sg.rcv (f+1000000)=false:=by rfl)
  (w:q→K X st:=by (first|(intro h;first|(simp (maxSteps:=999999)(disch:=omega) only [go_sem];exact h)|exact h)|fail)):dj Sg st f [.c (.ptr b 0)] (Sl.of K):=by
 refine .lend [sI m n g] X h ?_ ?_ hf (w hk) hp
 ·rw [List.map_cons,List.map_nil,mW h1 h2 hN];exact cG _
 ·intro x hx
  rw [List.mem_singleton.1 hx]
  trivial
theorem mR {bx:Nat→Option Bx}:∀ {l:List PV},dg bx (ag l)=ag l:=by
 intro l
 show BV.agg ((l.map CV.p).map (ir bx))=BV.agg (l.map CV.p)
 rw [List.map_map]
 rfl
theorem wy {l:List PV}:BV.lt 0 (ag l):=fun c hc=>by
 obtain ⟨x,_,rfl⟩:=List.mem_map.1 hc
 trivial
theorem CQ {p:Pixel}:(SV.tup [ag (aH p),B true]).flat:=fun v hv=>by
 rcases List.mem_cons.1 hv with rfl|hv
 ·exact ig p
 ·rw [List.mem_singleton.1 hv];trivial
theorem zb {t:Lv}:(SV.tup [ag (uB t),B true]).flat:=fun v hv=>by
 rcases List.mem_cons.1 hv with rfl|hv
 ·exact vH t
 ·rw [List.mem_singleton.1 hv];trivial
theorem mH {st : St} {K : SV → St → Prop} (b k n N e : Nat) (f : Nat → Nat → PV) (m : Int) (o : Op) (p : Pixel) (ms : Int) (hN : n ≤ N) (hb : st.bx b = some (.fix [.p (PU m), .own k n])) (hk : st.bx k = some (.arr e 23 N f))
  (hm:Full m) (hp:PixV p m) (h0:0≤ms) (h1:ms≤m) (ho:0≤o.opacity) (hom:o.opacity≤m) (hK:K (.tup [ag (aH (az m o p ms)),B true]) st) :
  dj Sg st 153 [.c (.ptr b 0),ag (dJ o),ag (aH p),U ms] (Sl.of K):=by
 refine .lend [sI m n f,ag (dJ o),ag (aH p),U ms] _ (yI m n f o p ms hm hp h0 h1 ho hom) ?_ ?_ CQ hK rfl
 ·rw [List.map_cons,List.map_cons,List.map_cons,List.map_cons,List.map_nil,mW hb hk hN,mR,mR];exact cG _
 ·intro x hx
  simp only [List.mem_cons,List.not_mem_nil,or_false] at hx
  rcases hx with rfl|rfl|rfl|rfl
  ·trivial
  ·exact wy
  ·exact wy
  ·trivial
theorem oU {st : St} {K : SV → St → Prop} (b k M N n e : Nat) (f : Nat → Nat → PV) (m : Int) (o : Op) (p : Pixel) (t : Lv) (hMN : M ≤ N) (hnN : n + 1 ≤ N) (hb : st.bx b = some (.fix [.p (PU m), .own k M])) (hk : st.bx k = some (.arr e 23 N f))
  (hl:n≤1000) (hf:eI (f n) t) (hm:Full m) (ho:1≤o.operator∧o.operator≤12) (hmo:1≤o.mode∧o.mode≤12) (hp:PixV p m) (hv:AccV t.acc t.back m) (hko:t.op.knockout=true→o.operator=4) (hK:K (.tup [ag (uB (bT m o p t)),B true]) st) :
  dj Sg st 154 [.c (.ptr b 0), .c (.own k (n+1)),ag (dJ o),ag (aH p)] (Sl.of K):=by
 refine .lend [sI m M f, .c (.p (.lst 23 (n+1) f)),ag (dJ o),ag (aH p)] _ (BR m M n f f o p t hl hf hm ho hmo hp hv hko) ?_ ?_ zb hK rfl
 ·have e2:dg st.bx (.c (.own k (n+1))) = .c (.p (.lst 23 (n+1) f)):=by
   simp only [dg,ir,dH,hk,hnN,if_true]
  rw [List.map_cons,List.map_cons,List.map_cons,List.map_cons,List.map_nil,mW hb hk hMN,mR,mR,e2];exact cG _
 ·intro x hx
  simp only [List.mem_cons,List.not_mem_nil,or_false] at hx
  rcases hx with rfl|rfl|rfl|rfl
  ·trivial
  ·trivial
  ·exact wy
  ·exact wy
end Go.Proofs.YtmfblbbemekkoaaGreatDoor
set_option maxHeartbeats 4000000
set_option maxRecDepth 16000
namespace Go.Proofs.YtmfblbbemekkoaaGreatDoor
open Go Go.SL
open Go.RowKit (wrap64)
theorem tA {w h:Int} (hw:1≤w) (hh:1≤h):w≤16777216 / h↔w≤16777216∧h≤16777216 / w:=by
 rw [Int.le_ediv_iff_mul_le (by omega),Int.le_ediv_iff_mul_le (by omega),Int.mul_comm h w]
 refine ⟨fun q=>⟨?_,q⟩,fun q=>q.2⟩
 have:w * 1≤w * h:=Int.mul_le_mul_of_nonneg_left hh (by omega)
 omega
theorem wM (w h:Int):((decide (w≥1) && decide (h≥1)) && decide (w≤IntKind.i64.wrap (16777216 / h)))=bU w h:=by
 rw [Bool.eq_iff_iff]
 simp only [bU,Bool.and_eq_true,decide_eq_true_eq,ge_iff_le]
 constructor
 ·rintro ⟨⟨h1,h2⟩,h3⟩
  have a1:0≤16777216 / h:=Int.ediv_nonneg (by omega) (by omega)
  have a2:16777216 / h≤16777216:=Int.ediv_le_self _ (by omega)
  rw [ef (by omega) (by omega)] at h3
  exact ⟨h1,h2,(tA h1 h2).1 h3⟩
 ·rintro ⟨h1,h2,h3⟩
  have a1:0≤16777216 / h:=Int.ediv_nonneg (by omega) (by omega)
  have a2:16777216 / h≤16777216:=Int.ediv_le_self _ (by omega)
  rw [ef (by omega) (by omega)]
  exact ⟨⟨h1,h2⟩,(tA h1 h2).2 h3⟩
theorem wC (w h:Int):aD Sg 129 [I w,I h] (fun x=>x = .b (B (bU w h))):=by
 rw [← wM]
 refine aC Tryz.func129 [.tmp 4] ?_
 repeat' (first|with_reducible exact cn|(refine ai (fun K hK => ?_);and_intros;all_goals first|(refine hK _ ?_;clear hK K)|try exact aa)|(refine an ?_;(try clear hB KB);(try clear hK K)))
theorem CW (w h:Int):aD Sg 199 [I w,I h] (fun x=>x = .b (B (bU w h))):=by
 rw [← wM]
 refine aC Tryz.func199 [.tmp 4] ?_
 repeat' (first|with_reducible exact cn|(refine ai (fun K hK => ?_);and_intros;all_goals first|(refine hK _ ?_;clear hK K)|try exact aa)|(refine an ?_;(try clear hB KB);(try clear hK K)))
theorem Ga (p:Plane):aD Sg 174 [ag (rJ p)] (fun x=>x = .b (B (decide (p.w=0) && decide (p.h=0) && decide (p.stride=0) && decide (p.s.length=0)))):=by
 refine aC Tryz.func174 [.tmp 2] ?_
 repeat' (first|(refine ai (fun K hK => ?_);and_intros;all_goals first|(refine hK _ ?_;clear hK K)|try exact aa)|(refine an ?_;(try clear hB KB);(try clear hK K)))
 refine fo ?_
 simp only [Bool.and_eq_true,decide_eq_true_eq,beq_iff_eq]
 omega
theorem GY (w h s:Int):aD Sg 200 [I w,I h,I s] (fun x=>x = .b (I (IntKind.i64.wrap (IntKind.i64.wrap (IntKind.i64.wrap (h - 1) * s)+w)))):=by
 have ht:True:=trivial
 refine aC Tryz.func200 [.tmp 6] ?_
 repeat' (first|with_reducible exact cn|(refine ai (fun K hK => ?_);and_intros;all_goals first|(refine hK _ ?_;clear hK K)|try exact aa)|(refine an ?_;(try clear hB KB);(try clear hK K)))
theorem jl (p:Plane):aD Sg 175 [ag (rJ p)] (fun r=>r = .b (B (cq p))):=by
 have hf:=CW p.w p.h
 have hl:=GY p.w p.h p.stride
 have key:(bU p.w p.h && decide (p.stride≥p.w) && decide (p.stride≤16777216) && decide ((p.s.length:Int)≥IntKind.i64.wrap (IntKind.i64.wrap (IntKind.i64.wrap (p.h - 1) * p.stride)+p.w)))=cq p:=by
  unfold cq
  by_cases h:bU p.w p.h=true∧p.w≤p.stride∧p.stride≤16777216
  ·obtain ⟨h1,h2,h3⟩:=h
   obtain ⟨b1,b2,b3,b4,b5,b6⟩:=cS h1
   have e1:0≤(p.h - 1) * p.stride∧(p.h - 1) * p.stride≤16777216 * 16777216:=⟨aq (by omega) (by omega),aw (by omega) (by omega) (by omega) (by omega)⟩
   rw [ef (n:=p.h - 1) (by omega) (by omega),ef (n:=(p.h - 1) * p.stride) (by omega) (by omega),ef (by omega) (by omega)]
  ·have hz:(bU p.w p.h && decide (p.stride≥p.w) && decide (p.stride≤16777216))=false:=by
    rw [← Bool.not_eq_true,Bool.and_eq_true,Bool.and_eq_true,decide_eq_true_eq,decide_eq_true_eq]
    exact fun q=>h ⟨q.1.1,q.1.2,q.2⟩
   rw [hz]
   rfl
 rw [← key]
 refine aC Tryz.func175 [.tmp 2] ?_
 repeat' (first|with_reducible exact cn|((first|refine ai (fun K hK => ?_)|refine ae (hf) ?_|refine aE (fun hg=>hl) ?_);and_intros;all_goals first|(refine hK _ ?_;clear hK K)|try exact aa)|(refine an ?_;(try clear hB KB);(try clear hK K)))
def ij (p:Plane):Bool:=decide (p.w=0) && decide (p.h=0) && decide (p.stride=0) && decide (p.s.length=0)
theorem kF (p:Plane):aD Sg 174 [ag (rJ p)] (fun x=>x = .b (B (ij p))):=Ga p
theorem nu {p:Plane} (h:((p.w=0∧p.h=0)∧p.stride=0)∧(p.s.length:Int)≤0):ij p=true:=by
 unfold ij
 simp only [Bool.and_eq_true,decide_eq_true_eq]
 omega
theorem nK {m:Image} {p:Plane} (hs:m.solid=true) (h:¬ aB m p=true):ij p=false:=by
 rw [← Bool.not_eq_true]
 intro q
 unfold ij at q
 simp only [Bool.and_eq_true,decide_eq_true_eq] at q
 exact h ((gq hs).2 (by omega))
theorem ji {m:Image} {p:Plane} (hs:m.solid=false) (h:¬ aB m p=true):(!cq p || (p.w != m.w) || (p.h != m.h))=true:=by
 rw [← Bool.not_eq_false]
 intro q
 simp only [Bool.or_eq_false_iff,bne_eq_false_iff_eq,Bool.not_eq_false'] at q
 exact h ((gu hs).2 q)
theorem qG (m:Image):aD Sg 137 [ag (aY m)] (fun r=>r = .b (B (aW m))):=by
 obtain ⟨w,h,solid,color,p0,p1,p2,p3,p4⟩:=m
 have ht:True:=trivial
 have hsz:=wC w h
 have e0:aW ⟨w,h,solid,color,p0,p1,p2,p3,p4⟩=(bU w h && ez ⟨w,h,solid,color,p0,p1,p2,p3,p4⟩):=rfl
 rw [e0]
 cases hF:bU w h
 ·rw [hF] at hsz
  refine aC Tryz.func137 [.tmp 2] ?_
  repeat' (first|refine aj ht ?_|refine ak ?_|((first|refine ai (fun K hK => ?_)|refine wO ?_|refine ae (hsz) ?_);and_intros;all_goals first|(refine hK _ ?_;clear hK K)|try exact aa)|(refine an ?_;(try clear hB KB);(try clear hK K)))
  rfl
 rw [Bool.true_and]
 rw [hF] at hsz
 have v0:=jl p0
 have v1:=jl p1
 have v2:=jl p2
 have v3:=jl p3
 have v4:=jl p4
 have z0:=kF p0
 have z1:=kF p1
 have z2:=kF p2
 have z3:=kF p3
 have z4:=kF p4
 cases solid
 ·skip
  refine aC Tryz.func137 [.tmp 2] ?_
  repeat' (first|refine ak ?_|((first|refine ai (fun K hK => ?_)|refine wO ?_|refine ae (hsz) ?_);and_intros;all_goals first|(refine hK _ ?_;clear hK K)|try exact aa)|(refine bc (fun hb => ?_) (fun hb => ?_);all_goals try exact aJ)|(refine an ?_;(try clear hB KB);(try clear hK K)))
  ·refine congrArg (fun v=>SV.b (B v)) (Eq.symm ?_)
   have hc:¬ color=aG:=fun q=>by
    subst q
    revert hb
    simp [aG]
   unfold ez
   rw [decide_eq_false hc,Bool.or_false,Bool.and_false]
  have hc:color=aG:=by
   obtain ⟨c0,c1,c2,a,f⟩:=color
   obtain ⟨⟨q0,q1,q2,_⟩,q3,q4,_⟩:=hb.2 trivial
   simp only [aG,Pixel.mk.injEq]
   exact ⟨q0,q1,q2,q3,q4⟩
  subst hc
  clear hb
  refine aS (X:=Int) (fun k=>aZ [(1, .b (.c (.ptr 0 0))),(23, .b (ag [PI p0.w,PI p0.h,PI p0.stride,iB p0.s,PI p1.w,PI p1.h,PI p1.stride,iB p1.s,PI p2.w,PI p2.h,PI p2.stride,iB p2.s,PI p3.w,PI p3.h,PI p3.stride,iB p3.s,PI p4.w,PI p4.h,PI p4.stride,iB p4.s])),(24, .b (I k))] [(0, .fix ((aY ⟨w,h,false,aG,p0,p1,p2,p3,p4⟩).map CV.p))] 1)
   (fun k=>0≤k∧k≤5∧(0<k→aB ⟨w,h,false,aG,p0,p1,p2,p3,p4⟩ p0=true)∧(1<k→aB ⟨w,h,false,aG,p0,p1,p2,p3,p4⟩ p1=true)∧(2<k→aB ⟨w,h,false,aG,p0,p1,p2,p3,p4⟩ p2=true)∧(3<k→aB ⟨w,h,false,aG,p0,p1,p2,p3,p4⟩ p3=true)∧(4<k→aB ⟨w,h,false,aG,p0,p1,p2,p3,p4⟩ p4=true)) (fun k=>(5 - k).toNat) 0 ?_ ?_ ?_
  ·exact ⟨by omega,by omega,fun q=>absurd q (by omega),fun q=>absurd q (by omega),fun q=>absurd q (by omega),fun q=>absurd q (by omega),fun q=>absurd q (by omega)⟩
  ·refine ay [(1,some 1)] ?_ ?_
   and_intros
   all_goals first|exact ao|skip
  ·rintro k ⟨k0,k1,i0,i1,i2,i3,i4⟩
   have hkv:k=0∨k=1∨k=2∨k=3∨k=4∨k=5:=by omega
   rcases hkv with rfl|rfl|rfl|rfl|rfl|rfl
   ·by_cases hp:aB ⟨w,h,false,aG,p0,p1,p2,p3,p4⟩ p0=true
    ·have hq:=(gu rfl).1 hp
     obtain ⟨g1,g2,g3⟩:cq p0=true∧(p0.w != w)=false∧(p0.h != h)=false:=⟨hq.1.1,by rw [bne_eq_false_iff_eq];exact hq.1.2,by rw [bne_eq_false_iff_eq];exact hq.2⟩
     repeat' (first|refine aj (And.intro ht (And.intro g1 (And.intro g2 g3))) ?_|refine ak ?_|((first|refine ai (fun K hK => ?_)|refine aE (fun hg=>v0) ?_|refine aE (fun hg=>z0) ?_);and_intros;all_goals first|(refine hK _ ?_;clear hK K)|try exact aa))
     rw [ah]
     refine au 1 ?_ ⟨by omega,by omega,fun _=>hp,fun q=>absurd q (by omega),fun q=>absurd q (by omega),fun q=>absurd q (by omega),fun q=>absurd q (by omega)⟩ (by decide)
     refine ay [(1,some 1)] ?_ ?_
     and_intros
     all_goals first|exact ao|skip
    ·have g1:(!cq p0 || (p0.w != w) || (p0.h != h))=true:=ji (m:=⟨w,h,false,aG,p0,p1,p2,p3,p4⟩) rfl hp
     repeat' (first|refine aj (And.intro ht g1) ?_|refine ak ?_|((first|refine ai (fun K hK => ?_)|refine aE (fun hg=>v0) ?_|refine aE (fun hg=>z0) ?_);and_intros;all_goals first|(refine hK _ ?_;clear hK K)|try exact aa)|(refine an ?_;(try clear hB KB);(try clear hK K)))
     refine congrArg (fun v=>SV.b (B v)) (Eq.symm ?_)
     exact bg (m:=⟨w,h,false,aG,p0,p1,p2,p3,p4⟩) (p:=p0) (by simp) hp
   ·by_cases hp:aB ⟨w,h,false,aG,p0,p1,p2,p3,p4⟩ p1=true
    ·have hq:=(gu rfl).1 hp
     obtain ⟨g1,g2,g3⟩:cq p1=true∧(p1.w != w)=false∧(p1.h != h)=false:=⟨hq.1.1,by rw [bne_eq_false_iff_eq];exact hq.1.2,by rw [bne_eq_false_iff_eq];exact hq.2⟩
     repeat' (first|refine aj (And.intro ht (And.intro g1 (And.intro g2 g3))) ?_|refine ak ?_|((first|refine ai (fun K hK => ?_)|refine aE (fun hg=>v1) ?_|refine aE (fun hg=>z1) ?_);and_intros;all_goals first|(refine hK _ ?_;clear hK K)|try exact aa))
     rw [ah]
     refine au 2 ?_ ⟨by omega,by omega,fun _=>i0 (by omega),fun _=>hp,fun q=>absurd q (by omega),fun q=>absurd q (by omega),fun q=>absurd q (by omega)⟩ (by decide)
     refine ay [(1,some 1)] ?_ ?_
     and_intros
     all_goals first|exact ao|skip
    ·have g1:(!cq p1 || (p1.w != w) || (p1.h != h))=true:=ji (m:=⟨w,h,false,aG,p0,p1,p2,p3,p4⟩) rfl hp
     repeat' (first|refine aj (And.intro ht g1) ?_|refine ak ?_|((first|refine ai (fun K hK => ?_)|refine aE (fun hg=>v1) ?_|refine aE (fun hg=>z1) ?_);and_intros;all_goals first|(refine hK _ ?_;clear hK K)|try exact aa)|(refine an ?_;(try clear hB KB);(try clear hK K)))
     refine congrArg (fun v=>SV.b (B v)) (Eq.symm ?_)
     exact bg (m:=⟨w,h,false,aG,p0,p1,p2,p3,p4⟩) (p:=p1) (by simp) hp
   ·by_cases hp:aB ⟨w,h,false,aG,p0,p1,p2,p3,p4⟩ p2=true
    ·have hq:=(gu rfl).1 hp
     obtain ⟨g1,g2,g3⟩:cq p2=true∧(p2.w != w)=false∧(p2.h != h)=false:=⟨hq.1.1,by rw [bne_eq_false_iff_eq];exact hq.1.2,by rw [bne_eq_false_iff_eq];exact hq.2⟩
     repeat' (first|refine aj (And.intro ht (And.intro g1 (And.intro g2 g3))) ?_|refine ak ?_|((first|refine ai (fun K hK => ?_)|refine aE (fun hg=>v2) ?_|refine aE (fun hg=>z2) ?_);and_intros;all_goals first|(refine hK _ ?_;clear hK K)|try exact aa))
     rw [ah]
     refine au 3 ?_ ⟨by omega,by omega,fun _=>i0 (by omega),fun _=>i1 (by omega),fun _=>hp,fun q=>absurd q (by omega),fun q=>absurd q (by omega)⟩ (by decide)
     refine ay [(1,some 1)] ?_ ?_
     and_intros
     all_goals first|exact ao|skip
    ·have g1:(!cq p2 || (p2.w != w) || (p2.h != h))=true:=ji (m:=⟨w,h,false,aG,p0,p1,p2,p3,p4⟩) rfl hp
     repeat' (first|refine aj (And.intro ht g1) ?_|refine ak ?_|((first|refine ai (fun K hK => ?_)|refine aE (fun hg=>v2) ?_|refine aE (fun hg=>z2) ?_);and_intros;all_goals first|(refine hK _ ?_;clear hK K)|try exact aa)|(refine an ?_;(try clear hB KB);(try clear hK K)))
     refine congrArg (fun v=>SV.b (B v)) (Eq.symm ?_)
     exact bg (m:=⟨w,h,false,aG,p0,p1,p2,p3,p4⟩) (p:=p2) (by simp) hp
   ·by_cases hp:aB ⟨w,h,false,aG,p0,p1,p2,p3,p4⟩ p3=true
    ·have hq:=(gu rfl).1 hp
     obtain ⟨g1,g2,g3⟩:cq p3=true∧(p3.w != w)=false∧(p3.h != h)=false:=⟨hq.1.1,by rw [bne_eq_false_iff_eq];exact hq.1.2,by rw [bne_eq_false_iff_eq];exact hq.2⟩
     repeat' (first|refine aj (And.intro ht (And.intro g1 (And.intro g2 g3))) ?_|refine ak ?_|((first|refine ai (fun K hK => ?_)|refine aE (fun hg=>v3) ?_|refine aE (fun hg=>z3) ?_);and_intros;all_goals first|(refine hK _ ?_;clear hK K)|try exact aa))
     rw [ah]
     refine au 4 ?_ ⟨by omega,by omega,fun _=>i0 (by omega),fun _=>i1 (by omega),fun _=>i2 (by omega),fun _=>hp,fun q=>absurd q (by omega)⟩ (by decide)
     refine ay [(1,some 1)] ?_ ?_
     and_intros
     all_goals first|exact ao|skip
    ·have g1:(!cq p3 || (p3.w != w) || (p3.h != h))=true:=ji (m:=⟨w,h,false,aG,p0,p1,p2,p3,p4⟩) rfl hp
     repeat' (first|refine aj (And.intro ht g1) ?_|refine ak ?_|((first|refine ai (fun K hK => ?_)|refine aE (fun hg=>v3) ?_|refine aE (fun hg=>z3) ?_);and_intros;all_goals first|(refine hK _ ?_;clear hK K)|try exact aa)|(refine an ?_;(try clear hB KB);(try clear hK K)))
     refine congrArg (fun v=>SV.b (B v)) (Eq.symm ?_)
     exact bg (m:=⟨w,h,false,aG,p0,p1,p2,p3,p4⟩) (p:=p3) (by simp) hp
   ·by_cases hp:aB ⟨w,h,false,aG,p0,p1,p2,p3,p4⟩ p4=true
    ·have hq:=(gu rfl).1 hp
     obtain ⟨g1,g2,g3⟩:cq p4=true∧(p4.w != w)=false∧(p4.h != h)=false:=⟨hq.1.1,by rw [bne_eq_false_iff_eq];exact hq.1.2,by rw [bne_eq_false_iff_eq];exact hq.2⟩
     repeat' (first|refine aj (And.intro ht (And.intro g1 (And.intro g2 g3))) ?_|refine ak ?_|((first|refine ai (fun K hK => ?_)|refine aE (fun hg=>v4) ?_|refine aE (fun hg=>z4) ?_);and_intros;all_goals first|(refine hK _ ?_;clear hK K)|try exact aa))
     rw [ah]
     refine au 5 ?_ ⟨by omega,by omega,fun _=>i0 (by omega),fun _=>i1 (by omega),fun _=>i2 (by omega),fun _=>i3 (by omega),fun _=>hp⟩ (by decide)
     refine ay [(1,some 1)] ?_ ?_
     and_intros
     all_goals first|exact ao|skip
    ·have g1:(!cq p4 || (p4.w != w) || (p4.h != h))=true:=ji (m:=⟨w,h,false,aG,p0,p1,p2,p3,p4⟩) rfl hp
     repeat' (first|refine aj (And.intro ht g1) ?_|refine ak ?_|((first|refine ai (fun K hK => ?_)|refine aE (fun hg=>v4) ?_|refine aE (fun hg=>z4) ?_);and_intros;all_goals first|(refine hK _ ?_;clear hK K)|try exact aa)|(refine an ?_;(try clear hB KB);(try clear hK K)))
     refine congrArg (fun v=>SV.b (B v)) (Eq.symm ?_)
     exact bg (m:=⟨w,h,false,aG,p0,p1,p2,p3,p4⟩) (p:=p4) (by simp) hp
   ·repeat' (first|refine aj ht ?_|refine ak ?_|(refine ai (fun K hK => ?_);and_intros;all_goals first|(refine hK _ ?_;clear hK K)|try exact aa)|(refine an ?_;(try clear hB KB);(try clear hK K)))
    refine congrArg (fun v=>SV.b (B v)) (Eq.symm ?_)
    show ez ⟨w,h,false,aG,p0,p1,p2,p3,p4⟩=true
    unfold ez
    dsimp only
    rw [i0 (by omega),i1 (by omega),i2 (by omega),i3 (by omega),i4 (by omega)]
    simp
 ·refine aC Tryz.func137 [.tmp 2] ?_
  repeat' (first|refine aj ht ?_|refine ak ?_|((first|refine ai (fun K hK => ?_)|refine wO ?_|refine ae (hsz) ?_);and_intros;all_goals first|(refine hK _ ?_;clear hK K)|try exact aa))
  refine aS (X:=Int) (fun k=>aZ [(1, .b (.c (.ptr 0 0))),(23, .b (ag [PI p0.w,PI p0.h,PI p0.stride,iB p0.s,PI p1.w,PI p1.h,PI p1.stride,iB p1.s,PI p2.w,PI p2.h,PI p2.stride,iB p2.s,PI p3.w,PI p3.h,PI p3.stride,iB p3.s,PI p4.w,PI p4.h,PI p4.stride,iB p4.s])),(24, .b (I k))] [(0, .fix ((aY ⟨w,h,true,color,p0,p1,p2,p3,p4⟩).map CV.p))] 1)
   (fun k=>0≤k∧k≤5∧(0<k→aB ⟨w,h,true,color,p0,p1,p2,p3,p4⟩ p0=true)∧(1<k→aB ⟨w,h,true,color,p0,p1,p2,p3,p4⟩ p1=true)∧(2<k→aB ⟨w,h,true,color,p0,p1,p2,p3,p4⟩ p2=true)∧(3<k→aB ⟨w,h,true,color,p0,p1,p2,p3,p4⟩ p3=true)∧(4<k→aB ⟨w,h,true,color,p0,p1,p2,p3,p4⟩ p4=true)) (fun k=>(5 - k).toNat) 0 ?_ ?_ ?_
  ·exact ⟨by omega,by omega,fun q=>absurd q (by omega),fun q=>absurd q (by omega),fun q=>absurd q (by omega),fun q=>absurd q (by omega),fun q=>absurd q (by omega)⟩
  ·refine ay [(1,some 1)] ?_ ?_
   and_intros
   all_goals first|exact ao|skip
  ·rintro k ⟨k0,k1,i0,i1,i2,i3,i4⟩
   have hkv:k=0∨k=1∨k=2∨k=3∨k=4∨k=5:=by omega
   rcases hkv with rfl|rfl|rfl|rfl|rfl|rfl
   ·by_cases hp:aB ⟨w,h,true,color,p0,p1,p2,p3,p4⟩ p0=true
    ·have hq:=(gq rfl).1 hp
     obtain ⟨g1,g2,g3⟩:ij p0=true∧True∧True:=⟨nu hq,trivial,trivial⟩
     repeat' (first|refine aj (And.intro ht (And.intro g1 (And.intro g2 g3))) ?_|refine ak ?_|((first|refine ai (fun K hK => ?_)|refine aE (fun hg=>v0) ?_|refine aE (fun hg=>z0) ?_);and_intros;all_goals first|(refine hK _ ?_;clear hK K)|try exact aa))
     rw [ah]
     refine au 1 ?_ ⟨by omega,by omega,fun _=>hp,fun q=>absurd q (by omega),fun q=>absurd q (by omega),fun q=>absurd q (by omega),fun q=>absurd q (by omega)⟩ (by decide)
     refine ay [(1,some 1)] ?_ ?_
     and_intros
     all_goals first|exact ao|skip
    ·have g1:(!ij p0)=true:=by rw [nK (m:=⟨w,h,true,color,p0,p1,p2,p3,p4⟩) rfl hp];rfl
     repeat' (first|refine aj (And.intro ht g1) ?_|refine ak ?_|((first|refine ai (fun K hK => ?_)|refine aE (fun hg=>v0) ?_|refine aE (fun hg=>z0) ?_);and_intros;all_goals first|(refine hK _ ?_;clear hK K)|try exact aa)|(refine an ?_;(try clear hB KB);(try clear hK K)))
     refine congrArg (fun v=>SV.b (B v)) (Eq.symm ?_)
     exact bg (m:=⟨w,h,true,color,p0,p1,p2,p3,p4⟩) (p:=p0) (by simp) hp
   ·by_cases hp:aB ⟨w,h,true,color,p0,p1,p2,p3,p4⟩ p1=true
    ·have hq:=(gq rfl).1 hp
     obtain ⟨g1,g2,g3⟩:ij p1=true∧True∧True:=⟨nu hq,trivial,trivial⟩
     repeat' (first|refine aj (And.intro ht (And.intro g1 (And.intro g2 g3))) ?_|refine ak ?_|((first|refine ai (fun K hK => ?_)|refine aE (fun hg=>v1) ?_|refine aE (fun hg=>z1) ?_);and_intros;all_goals first|(refine hK _ ?_;clear hK K)|try exact aa))
     rw [ah]
     refine au 2 ?_ ⟨by omega,by omega,fun _=>i0 (by omega),fun _=>hp,fun q=>absurd q (by omega),fun q=>absurd q (by omega),fun q=>absurd q (by omega)⟩ (by decide)
     refine ay [(1,some 1)] ?_ ?_
     and_intros
     all_goals first|exact ao|skip
    ·have g1:(!ij p1)=true:=by rw [nK (m:=⟨w,h,true,color,p0,p1,p2,p3,p4⟩) rfl hp];rfl
     repeat' (first|refine aj (And.intro ht g1) ?_|refine ak ?_|((first|refine ai (fun K hK => ?_)|refine aE (fun hg=>v1) ?_|refine aE (fun hg=>z1) ?_);and_intros;all_goals first|(refine hK _ ?_;clear hK K)|try exact aa)|(refine an ?_;(try clear hB KB);(try clear hK K)))
     refine congrArg (fun v=>SV.b (B v)) (Eq.symm ?_)
     exact bg (m:=⟨w,h,true,color,p0,p1,p2,p3,p4⟩) (p:=p1) (by simp) hp
   ·by_cases hp:aB ⟨w,h,true,color,p0,p1,p2,p3,p4⟩ p2=true
    ·have hq:=(gq rfl).1 hp
     obtain ⟨g1,g2,g3⟩:ij p2=true∧True∧True:=⟨nu hq,trivial,trivial⟩
     repeat' (first|refine aj (And.intro ht (And.intro g1 (And.intro g2 g3))) ?_|refine ak ?_|((first|refine ai (fun K hK => ?_)|refine aE (fun hg=>v2) ?_|refine aE (fun hg=>z2) ?_);and_intros;all_goals first|(refine hK _ ?_;clear hK K)|try exact aa))
     rw [ah]
     refine au 3 ?_ ⟨by omega,by omega,fun _=>i0 (by omega),fun _=>i1 (by omega),fun _=>hp,fun q=>absurd q (by omega),fun q=>absurd q (by omega)⟩ (by decide)
     refine ay [(1,some 1)] ?_ ?_
     and_intros
     all_goals first|exact ao|skip
    ·have g1:(!ij p2)=true:=by rw [nK (m:=⟨w,h,true,color,p0,p1,p2,p3,p4⟩) rfl hp];rfl
     repeat' (first|refine aj (And.intro ht g1) ?_|refine ak ?_|((first|refine ai (fun K hK => ?_)|refine aE (fun hg=>v2) ?_|refine aE (fun hg=>z2) ?_);and_intros;all_goals first|(refine hK _ ?_;clear hK K)|try exact aa)|(refine an ?_;(try clear hB KB);(try clear hK K)))
     refine congrArg (fun v=>SV.b (B v)) (Eq.symm ?_)
     exact bg (m:=⟨w,h,true,color,p0,p1,p2,p3,p4⟩) (p:=p2) (by simp) hp
   ·by_cases hp:aB ⟨w,h,true,color,p0,p1,p2,p3,p4⟩ p3=true
    ·have hq:=(gq rfl).1 hp
     obtain ⟨g1,g2,g3⟩:ij p3=true∧True∧True:=⟨nu hq,trivial,trivial⟩
     repeat' (first|refine aj (And.intro ht (And.intro g1 (And.intro g2 g3))) ?_|refine ak ?_|((first|refine ai (fun K hK => ?_)|refine aE (fun hg=>v3) ?_|refine aE (fun hg=>z3) ?_);and_intros;all_goals first|(refine hK _ ?_;clear hK K)|try exact aa))
     rw [ah]
     refine au 4 ?_ ⟨by omega,by omega,fun _=>i0 (by omega),fun _=>i1 (by omega),fun _=>i2 (by omega),fun _=>hp,fun q=>absurd q (by omega)⟩ (by decide)
     refine ay [(1,some 1)] ?_ ?_
     and_intros
     all_goals first|exact ao|skip
    ·have g1:(!ij p3)=true:=by rw [nK (m:=⟨w,h,true,color,p0,p1,p2,p3,p4⟩) rfl hp];rfl
     repeat' (first|refine aj (And.intro ht g1) ?_|refine ak ?_|((first|refine ai (fun K hK => ?_)|refine aE (fun hg=>v3) ?_|refine aE (fun hg=>z3) ?_);and_intros;all_goals first|(refine hK _ ?_;clear hK K)|try exact aa)|(refine an ?_;(try clear hB KB);(try clear hK K)))
     refine congrArg (fun v=>SV.b (B v)) (Eq.symm ?_)
     exact bg (m:=⟨w,h,true,color,p0,p1,p2,p3,p4⟩) (p:=p3) (by simp) hp
   ·by_cases hp:aB ⟨w,h,true,color,p0,p1,p2,p3,p4⟩ p4=true
    ·have hq:=(gq rfl).1 hp
     obtain ⟨g1,g2,g3⟩:ij p4=true∧True∧True:=⟨nu hq,trivial,trivial⟩
     repeat' (first|refine aj (And.intro ht (And.intro g1 (And.intro g2 g3))) ?_|refine ak ?_|((first|refine ai (fun K hK => ?_)|refine aE (fun hg=>v4) ?_|refine aE (fun hg=>z4) ?_);and_intros;all_goals first|(refine hK _ ?_;clear hK K)|try exact aa))
     rw [ah]
     refine au 5 ?_ ⟨by omega,by omega,fun _=>i0 (by omega),fun _=>i1 (by omega),fun _=>i2 (by omega),fun _=>i3 (by omega),fun _=>hp⟩ (by decide)
     refine ay [(1,some 1)] ?_ ?_
     and_intros
     all_goals first|exact ao|skip
    ·have g1:(!ij p4)=true:=by rw [nK (m:=⟨w,h,true,color,p0,p1,p2,p3,p4⟩) rfl hp];rfl
     repeat' (first|refine aj (And.intro ht g1) ?_|refine ak ?_|((first|refine ai (fun K hK => ?_)|refine aE (fun hg=>v4) ?_|refine aE (fun hg=>z4) ?_);and_intros;all_goals first|(refine hK _ ?_;clear hK K)|try exact aa)|(refine an ?_;(try clear hB KB);(try clear hK K)))
     refine congrArg (fun v=>SV.b (B v)) (Eq.symm ?_)
     exact bg (m:=⟨w,h,true,color,p0,p1,p2,p3,p4⟩) (p:=p4) (by simp) hp
   ·repeat' (first|refine aj ht ?_|refine ak ?_|(refine ai (fun K hK => ?_);and_intros;all_goals first|(refine hK _ ?_;clear hK K)|try exact aa)|(refine an ?_;(try clear hB KB);(try clear hK K)))
    refine congrArg (fun v=>SV.b (B v)) (Eq.symm ?_)
    show ez ⟨w,h,true,color,p0,p1,p2,p3,p4⟩=true
    unfold ez
    dsimp only
    rw [i0 (by omega),i1 (by omega),i2 (by omega),i3 (by omega),i4 (by omega)]
    rfl
end Go.Proofs.YtmfblbbemekkoaaGreatDoor
