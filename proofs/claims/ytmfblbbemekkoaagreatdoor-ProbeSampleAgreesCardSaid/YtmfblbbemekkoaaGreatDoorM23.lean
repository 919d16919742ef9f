/- Part of the proof: V3, V4, V5, V6. -/
import Derived.Test.YtmfblbbemekkoaaGreatDoorM16
import Derived.Test.YtmfblbbemekkoaaGreatDoorM22
set_option linter.unusedSimpArgs false
set_option linter.unusedVariables false
set_option maxHeartbeats 2000000
set_option maxRecDepth 16000
namespace Go.Proofs.YtmfblbbemekkoaaGreatDoor
open Go Go.SL
open Go.RowKit (wrap64)
attribute [local go_sem] cN
theorem Cv {a b:Int} (h:b≤a) (ha:i64 a) (hb:i64 b):IntKind.u64.wrap (IntKind.u64.wrap a - IntKind.u64.wrap b)=a - b:=by
 obtain ⟨a1,a2⟩:=ha
 obtain ⟨b1,b2⟩:=hb
 have e:∀ n:Int,IntKind.u64.wrap n=n % 18446744073709551616:=fun n=>rfl
 rw [e,e,e]
 omega
theorem CP (m:Image) (x y dx dy:Int) (hx:i64 x) (hy:i64 y) (hdx:i64 dx) (hdy:i64 dy):aC Sg 58 [ag (aN m),I x,I y,I dx,I dy] (fun r=>r = .b (ag (aF (eJ m x y dx dy)))):=by
 have w1:=fun h=>Cv (a:=x) (b:=dx) h hx hdx
 have w2:=fun h=>Cv (a:=y) (b:=dy) h hy hdy
 by_cases hc:x<dx∨y<dy
 ·have e:eJ m x y dx dy=aI:=by unfold eJ;rw [if_pos (by omega)]
  rw [e]
  have g:(decide (x<dx) || decide (y<dy))=true:=by simp only [Bool.or_eq_true,decide_eq_true_eq];exact hc
  have g2:∀ a b:Bool,(decide (x<dx) || decide (y<dy) || a || b)=true:=fun a b=>by rw [g];rfl
  refine aA Tryz.func58 [.cell 10 41] ?_
  repeat' (first|refine aj (And.intro g g2) ?_|refine an ?_|(refine ai (fun K hK => ?_);and_intros;(all_goals first|(refine hK _ ?_;clear hK K)|exact aa|skip))|(refine ak ?_;(try clear hB KB);(try clear hK K)))
  rfl
 ·have hc1:dx≤x:=by omega
  have hc2:dy≤y:=by omega
  have w1:=w1 hc1
  have w2:=w2 hc2
  have g1:decide (x<dx)=false:=decide_eq_false (by omega)
  have g2:decide (y<dy)=false:=decide_eq_false (by omega)
  by_cases hd:1099511627776≤x - dx∨1099511627776≤y - dy
  ·have e:eJ m x y dx dy=aI:=by unfold eJ;rw [if_pos (by omega)]
   rw [e]
   have g3:(decide (IntKind.u64.wrap (IntKind.u64.wrap x - IntKind.u64.wrap dx)≥1099511627776) || decide (IntKind.u64.wrap (IntKind.u64.wrap y - IntKind.u64.wrap dy)≥1099511627776))=true:=by
    rw [w1,w2]
    simp only [Bool.or_eq_true,decide_eq_true_eq]
    omega
   refine aA Tryz.func58 [.cell 10 41] ?_
   repeat' (first|refine aj (And.intro g1 (And.intro g2 g3)) ?_|refine an ?_|(refine ai (fun K hK => ?_);and_intros;(all_goals first|(refine hK _ ?_;clear hK K)|exact aa|skip))|(refine ak ?_;(try clear hB KB);(try clear hK K)))
   rfl
  ·have e:eJ m x y dx dy=eI m (x - dx) (y - dy):=by unfold eJ;rw [if_neg (by omega)]
   rw [e]
   have ha:=Rs m (x - dx) (y - dy)
   generalize eI m (x - dx) (y - dy)=q at *
   have g3:decide (IntKind.u64.wrap (IntKind.u64.wrap x - IntKind.u64.wrap dx)≥1099511627776)=false:=by rw [w1];exact decide_eq_false (by omega)
   have g4:decide (IntKind.u64.wrap (IntKind.u64.wrap y - IntKind.u64.wrap dy)≥1099511627776)=false:=by rw [w2];exact decide_eq_false (by omega)
   refine aA Tryz.func58 [.cell 10 41] ?_
   repeat' (first|refine aj (And.intro g1 (And.intro g2 (And.intro g3 g4))) ?_|refine an ?_|((first|refine ai (fun K hK => ?_)|refine ae (ha) ?_);and_intros;(all_goals first|(refine hK _ ?_;clear hK K)|exact aa|skip))|(refine ak ?_;(try clear hB KB);(try clear hK K)))
   rfl
theorem fw (a:Acc):aC Sg 93 [ag (cN a)] (fun r=>r = .b (ag (aF ⟨a.c0,a.c1,a.c2,a.a,a.f⟩))):=by
 have ht:True:=trivial
 refine aA Tryz.func93 [.cell 2 41] ?_
 repeat' (first|(refine ai (fun K hK => ?_);and_intros;(all_goals first|(refine hK _ ?_;clear hK K)|exact aa|skip))|(refine ak ?_;(try clear hB KB);(try clear hK K)))
 rfl
theorem wz (m : Int) (o : Op) (p : Pixel) (k : Int) (hm : Full m) (hp : PixV p m) (hk : 0 ≤ k) (hkm : k ≤ m) (ho : 0 ≤ o.opacity) (hom : o.opacity ≤ m) :
  aC Sg 141 [ag (cT o),ag (aF p),U k,U m] (fun r=>r = .tup [ag (aF (ax m o p k)),B true]):=by
 have hpos:=hm.pos
 unfold ax
 by_cases h:o.mask=0
 ·rw [if_pos h]
  have hb:=CX p m o.opacity m hm hp (by omega) (Int.le_refl _) ho hom
  have g:(o.mask != 0)=false:=by rw [bne_eq_false_iff_eq];exact h
  generalize aL (aL p m m) o.opacity m=q at *
  refine aA Tryz.func141 [.cell 8 41, .tmp 9] ?_
  repeat' (first|refine aj g ?_|refine an ?_|((first|refine ai (fun K hK => ?_)|refine ae (hb) ?_);and_intros;(all_goals first|(refine hK _ ?_;clear hK K)|exact aa|skip))|(refine ak ?_;(try clear hB KB);(try clear hK K)))
  rfl
 ·rw [if_neg h]
  have hb:=CX p k o.opacity m hm hp hk hkm ho hom
  have g:(o.mask != 0)=true:=by rw [bne_iff_ne];exact h
  generalize aL (aL p k m) o.opacity m=q at *
  refine aA Tryz.func141 [.cell 8 41, .tmp 9] ?_
  repeat' (first|refine aj g ?_|refine an ?_|((first|refine ai (fun K hK => ?_)|refine ae (hb) ?_);and_intros;(all_goals first|(refine hK _ ?_;clear hK K)|exact aa|skip))|(refine ak ?_;(try clear hB KB);(try clear hK K)))
  rfl
theorem ir (s : Script) (o : Op) (x y : Int) (hs : ScriptLen s) (hx : i64 x) (hy : i64 y) (h1 : i64 o.x) (h2 : i64 o.y) (h3 : i64 o.maskX) (h4 : i64 o.maskY) :
  aC Sg 20 [ag (aE s),ag (cT o),I x,I y] (fun r=>r = .tup [ag (aF (bd s x y o).1),U (bd s x y o).2]):=by
 have hl:=hs.images
 have n1:=CP (s.images.getD o.image.toNat default) x y o.x o.y hx hy h1 h2
 have n2:=CP (s.images.getD (o.mask - 1).toNat default) x y o.maskX o.maskY hx hy h3 h4
 unfold bd gC
 by_cases c1:o.kind=1∧0≤o.image∧o.image<s.images.length
 ·have g1:(o.kind == 1 && decide (o.image≥0) && decide (o.image<s.images.length))=true:=by
   simp only [Bool.and_eq_true,beq_iff_eq,decide_eq_true_eq];omega
  by_cases c2:1≤o.mask∧o.mask≤s.images.length
  ·have g2:(decide (o.mask≥1) && decide (o.mask≤s.images.length))=true:=by
    simp only [Bool.and_eq_true,decide_eq_true_eq];omega
   rw [if_pos c1,if_pos c2]
   generalize eJ (s.images.getD o.image.toNat default) x y o.x o.y=q1 at *
   generalize eJ (s.images.getD (o.mask - 1).toNat default) x y o.maskX o.maskY=q2 at *
   refine aA Tryz.func20 [.cell 8 41, .tmp 9] ?_
   repeat' (first|refine aj (And.intro g1 g2) ?_|refine an ?_|((first|refine ai (fun K hK => ?_)|refine ae (n1) ?_|refine ae (n2) ?_);and_intros;(all_goals first|(refine hK _ ?_;clear hK K)|exact aa|skip))|(refine ak ?_;(try clear hB KB);(try clear hK K)))
   rfl
  ·have g2:(decide (o.mask≥1) && decide (o.mask≤s.images.length))=false:=by
    rw [← Bool.not_eq_true,Bool.and_eq_true,decide_eq_true_eq,decide_eq_true_eq];omega
   rw [if_pos c1,if_neg c2]
   generalize eJ (s.images.getD o.image.toNat default) x y o.x o.y=q1 at *
   refine aA Tryz.func20 [.cell 8 41, .tmp 9] ?_
   repeat' (first|refine aj (And.intro g1 g2) ?_|refine an ?_|((first|refine ai (fun K hK => ?_)|refine ae (n1) ?_);and_intros;(all_goals first|(refine hK _ ?_;clear hK K)|exact aa|skip))|(refine ak ?_;(try clear hB KB);(try clear hK K)))
   rfl
 ·have g1:(o.kind == 1 && decide (o.image≥0) && decide (o.image<s.images.length))=false:=by
   rw [← Bool.not_eq_true,Bool.and_eq_true,Bool.and_eq_true,beq_iff_eq,decide_eq_true_eq,decide_eq_true_eq];omega
  by_cases c2:1≤o.mask∧o.mask≤s.images.length
  ·have g2:(decide (o.mask≥1) && decide (o.mask≤s.images.length))=true:=by
    simp only [Bool.and_eq_true,decide_eq_true_eq];omega
   rw [if_neg c1,if_pos c2]
   generalize eJ (s.images.getD (o.mask - 1).toNat default) x y o.maskX o.maskY=q2 at *
   refine aA Tryz.func20 [.cell 8 41, .tmp 9] ?_
   repeat' (first|refine aj (And.intro g1 g2) ?_|refine an ?_|((first|refine ai (fun K hK => ?_)|refine ae (n2) ?_);and_intros;(all_goals first|(refine hK _ ?_;clear hK K)|exact aa|skip))|(refine ak ?_;(try clear hB KB);(try clear hK K)))
   rfl
  ·have g2:(decide (o.mask≥1) && decide (o.mask≤s.images.length))=false:=by
    rw [← Bool.not_eq_true,Bool.and_eq_true,decide_eq_true_eq,decide_eq_true_eq];omega
   rw [if_neg c1,if_neg c2]
   refine aA Tryz.func20 [.cell 8 41, .tmp 9] ?_
   repeat' (first|refine aj (And.intro g1 g2) ?_|refine an ?_|(refine ai (fun K hK => ?_);and_intros;(all_goals first|(refine hK _ ?_;clear hK K)|exact aa|skip))|(refine ak ?_;(try clear hB KB);(try clear hK K)))
   rfl
end Go.Proofs.YtmfblbbemekkoaaGreatDoor
set_option maxHeartbeats 2000000
set_option maxRecDepth 16000
namespace Go.Proofs.YtmfblbbemekkoaaGreatDoor
open Go Go.SL
open Go.RowKit (wrap64)
attribute [local go_sem] cN
def pE (t:Lv):List PV:=[PI t.op.kind,PI t.op.image,PI t.op.x,PI t.op.y,PI t.op.mask,PI t.op.maskX,PI t.op.maskY,PU t.op.opacity,PI t.op.operator,PI t.op.mode,PB t.op.isolated,PB t.op.knockout,
 PU t.acc.c0,PU t.acc.c1,PU t.acc.c2,PU t.acc.a,PU t.acc.own,PU t.acc.f,PU t.back.c0,PU t.back.c1,PU t.back.c2,PU t.back.a,PU t.back.f]
def cQ (g:Nat→PV) (t:Lv):Prop:=∀ j,j<23→g j=(pE t).getD j .any
theorem Dr {g : Nat → PV} {t : Lv} (h : cQ g t) : g 0 = PI t.op.kind ∧ g 1 = PI t.op.image ∧ g 2 = PI t.op.x ∧ g 3 = PI t.op.y ∧ g 4 = PI t.op.mask ∧ g 5 = PI t.op.maskX ∧ g 6 = PI t.op.maskY ∧ g 7 = PU t.op.opacity ∧ g 8 = PI t.op.operator ∧ g 9 = PI t.op.mode ∧
  g 10=PB t.op.isolated∧g 11=PB t.op.knockout∧g 12=PU t.acc.c0∧g 13=PU t.acc.c1∧g 14=PU t.acc.c2∧g 15=PU t.acc.a∧g 16=PU t.acc.own∧g 17=PU t.acc.f∧g 18=PU t.back.c0∧g 19=PU t.back.c1∧g 20=PU t.back.c2∧g 21=PU t.back.a∧g 22=PU t.back.f :=
 ⟨h 0 (by decide),h 1 (by decide),h 2 (by decide),h 3 (by decide),h 4 (by decide),h 5 (by decide),h 6 (by decide),h 7 (by decide),h 8 (by decide),h 9 (by decide),h 10 (by decide),h 11 (by decide),h 12 (by decide),h 13 (by decide),h 14 (by decide),h 15 (by decide),h 16 (by decide),
  h 17 (by decide),h 18 (by decide),h 19 (by decide),h 20 (by decide),h 21 (by decide),h 22 (by decide)⟩
def Sw (n:Nat) (t:Lv) (f:Nat→Nat→PV) (i j:Nat):PV:=if i=n then (pE t).getD j .any else f i j
theorem vK {n j:Nat} {t:Lv} {f:Nat→Nat→PV}:Sw n t f n j=(pE t).getD j .any:=if_pos rfl
def nv (m:Int) (n:Nat) (f:Nat→Nat→PV):BV := .c (.ipt 2 (fun j=>[PU m, .lst 23 n f].getD j .any) 0)
theorem cA {n:Nat}:(((n+1:Nat):Int) - 1)=(n:Int):=by omega
attribute [local go_sem] nv cA Int.toNat_natCast vK pE
theorem mh (m:Int) (n:Nat) (f:Nat→Nat→PV) (hl:n≤1000):aC Sg 98 [nv m (n+1) f] (fun x=>x = .b (I n)):=by
 have ht:True:=trivial
 refine aA Tryz.func98 [.tmp 2] ?_
 repeat' (first|with_reducible exact ca|(refine ai (fun K hK => ?_);and_intros;(all_goals first|(refine hK _ ?_;clear hK K)|exact aa|skip))|(refine ak ?_;(try clear hB KB);(try clear hK K)))
theorem uL (m:Int) (n:Nat) (f:Nat→Nat→PV) (hl:n≤1000):aC Sg 101 [nv m (n+1) f] (fun x=>x = .b (I n)):=by
 have ht:True:=trivial
 refine aA Tryz.func101 [.tmp 2] ?_
 repeat' (first|with_reducible exact ca|(refine ai (fun K hK => ?_);and_intros;(all_goals first|(refine hK _ ?_;clear hK K)|exact aa|skip))|(refine ak ?_;(try clear hB KB);(try clear hK K)))
theorem qT (m:Int) (n:Nat) (f:Nat→Nat→PV) (t:Lv) (hl:n≤1000) (hf:cQ (f n) t):aC Sg 94 [nv m (n+1) f] (fun x=>x = .b (ag (cN t.acc))):=by
 have ht:True:=trivial
 have h1:=mh m n f hl
 obtain ⟨_,_,_,_,_,_,_,_,_,_,_,_,e12,e13,e14,e15,e16,e17,_⟩:=Dr hf
 refine aA Tryz.func94 [.cell 2 156] ?_
 repeat' (first|((first|refine ai (fun K hK => ?_)|refine ae (h1) ?_);and_intros;(all_goals first|(refine hK _ ?_;clear hK K)|exact aa|skip))|(refine ak ?_;(try clear hB KB);(try clear hK K)))
 simp only [e12,e13,e14,e15,e16,e17]
 rfl
theorem Co (m:Int) (n:Nat) (f:Nat→Nat→PV) (t:Lv) (hl:n≤1000) (hf:cQ (f n) t):aC Sg 97 [nv m (n+1) f] (fun x=>x = .b (ag (aF t.back))):=by
 have ht:True:=trivial
 have h1:=mh m n f hl
 obtain ⟨_,_,_,_,_,_,_,_,_,_,_,_,_,_,_,_,_,_,e18,e19,e20,e21,e22⟩:=Dr hf
 refine aA Tryz.func97 [.cell 2 41] ?_
 repeat' (first|((first|refine ai (fun K hK => ?_)|refine ae (h1) ?_);and_intros;(all_goals first|(refine hK _ ?_;clear hK K)|exact aa|skip))|(refine ak ?_;(try clear hB KB);(try clear hK K)))
 simp only [e18,e19,e20,e21,e22]
 rfl
theorem AY (m:Int) (f:Nat→Nat→PV) (t:Lv) (hf:cQ (f 0) t) (hm:Full m) (hv:AccV t.acc t.back m):aC Sg 60 [nv m 1 f] (fun x=>x = .tup [ag (aF (aU t.acc t.back m)),I 0]):=by
 have ht:True:=trivial
 have h1:=uL m 0 f (by decide)
 obtain ⟨_,_,_,_,_,_,_,_,_,_,_,_,e12,e13,e14,e15,e16,e17,e18,e19,e20,e21,e22⟩:=Dr hf
 have h2:aC Sg 99 [ag [f 0 12,f 0 13,f 0 14,f 0 15,f 0 16,f 0 17],ag [f 0 18,f 0 19,f 0 20,f 0 21,f 0 22],U m] (fun r=>r = .tup [ag (aF (aU t.acc t.back m)),B true]):=by
  rw [e12,e13,e14,e15,e16,e17,e18,e19,e20,e21,e22]
  exact nB t.acc t.back m hm hv
 generalize aU t.acc t.back m=q at *
 have g:decide (((0:Nat):Int)>0)=false:=by decide
 refine aA Tryz.func60 [.cell 2 41, .tmp 3] ?_
 repeat' (first|refine aj g ?_|(((with_reducible refine bM (id:=3) [] (by decide +kernel) (by decide +kernel) ?_ (fun K hK => ?_));(first|(refine And.intro (fun iw hiw => ?_) ?_;(focus ((try simp (maxSteps:=999999)(disch:=omega) only [go_sem] at hiw ⊢);(repeat (refine Eq.trans (if_neg ?_) ?_;(focus omega)));exact hw iw (by omega)));(focus (first|exact Nat.zero_le _|(simp (maxSteps:=999999)(disch:=omega) only [go_sem];done)|(simp (maxSteps:=999999)(disch:=omega) only [go_sem];omega))))|exact cR));(try simp (maxSteps:=999999)(disch:=omega) only [go_sem]);and_intros;(all_goals first|(refine hK _ (by simp (maxSteps:=999999)(disch:=omega) only [go_sem]) ?_;clear hK K)|exact aa|skip))|refine an ?_|((first|refine ai (fun K hK => ?_)|refine ae (h1) ?_|refine ae (h2) ?_);and_intros;(all_goals first|(refine hK _ ?_;clear hK K)|exact aa|skip)))
 refine hK _ trivial ?_
 clear hK
 repeat' (first|(refine ai (fun K hK => ?_);and_intros;(all_goals first|(refine hK _ ?_;clear hK K)|exact aa|skip))|(refine ak ?_;(try clear hB KB);(try clear hK K)))
 rfl
theorem fT (p:Pixel):(SV.b (ag (aF p))).flat:=fun c hc=>by
 obtain ⟨x,hx,rfl⟩:=List.mem_map.1 hc
 simp only [aF,List.mem_cons,List.not_mem_nil,or_false] at hx
 rcases hx with rfl|rfl|rfl|rfl|rfl <;> trivial
theorem eZ (a:Acc):(SV.b (ag (cN a))).flat:=fun c hc=>by
 obtain ⟨x,hx,rfl⟩:=List.mem_map.1 hc
 simp only [cN,List.mem_cons,List.not_mem_nil,or_false] at hx
 rcases hx with rfl|rfl|rfl|rfl|rfl|rfl <;> trivial
theorem JZ {bx:Nat→Option Bx} {b k n e:Nat} {m:Int} {g:Nat→Nat→PV} (hb:bx b=some (.fix [.p (PU m), .own k n])) (hk:bx k=some (.arr e 23 n g)):eo bx (.c (.ptr b 0))=nv m n g:=by
 have h0:ef bx (.own k n) = .p (.lst 23 n g):=by
  simp only [ef,hk,Nat.le_refl,if_true]
 have hf:(fun j=>(ef bx (([CV.p (PU m), .own k n]:List CV).getD (0+j) .any)).toP)=fun j=>[PU m, .lst 23 n g].getD j .any:=by
  funext j
  match j with
  | 0=>rfl
  | 1=>show (ef bx (.own k n)).toP=_;rw [h0];rfl
  | j+2=>rw [show 0+(j+2)=j+2 by omega];rfl
 simp only [eo,ja,hb]
 unfold nv
 rw [if_pos (Nat.zero_le _)]
 exact congrArg (fun g=>BV.c (.ipt 2 g 0)) hf
theorem fk {st : St} {f : FuncId} {K : SV → St → Prop} {X : SV} {b k n : Nat} {m : Int} {g : Nat → Nat → PV} {q : Prop} (h : aC Sg f [nv m n g] (fun r => r = X)) (hf : X.flat) (hk : q)
  (h1:st.bx b=some (.fix [.p (PU m), .own k n]):=by (first|(simp (maxSteps:=999999)(disch:=omega) only [go_sem];done)|rfl|fail)) (h2:st.bx k=some (.arr 162 23 n g):=by (first|(simp (maxSteps:=999999)(disch:=omega) only [go_sem];done)|rfl|fail)) (hp:Sg.rcv (f+1000000)=false:=by rfl)
  (w:q→K X st:=by (first|(intro h;first|(simp (maxSteps:=999999)(disch:=omega) only [go_sem];exact h)|exact h)|fail)):du Sg st f [.c (.ptr b 0)] (Sl.of K):=by
 refine .lend [nv m n g] X h ?_ ?_ hf (w hk) hp
 ·rw [List.map_cons,List.map_nil,JZ h1 h2];exact dE _
 ·intro x hx
  rw [List.mem_singleton.1 hx]
  trivial
end Go.Proofs.YtmfblbbemekkoaaGreatDoor
set_option maxHeartbeats 4000000
set_option maxRecDepth 16000
namespace Go.Proofs.YtmfblbbemekkoaaGreatDoor
open Go Go.SL
open Go.RowKit (wrap64)
attribute [local go_sem] cN pE cA Int.toNat_natCast cM
theorem rW {a nx:Nat} {A:Bx} {bx b:Nat→Option Bx} (hw:∀ i,nx≤i→bx i=none) (h1:b a=some A) (h3:∀ i,i<nx→i≠a→b i=bx i):LN (aB a A bx) b:=fun i y hi=>by
 unfold aB at hi
 split at hi
 ·rename_i e;rw [e,h1];exact hi
 ·rename_i e
  rcases Nat.lt_or_ge i nx with q|q
  ·rw [h3 i q e];exact hi
  ·rw [hw i q] at hi;cases hi
theorem oU {a c nx:Nat} {A C:Bx} {bx b:Nat→Option Bx} (hw:∀ i,nx≤i→bx i=none) (h1:b a=some A) (h2:b c=some C) (h3:∀ i,i<nx→i≠a→i≠c→b i=bx i):LN (aB a A (aB c C bx)) b:=fun i y hi=>by
 unfold aB at hi
 split at hi
 ·rename_i e;rw [e,h1];exact hi
 rename_i e
 split at hi
 ·rename_i e2;rw [e2,h2];exact hi
 ·rename_i e2
  rcases Nat.lt_or_ge i nx with q|q
  ·rw [h3 i q e e2];exact hi
  ·rw [hw i q] at hi;cases hi
theorem Lf (bx : Nat → Option Bx) (nx : Nat) (m : Int) (hm : Full m) (hw : ∀ i, nx ≤ i → bx i = none) : ∃ F : Nat → Nat → PV, cQ (F 0) cz ∧ iV Sg bx nx 91 [U m] (.tup [.c (.ptr (nx + 1) 0), I 0])
  (aB (nx+1) (.fix [.p (PU m), .own nx 1]) (aB nx (.arr 162 23 1 F) bx)) (nx+2):=by
 have hfu:=np m
 rw [Gx hm] at hfu
 have ht:True:=trivial
 refine ⟨?F, ?hF, ?hI⟩
 case hI =>
  refine dO Tryz.func91 rfl (rs:=[.tmp 2, .tmp 3]) rfl rfl dK (by decide +kernel) (Nat.le_of_ble_eq_true rfl) ?_ (fun kf => ?_)
  ·intro v hv
   rw [List.mem_singleton.1 hv];trivial
  repeat' (first|refine aj ht ?_|refine an ?_|((first|refine ai (fun K hK => ?_)|refine ae (hfu) ?_);and_intros;(all_goals first|(refine hK _ ?_;clear hK K)|exact aa|skip))|(refine ak ?_;(try clear hB KB);(try clear hK K)))
  refine ⟨oU hw ?_ ?_ (fun i hi h1 h2 => ?_),by omega⟩
  ·simp (maxSteps:=999999)(disch:=omega) only [go_sem]
  ·simp (maxSteps:=999999)(disch:=omega) only [go_sem]
   rfl
  ·simp (maxSteps:=999999)(disch:=omega) only [go_sem]
 intro j hj
 have hivl:j=0∨j=1∨j=2∨j=3∨j=4∨j=5∨j=6∨j=7∨j=8∨j=9∨j=10∨j=11∨j=12∨j=13∨j=14∨j=15∨j=16∨j=17∨j=18∨j=19∨j=20∨j=21∨j=22:=by omega
 rcases hivl with rfl|rfl|rfl|rfl|rfl|rfl|rfl|rfl|rfl|rfl|rfl|rfl|rfl|rfl|rfl|rfl|rfl|rfl|rfl|rfl|rfl|rfl|rfl <;> rfl
def jM (n:Nat) (f:Nat→Nat→PV) (q:Acc):Nat→Nat→PV:=fun i j=>if i=n then (if 12≤j∧j<18 then (([CV.p (PU q.c0),CV.p (PU q.c1),CV.p (PU q.c2),CV.p (PU q.a),CV.p (PU q.own),CV.p (PU q.f)]:List CV).getD (j - 12) .any).toP else f n j) else f i j
theorem qM {n:Nat} {f:Nat→Nat→PV} {q:Acc} {t:Lv} (hf:cQ (f n) t):cQ (jM n f q n) { t with acc:=q }:=by
 intro j hj
 have hl:=hf j hj
 unfold jM
 rw [if_pos rfl]
 have hivl:j=0∨j=1∨j=2∨j=3∨j=4∨j=5∨j=6∨j=7∨j=8∨j=9∨j=10∨j=11∨j=12∨j=13∨j=14∨j=15∨j=16∨j=17∨j=18∨j=19∨j=20∨j=21∨j=22:=by omega
 rcases hivl with rfl|rfl|rfl|rfl|rfl|rfl|rfl|rfl|rfl|rfl|rfl|rfl|rfl|rfl|rfl|rfl|rfl|rfl|rfl|rfl|rfl|rfl|rfl <;> first|rfl|exact hl
theorem qo {n i j:Nat} {f:Nat→Nat→PV} {q:Acc} (h:i≠n):jM n f q i j=f i j:=if_neg h
theorem DI (bx : Nat → Option Bx) (nx b k n : Nat) (f : Nat → Nat → PV) (m : Int) (o : Op) (p : Pixel) (t : Lv)
  (hb:bx b=some (.fix [.p (PU m), .own k (n+1)])) (hk:bx k=some (.arr 162 23 (n+1) f)) (hbn:b<nx) (hkn:k<nx) (hbk:b≠k) (hn:n≤1000) (hf:cQ (f n) t)
  (hm:Full m) (ho:1≤o.operator∧o.operator≤12) (hmo:1≤o.mode∧o.mode≤12) (hp:PixV p m) (hv:AccV t.acc t.back m) (hko:t.op.knockout=true→o.operator=4) (hw:∀ i,nx≤i→bx i=none) :
  iV Sg bx nx 142 [.c (.ptr b 0),ag (cT o),ag (aF p)] (.b (B true)) (aB k (.arr 162 23 (n+1) (jM n f (dH t.op.knockout o.operator o.mode m p t.acc t.back))) bx) (nx+3):=by
 have hl:=Dr hf
 have hst:aC Sg 177 [.c (.p (f n 11)),I o.operator,I o.mode,U m,ag (aF p),ag [f n 12,f n 13,f n 14,f n 15,f n 16,f n 17],ag [f n 18,f n 19,f n 20,f n 21,f n 22]] (fun r=>r = .tup [ag (cN (dH t.op.knockout o.operator o.mode m p t.acc t.back)),B true]):=by
  obtain ⟨e0,e1,e2,e3,e4,e5,e6,e7,e8,e9,e10,e11,e12,e13,e14,e15,e16,e17,e18,e19,e20,e21,e22⟩:=hl
  rw [e11,e12,e13,e14,e15,e16,e17,e18,e19,e20,e21,e22]
  exact Il t.op.knockout o.operator o.mode m p t.acc t.back hm ho hmo hp hv hko
 have e:bx=aB b (.fix [.p (PU m), .own k (n+1)]) (aB k (.arr 162 23 (n+1) f) bx):=by rw [← bg hk];exact bg hb
 have ht:True:=trivial
 generalize dH t.op.knockout o.operator o.mode m p t.acc t.back=q at *
 refine dO Tryz.func142 rfl (rs:=[.tmp 6]) rfl rfl dK (by decide +kernel) (Nat.le_of_ble_eq_true rfl) ?_ (fun kf => ?_)
 ·intro v hv
  simp only [List.mem_cons,List.not_mem_nil,or_false] at hv
  rcases hv with rfl|rfl|rfl
  ·exact hbn
  ·exact fun c hc=>by (obtain ⟨x,_,rfl⟩:=List.mem_map.1 hc;trivial)
  ·exact fun c hc=>by (obtain ⟨x,_,rfl⟩:=List.mem_map.1 hc;trivial)
 rw [e]
 repeat' (first|(((with_reducible refine bM (id:=2) [] (by decide +kernel) (by decide +kernel) ?_ (fun K hK => ?_));(first|(refine And.intro (fun iw hiw => ?_) ?_;(focus ((try simp (maxSteps:=999999)(disch:=omega) only [go_sem] at hiw ⊢);(repeat (refine Eq.trans (if_neg ?_) ?_;(focus omega)));exact hw iw (by omega)));(focus (first|exact Nat.zero_le _|(simp (maxSteps:=999999)(disch:=omega) only [go_sem];done)|(simp (maxSteps:=999999)(disch:=omega) only [go_sem];omega))))|exact cR));(try simp (maxSteps:=999999)(disch:=omega) only [go_sem]);and_intros;(all_goals first|(refine hK _ (by simp (maxSteps:=999999)(disch:=omega) only [go_sem]) ?_;clear hK K)|exact aa|skip))|((first|refine ai (fun K hK => ?_)|refine fk (k:=k) (mh m n f hn) trivial ?_|refine ae (hst) ?_);and_intros;(all_goals first|(refine hK _ ?_;clear hK K)|exact aa|skip)))
 refine hK _ trivial ?_
 clear hK
 repeat' (first|refine aj ht ?_|(((with_reducible refine bM (id:=4) [] (by decide +kernel) (by decide +kernel) ?_ (fun K hK => ?_));(first|(refine And.intro (fun iw hiw => ?_) ?_;(focus ((try simp (maxSteps:=999999)(disch:=omega) only [go_sem] at hiw ⊢);(repeat (refine Eq.trans (if_neg ?_) ?_;(focus omega)));exact hw iw (by omega)));(focus (first|exact Nat.zero_le _|(simp (maxSteps:=999999)(disch:=omega) only [go_sem];done)|(simp (maxSteps:=999999)(disch:=omega) only [go_sem];omega))))|exact cR));(try simp (maxSteps:=999999)(disch:=omega) only [go_sem]);and_intros;(all_goals first|(refine hK _ (by simp (maxSteps:=999999)(disch:=omega) only [go_sem]) ?_;clear hK K)|exact aa|skip))|refine an ?_|(refine ai (fun K hK => ?_);and_intros;(all_goals first|(refine hK _ ?_;clear hK K)|exact aa|skip))|(refine ak ?_;(try clear hB KB);(try clear hK K)))
 refine rW (bx:=aB b (.fix [.p (PU m), .own k (n+1)]) (aB k (.arr 162 23 (n+1) f) bx)) (nx:=nx) ?_ ?_ (fun i hi h1 => ?_)
 ·rw [← e];exact hw
 ·simp (maxSteps:=999999)(disch:=omega) only [go_sem]
  rfl
 ·simp (maxSteps:=999999)(disch:=omega) only [go_sem]
end Go.Proofs.YtmfblbbemekkoaaGreatDoor
set_option maxHeartbeats 4000000
set_option maxRecDepth 16000
namespace Go.Proofs.YtmfblbbemekkoaaGreatDoor
open Go Go.SL
open Go.RowKit (wrap64)
attribute [local go_sem] cN pE cA Int.toNat_natCast cM
theorem tx {st : St} {K : SV → St → Prop} (b k n : Nat) (f : Nat → Nat → PV) (m : Int) (o : Op) (p : Pixel) (t : Lv)
  (hb:st.bx b=some (.fix [.p (PU m), .own k (n+1)])) (hk:st.bx k=some (.arr 162 23 (n+1) f)) (hbn:b<st.nx) (hkn:k<st.nx) (hbk:b≠k) (hn:n≤1000) (hf:cQ (f n) t)
  (hm:Full m) (ho:1≤o.operator∧o.operator≤12) (hmo:1≤o.mode∧o.mode≤12) (hp:PixV p m) (hv:AccV t.acc t.back m) (hko:t.op.knockout=true→o.operator=4) (hw:∀ i,st.nx≤i→st.bx i=none)
  (hK:K (.b (B true)) (st.turn (aB k (.arr 162 23 (n+1) (jM n f (dH t.op.knockout o.operator o.mode m p t.acc t.back))) st.bx) (st.nx+3))) :
  du Sg st 142 [.c (.ptr b 0),ag (cT o),ag (aF p)] (Sl.of K):=by
 refine cf (DI st.bx st.nx b k n f m o p t hb hk hbn hkn hbk hn hf hm ho hmo hp hv hko hw) rfl (fun i hi => ?_) (by omega) hK
 unfold aB
 rw [if_neg (by omega)]
 exact hw i (by omega)
theorem Ho (bx : Nat → Option Bx) (nx b k n : Nat) (f : Nat → Nat → PV) (m : Int) (o : Op) (p : Pixel) (ms : Int) (t : Lv)
  (hb:bx b=some (.fix [.p (PU m), .own k (n+1)])) (hk:bx k=some (.arr 162 23 (n+1) f)) (hbn:b<nx) (hkn:k<nx) (hbk:b≠k) (hn:n≤1000) (hf:cQ (f n) t)
  (hm:Full m) (hkd:o.kind=1) (ho:1≤o.operator∧o.operator≤12) (hmo:1≤o.mode∧o.mode≤12) (hop:0≤o.opacity∧o.opacity≤m) (hp:PixV p m) (hms:0≤ms∧ms≤m) (hv:AccV t.acc t.back m) (hko:t.op.knockout=true→o.operator=4) (hw:∀ i,nx≤i→bx i=none) :
  iV Sg bx nx 95 [.c (.ptr b 0),ag (cT o),ag (aF p),U ms] (.tup [ag (aF (ax m o p ms)),I 0]) (aB k (.arr 162 23 (n+1) (jM n f (dH t.op.knockout o.operator o.mode m (ax m o p ms) t.acc t.back))) bx) (nx+7):=by
 have hsc:=wz m o p ms hm hp hms.1 hms.2 hop.1 hop.2
 have hsv:=kN (o:=o) hm hp hms.1 hms.2 hop.1 hop.2
 have e:bx=aB b (.fix [.p (PU m), .own k (n+1)]) (aB k (.arr 162 23 (n+1) f) bx):=by rw [← bg hk];exact bg hb
 have g:(o.kind != 1)=false:=by rw [bne_eq_false_iff_eq];exact hkd
 generalize ax m o p ms=q at *
 refine dO Tryz.func95 rfl (rs:=[.cell 8 41, .tmp 9]) rfl rfl dK (by decide +kernel) (Nat.le_of_ble_eq_true rfl) ?_ (fun kf => ?_)
 ·intro v hv
  simp only [List.mem_cons,List.not_mem_nil,or_false] at hv
  rcases hv with rfl|rfl|rfl|rfl
  ·exact hbn
  ·exact fun c hc=>by (obtain ⟨x,_,rfl⟩:=List.mem_map.1 hc;trivial)
  ·exact fun c hc=>by (obtain ⟨x,_,rfl⟩:=List.mem_map.1 hc;trivial)
  ·trivial
 rw [e]
 repeat' (first|(((with_reducible refine bM (id:=1) [] (by decide +kernel) (by decide +kernel) ?_ (fun K hK => ?_));(first|(refine And.intro (fun iw hiw => ?_) ?_;(focus ((try simp (maxSteps:=999999)(disch:=omega) only [go_sem] at hiw ⊢);(repeat (refine Eq.trans (if_neg ?_) ?_;(focus omega)));exact hw iw (by omega)));(focus (first|exact Nat.zero_le _|(simp (maxSteps:=999999)(disch:=omega) only [go_sem];done)|(simp (maxSteps:=999999)(disch:=omega) only [go_sem];omega))))|exact cR));(try simp (maxSteps:=999999)(disch:=omega) only [go_sem]);and_intros;(all_goals first|(refine hK _ (by simp (maxSteps:=999999)(disch:=omega) only [go_sem]) ?_;clear hK K)|exact aa|skip))|((first|refine ai (fun K hK => ?_)|refine ae (hsc) ?_);and_intros;(all_goals first|(refine hK _ ?_;clear hK K)|exact aa|skip)))
 refine hK _ trivial ?_
 clear hK
 repeat' (first|refine aj g ?_|refine an ?_|(refine ai (fun K hK => ?_);and_intros;(all_goals first|(refine hK _ ?_;clear hK K)|exact aa|skip)))
 refine tx b k n f m o q t ?_ ?_ ?_ ?_ hbk hn hf hm ho hmo hsv hv hko ?_ ?_
 ·simp (maxSteps:=999999)(disch:=omega) only [go_sem]
 ·simp (maxSteps:=999999)(disch:=omega) only [go_sem]
 ·simp (maxSteps:=999999)(disch:=omega) only [go_sem]
 ·simp (maxSteps:=999999)(disch:=omega) only [go_sem]
 ·intro iw hiw
  (try simp (maxSteps:=999999)(disch:=omega) only [go_sem] at hiw ⊢)
  (repeat (refine Eq.trans (if_neg ?_) ?_;(focus omega)))
  exact hw iw (by omega)
 simp (maxSteps:=999999)(disch:=omega) only [go_sem]
 refine hK _ ?_
 clear hK
 repeat' (first|refine aj g ?_|refine an ?_|(refine ai (fun K hK => ?_);and_intros;(all_goals first|(refine hK _ ?_;clear hK K)|exact aa|skip))|(refine ak ?_;(try clear hB KB);(try clear hK K)))
 refine ⟨rfl,rW (bx:=aB b (.fix [.p (PU m), .own k (n+1)]) (aB k (.arr 162 23 (n+1) f) bx)) (nx:=nx) ?_ ?_ (fun i hi h1 => ?_)⟩
 ·rw [← e];exact hw
 ·simp (maxSteps:=999999)(disch:=omega) only [go_sem]
 ·simp (maxSteps:=999999)(disch:=omega) only [go_sem]
end Go.Proofs.YtmfblbbemekkoaaGreatDoor
