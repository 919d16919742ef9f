/- Part of the proof: V3, V4, V5, V6, WA, WD, WE. -/
import Derived.Test.YtcbifofjjpfbcaaGreatDoorM17
import Derived.Test.YtcbifofjjpfbcaaGreatDoorM19
set_option linter.unusedSimpArgs false
set_option linter.unusedVariables false
set_option maxHeartbeats 4000000
set_option maxRecDepth 16000
namespace Go.Proofs.YtcbifofjjpfbcaaGreatDoor
open Go Go.SL
open Go.RowKit (wrap64)
section
attribute [local go_sem] cO
theorem GB {a b:Int} (h:b≤a) (ha:i64 a) (hb:i64 b):IntKind.u64.wrap (IntKind.u64.wrap a - IntKind.u64.wrap b)=a - b:=by
 obtain ⟨a1,a2⟩:=ha;obtain ⟨b1,b2⟩:=hb;have e:∀ n:Int,IntKind.u64.wrap n=n % 18446744073709551616:=fun n=>rfl;rw [e,e,e];omega
theorem GE (m:Image) (x y dx dy:Int) (hx:i64 x) (hy:i64 y) (hdx:i64 dx) (hdy:i64 dy):aA Sg 175 [ag (aI m),I x,I y,I dx,I dy] (fun r=>r = .b (ag (aS (gr m x y dx dy)))):=by
 have w1:=fun h=>GB (a:=x) (b:=dx) h hx hdx;have w2:=fun h=>GB (a:=y) (b:=dy) h hy hdy;by_cases hc:x<dx∨y<dy
 ·have e:gr m x y dx dy=bQ:=by unfold gr;rw [if_pos (by omega)]
  rw [e];have g:(decide (x<dx) || decide (y<dy))=true:=by simp only [Bool.or_eq_true,decide_eq_true_eq];exact hc
  have g2:∀ a b:Bool,(decide (x<dx) || decide (y<dy) || a || b)=true:=fun a b=>by rw [g];rfl
  refine aD Tryz.func175 [.cell 10 37] ?_;repeat' (first|refine ah (And.intro g g2) ?_|refine aC ?_)
  rfl
 ·have hc1:dx≤x:=by omega
  have hc2:dy≤y:=by omega
  have w1:=w1 hc1;have w2:=w2 hc2;have g1:decide (x<dx)=false:=decide_eq_false (by omega);have g2:decide (y<dy)=false:=decide_eq_false (by omega);by_cases hd:1099511627776≤x - dx∨1099511627776≤y - dy
  ·have e:gr m x y dx dy=bQ:=by unfold gr;rw [if_pos (by omega)]
   rw [e];have g3:(decide (IntKind.u64.wrap (IntKind.u64.wrap x - IntKind.u64.wrap dx)≥1099511627776) || decide (IntKind.u64.wrap (IntKind.u64.wrap y - IntKind.u64.wrap dy)≥1099511627776))=true:=by
    rw [w1,w2];simp only [Bool.or_eq_true,decide_eq_true_eq];omega
   refine aD Tryz.func175 [.cell 10 37] ?_;repeat' (first|refine ah (And.intro g1 (And.intro g2 g3)) ?_|refine aC ?_)
   rfl
  ·have e:gr m x y dx dy=cU m (x - dx) (y - dy):=by unfold gr;rw [if_neg (by omega)]
   rw [e];have ha:=za m (x - dx) (y - dy);generalize cU m (x - dx) (y - dy)=q at *
   have g3:decide (IntKind.u64.wrap (IntKind.u64.wrap x - IntKind.u64.wrap dx)≥1099511627776)=false:=by rw [w1];exact decide_eq_false (by omega)
   have g4:decide (IntKind.u64.wrap (IntKind.u64.wrap y - IntKind.u64.wrap dy)≥1099511627776)=false:=by rw [w2];exact decide_eq_false (by omega)
   refine aD Tryz.func175 [.cell 10 37] ?_;repeat' (first|refine ah (And.intro g1 (And.intro g2 (And.intro g3 g4))) ?_|refine ax ?_|refine an (fun K hK => ?_)|refine aa (ha) ?_|(refine aq hK ?_;try clear hK K))
   rfl
theorem nN (a:Acc):aA Sg 140 [ag (cO a)] (fun r=>r = .b (ag (aS ⟨a.c0,a.c1,a.c2,a.a,a.f⟩))):=by
 have ht:True:=trivial;refine aD Tryz.func140 [.cell 2 37] ?_;repeat' (refine aC ?_)
 rfl
theorem zx (m : Int) (o : Op) (p : Pixel) (k : Int) (hm : Full m) (hp : PixV p m) (hk : 0 ≤ k) (hkm : k ≤ m) (ho : 0 ≤ o.opacity) (hom : o.opacity ≤ m) :
  aA Sg 177 [ag (fZ o),ag (aS p),U k,U m] (fun r=>r = .tup [ag (aS (aM m o p k)),B true]):=by
 have hpos:=hm.pos;unfold aM;by_cases h:o.mask=0
 ·rw [if_pos h];have hb:=FS p m o.opacity m hm hp (by omega) (Int.le_refl _) ho hom;have g:(o.mask != 0)=false:=by rw [bne_eq_false_iff_eq];exact h
  generalize bF (bF p m m) o.opacity m=q at *
  refine aD Tryz.func177 [.cell 8 37, .tmp 9] ?_;repeat' (first|refine ah g ?_|refine ax ?_|refine an (fun K hK => ?_)|refine aa (hb) ?_|(refine aq hK ?_;try clear hK K))
  rfl
 ·rw [if_neg h];have hb:=FS p k o.opacity m hm hp hk hkm ho hom;have g:(o.mask != 0)=true:=by rw [bne_iff_ne];exact h
  generalize bF (bF p k m) o.opacity m=q at *
  refine aD Tryz.func177 [.cell 8 37, .tmp 9] ?_;repeat' (first|refine ah g ?_|refine ax ?_|refine an (fun K hK => ?_)|refine aa (hb) ?_|(refine aq hK ?_;try clear hK K))
  rfl
theorem zu (s : Script) (o : Op) (x y : Int) (hs : ScriptLen s) (hx : i64 x) (hy : i64 y) (h1 : i64 o.x) (h2 : i64 o.y) (h3 : i64 o.maskX) (h4 : i64 o.maskY) :
  aA Sg 138 [ag (aF s),ag (fZ o),I x,I y] (fun r=>r = .tup [ag (aS (cY s x y o).1),U (cY s x y o).2]):=by
 have hl:=hs.images;have n1:=GE (s.images.getD o.image.toNat default) x y o.x o.y hx hy h1 h2;have n2:=GE (s.images.getD (o.mask - 1).toNat default) x y o.maskX o.maskY hx hy h3 h4;unfold cY gV;by_cases c1:o.kind=1∧0≤o.image∧o.image<s.images.length
 ·have g1:(o.kind == 1 && decide (o.image≥0) && decide (o.image<s.images.length))=true:=by simp only [Bool.and_eq_true,beq_iff_eq,decide_eq_true_eq];omega
  by_cases c2:1≤o.mask∧o.mask≤s.images.length
  ·have g2:(decide (o.mask≥1) && decide (o.mask≤s.images.length))=true:=by simp only [Bool.and_eq_true,decide_eq_true_eq];omega
   rw [if_pos c1,if_pos c2];generalize gr (s.images.getD o.image.toNat default) x y o.x o.y=q1 at *
   generalize gr (s.images.getD (o.mask - 1).toNat default) x y o.maskX o.maskY=q2 at *
   refine aD Tryz.func138 [.cell 8 37, .tmp 9] ?_;repeat' (first|refine ah (And.intro g1 g2) ?_|refine ax ?_|refine an (fun K hK => ?_)|refine aa (n1) ?_|refine aa (n2) ?_|(refine aq hK ?_;try clear hK K))
   rfl
  ·have g2:(decide (o.mask≥1) && decide (o.mask≤s.images.length))=false:=by rw [← Bool.not_eq_true,Bool.and_eq_true,decide_eq_true_eq,decide_eq_true_eq];omega
   rw [if_pos c1,if_neg c2];generalize gr (s.images.getD o.image.toNat default) x y o.x o.y=q1 at *
   refine aD Tryz.func138 [.cell 8 37, .tmp 9] ?_;repeat' (first|refine ah (And.intro g1 g2) ?_|refine ax ?_|refine an (fun K hK => ?_)|refine aa (n1) ?_|(refine aq hK ?_;try clear hK K))
   rfl
 ·have g1:(o.kind == 1 && decide (o.image≥0) && decide (o.image<s.images.length))=false:=by rw [← Bool.not_eq_true,Bool.and_eq_true,Bool.and_eq_true,beq_iff_eq,decide_eq_true_eq,decide_eq_true_eq];omega
  by_cases c2:1≤o.mask∧o.mask≤s.images.length
  ·have g2:(decide (o.mask≥1) && decide (o.mask≤s.images.length))=true:=by simp only [Bool.and_eq_true,decide_eq_true_eq];omega
   rw [if_neg c1,if_pos c2];generalize gr (s.images.getD (o.mask - 1).toNat default) x y o.maskX o.maskY=q2 at *
   refine aD Tryz.func138 [.cell 8 37, .tmp 9] ?_;repeat' (first|refine ah (And.intro g1 g2) ?_|refine ax ?_|refine an (fun K hK => ?_)|refine aa (n2) ?_|(refine aq hK ?_;try clear hK K))
   rfl
  ·have g2:(decide (o.mask≥1) && decide (o.mask≤s.images.length))=false:=by rw [← Bool.not_eq_true,Bool.and_eq_true,decide_eq_true_eq,decide_eq_true_eq];omega
   rw [if_neg c1,if_neg c2];refine aD Tryz.func138 [.cell 8 37, .tmp 9] ?_;repeat' (first|refine ah (And.intro g1 g2) ?_|refine aC ?_)
   rfl
end
section
attribute [local go_sem] cO
def LL (t:Lv):List PV:=[PI t.op.kind,PI t.op.image,PI t.op.x,PI t.op.y,PI t.op.mask,PI t.op.maskX,PI t.op.maskY,PU t.op.opacity,PI t.op.operator,PI t.op.mode,PB t.op.isolated,PB t.op.knockout,
 PU t.acc.c0,PU t.acc.c1,PU t.acc.c2,PU t.acc.a,PU t.acc.own,PU t.acc.f,PU t.back.c0,PU t.back.c1,PU t.back.c2,PU t.back.a,PU t.back.f]
def jE (g:Nat→PV) (t:Lv):Prop:=∀ j,j<23→g j=(LL t).getD j .any
theorem Sh {g : Nat → PV} {t : Lv} (h : jE g t) : g 0 = PI t.op.kind ∧ g 1 = PI t.op.image ∧ g 2 = PI t.op.x ∧ g 3 = PI t.op.y ∧ g 4 = PI t.op.mask ∧ g 5 = PI t.op.maskX ∧ g 6 = PI t.op.maskY ∧ g 7 = PU t.op.opacity ∧ g 8 = PI t.op.operator ∧ g 9 = PI t.op.mode ∧
  g 10=PB t.op.isolated∧g 11=PB t.op.knockout∧g 12=PU t.acc.c0∧g 13=PU t.acc.c1∧g 14=PU t.acc.c2∧g 15=PU t.acc.a∧g 16=PU t.acc.own∧g 17=PU t.acc.f∧g 18=PU t.back.c0∧g 19=PU t.back.c1∧g 20=PU t.back.c2∧g 21=PU t.back.a∧g 22=PU t.back.f :=
 ⟨h 0 (by decide),h 1 (by decide),h 2 (by decide),h 3 (by decide),h 4 (by decide),h 5 (by decide),h 6 (by decide),h 7 (by decide),h 8 (by decide),h 9 (by decide),h 10 (by decide),h 11 (by decide),h 12 (by decide),h 13 (by decide),h 14 (by decide),h 15 (by decide),h 16 (by decide),
  h 17 (by decide),h 18 (by decide),h 19 (by decide),h 20 (by decide),h 21 (by decide),h 22 (by decide)⟩
def HD (m:Int) (n:Nat) (f:Nat→Nat→PV):BV := .c (.ipt 2 (fun j=>[PU m, .lst 23 n f].getD j .any) 0)
theorem fX {n:Nat}:(((n+1:Nat):Int) - 1)=(n:Int):=by omega
attribute [local go_sem] HD fX Int.toNat_natCast LL
theorem qD (m:Int) (n:Nat) (f:Nat→Nat→PV) (hl:n≤1000):aA Sg 145 [HD m (n+1) f] (fun x=>x = .b (I n)):=by
 have ht:True:=trivial;refine aD Tryz.func145 [.tmp 2] ?_;repeat' (first|with_reducible exact bq|refine aC ?_)
theorem wm (m:Int) (n:Nat) (f:Nat→Nat→PV) (hl:n≤1000):aA Sg 148 [HD m (n+1) f] (fun x=>x = .b (I n)):=by
 have ht:True:=trivial;refine aD Tryz.func148 [.tmp 2] ?_;repeat' (first|with_reducible exact bq|refine aC ?_)
theorem Fo (m:Int) (n:Nat) (f:Nat→Nat→PV) (t:Lv) (hl:n≤1000) (hf:jE (f n) t):aA Sg 141 [HD m (n+1) f] (fun x=>x = .b (ag (cO t.acc))):=by
 have ht:True:=trivial;have h1:=qD m n f hl;obtain ⟨_,_,_,_,_,_,_,_,_,_,_,_,e12,e13,e14,e15,e16,e17,_⟩:=Sh hf;refine aD Tryz.func141 [.cell 2 147] ?_;repeat' (first|refine an (fun K hK => ?_)|refine aa (h1) ?_|refine ax ?_|(refine aq hK ?_;try clear hK K))
 simp only [e12,e13,e14,e15,e16,e17];rfl
theorem PH (m:Int) (n:Nat) (f:Nat→Nat→PV) (t:Lv) (hl:n≤1000) (hf:jE (f n) t):aA Sg 144 [HD m (n+1) f] (fun x=>x = .b (ag (aS t.back))):=by
 have ht:True:=trivial;have h1:=qD m n f hl;obtain ⟨_,_,_,_,_,_,_,_,_,_,_,_,_,_,_,_,_,_,e18,e19,e20,e21,e22⟩:=Sh hf;refine aD Tryz.func144 [.cell 2 37] ?_;repeat' (first|refine an (fun K hK => ?_)|refine aa (h1) ?_|refine ax ?_|(refine aq hK ?_;try clear hK K))
 simp only [e18,e19,e20,e21,e22];rfl
theorem FB (m:Int) (f:Nat→Nat→PV) (t:Lv) (hf:jE (f 0) t) (hm:Full m) (hv:AccV t.acc t.back m):aA Sg 104 [HD m 1 f] (fun x=>x = .tup [ag (aS (bI t.acc t.back m)),I 0]):=by
 have ht:True:=trivial;have h1:=wm m 0 f (by decide);obtain ⟨_,_,_,_,_,_,_,_,_,_,_,_,e12,e13,e14,e15,e16,e17,e18,e19,e20,e21,e22⟩:=Sh hf;have h2:aA Sg 146 [ag [f 0 12,f 0 13,f 0 14,f 0 15,f 0 16,f 0 17],ag [f 0 18,f 0 19,f 0 20,f 0 21,f 0 22],U m] (fun r=>r = .tup [ag (aS (bI t.acc t.back m)),B true]):=by
  rw [e12,e13,e14,e15,e16,e17,e18,e19,e20,e21,e22];exact tz t.acc t.back m hm hv
 generalize bI t.acc t.back m=q at *
 have g:decide (((0:Nat):Int)>0)=false:=by decide
 refine aD Tryz.func104 [.cell 2 37, .tmp 3] ?_;repeat' (first|refine ah g ?_|(((with_reducible refine bT (id:=3) [] (by decide +kernel) (by decide +kernel) ?_ (fun K hK => ?_));exact dK);(try simp (maxSteps:=999999)(disch:=omega) only [go_sem]);and_intros;(all_goals first|(refine hK _ bG ?_;clear hK K)|exact ai|skip))|refine bU ?_|((first|refine an (fun K hK => ?_)|refine aa (h1) ?_|refine aa (h2) ?_);and_intros;all_goals first|(refine hK _ ?_;clear hK K)|try exact ai))
 refine hK _ trivial ?_;clear hK;repeat' (refine aC ?_)
 rfl
theorem Lx (p:Pixel):(SV.b (ag (aS p))).flat:=fun c hc=>by
 obtain ⟨x,hx,rfl⟩:=List.mem_map.1 hc;simp only [aS,List.mem_cons,List.not_mem_nil,or_false] at hx;rcases hx with rfl|rfl|rfl|rfl|rfl <;> trivial
theorem wo (a:Acc):(SV.b (ag (cO a))).flat:=fun c hc=>by
 obtain ⟨x,hx,rfl⟩:=List.mem_map.1 hc;simp only [cO,List.mem_cons,List.not_mem_nil,or_false] at hx;rcases hx with rfl|rfl|rfl|rfl|rfl|rfl <;> trivial
theorem PZ {bx:Nat→Option Bx} {b k n e:Nat} {m:Int} {g:Nat→Nat→PV} (hb:bx b=some (.fix [.p (PU m), .own k n])) (hk:bx k=some (.arr e 23 n g)):ep bx (.c (.ptr b 0))=HD m n g:=by
 have h0:fK bx (.own k n) = .p (.lst 23 n g):=by simp only [fK,hk,Nat.le_refl,if_true]
 have hf:(fun j=>(fK bx (([CV.p (PU m), .own k n]:List CV).getD (0+j) .any)).toP)=fun j=>[PU m, .lst 23 n g].getD j .any:=by
  funext j
  match j with
  | 0=>rfl
  | 1=>show (fK bx (.own k n)).toP=_;rw [h0];rfl
  | j+2=>rw [show 0+(j+2)=j+2 by omega];rfl
 simp only [ep,ml,hb];unfold HD;rw [if_pos (Nat.zero_le _)];exact congrArg (fun g=>BV.c (.ipt 2 g 0)) hf
theorem jS {st : St} {f : FuncId} {K : SV → St → Prop} {X : SV} {b k n : Nat} {m : Int} {g : Nat → Nat → PV} {q : Prop} (h : aA Sg f [HD m n g] (fun r => r = X)) (hf : X.flat) (hk : q)
  (h1:st.bx b=some (.fix [.p (PU m), .own k n]):=by (first|(simp (maxSteps:=999999)(disch:=omega) only [go_sem];done)|rfl|fail)) (h2:st.bx k=some (.arr 206 23 n g):=by (first|(simp (maxSteps:=999999)(disch:=omega) only [go_sem];done)|rfl|fail)) (hp:Sg.rcv (f+1000000)=false:=by rfl)
  (w:q→K X st:=by (first|(intro h;first|(simp (maxSteps:=999999)(disch:=omega) only [go_sem];exact h)|exact h)|fail)):en Sg st f [.c (.ptr b 0)] (Sl.of K):=by
 refine .lend [HD m n g] X h ?_ ?_ hf (w hk) hp
 ·rw [List.map_cons,List.map_nil,PZ h1 h2];exact gp _
 ·intro x hx;rw [List.mem_singleton.1 hx];trivial
end
section
attribute [local go_sem] cO LL fX Int.toNat_natCast cA
theorem AZ {a nx:Nat} {A:Bx} {bx b:Nat→Option Bx} (hw:∀ i,nx≤i→bx i=none) (h1:b a=some A) (h3:∀ i,i<nx→i≠a→b i=bx i):VQ (aJ a A bx) b:=fun i y hi=>by
 unfold aJ at hi;split at hi
 ·rename_i e;rw [e,h1];exact hi
 ·rename_i e;rcases Nat.lt_or_ge i nx with q|q
  ·rw [h3 i q e];exact hi
  ·rw [hw i q] at hi;cases hi
theorem AK {a c nx:Nat} {A C:Bx} {bx b:Nat→Option Bx} (hw:∀ i,nx≤i→bx i=none) (h1:b a=some A) (h2:b c=some C) (h3:∀ i,i<nx→i≠a→i≠c→b i=bx i):VQ (aJ a A (aJ c C bx)) b:=fun i y hi=>by
 unfold aJ at hi;split at hi
 ·rename_i e;rw [e,h1];exact hi
 rename_i e;split at hi
 ·rename_i e2;rw [e2,h2];exact hi
 ·rename_i e2;rcases Nat.lt_or_ge i nx with q|q
  ·rw [h3 i q e e2];exact hi
  ·rw [hw i q] at hi;cases hi
theorem Pa (bx : Nat → Option Bx) (nx : Nat) (m : Int) (hm : Full m) (hw : ∀ i, nx ≤ i → bx i = none) : ∃ F : Nat → Nat → PV, jE (F 0) base ∧ lU Sg bx nx 137 [U m] (.tup [.c (.ptr (nx + 1) 0), I 0])
  (aJ (nx+1) (.fix [.p (PU m), .own nx 1]) (aJ nx (.arr 206 23 1 F) bx)) (nx+2):=by
 have hfu:=pJ m;rw [Ky hm] at hfu;have ht:True:=trivial;refine ⟨?F, ?hF, ?hI⟩
 case hI =>
  refine ku Tryz.func137 rfl (rs:=[.tmp 2, .tmp 3]) rfl rfl fG (by decide +kernel) (Nat.le_of_ble_eq_true rfl) ?_ (fun kf => ?_)
  ·intro v hv;rw [List.mem_singleton.1 hv];trivial
  repeat' (first|refine ah ht ?_|refine ax ?_|refine an (fun K hK => ?_)|refine aa (hfu) ?_|(refine aq hK ?_;try clear hK K))
  refine ⟨AK hw ?_ ?_ (fun i hi h1 h2 => ?_),by omega⟩
  ·exact bG
  ·refine dz ?_;rfl
  ·exact bG
 intro j hj;have hivl:j=0∨j=1∨j=2∨j=3∨j=4∨j=5∨j=6∨j=7∨j=8∨j=9∨j=10∨j=11∨j=12∨j=13∨j=14∨j=15∨j=16∨j=17∨j=18∨j=19∨j=20∨j=21∨j=22:=by omega
 rcases hivl with rfl|rfl|rfl|rfl|rfl|rfl|rfl|rfl|rfl|rfl|rfl|rfl|rfl|rfl|rfl|rfl|rfl|rfl|rfl|rfl|rfl|rfl|rfl <;> rfl
def nu (n:Nat) (f:Nat→Nat→PV) (q:Acc):Nat→Nat→PV:=fun i j=>if i=n then (if 12≤j∧j<18 then (([CV.p (PU q.c0),CV.p (PU q.c1),CV.p (PU q.c2),CV.p (PU q.a),CV.p (PU q.own),CV.p (PU q.f)]:List CV).getD (j - 12) .any).toP else f n j) else f i j
theorem zo {n:Nat} {f:Nat→Nat→PV} {q:Acc} {t:Lv} (hf:jE (f n) t):jE (nu n f q n) { t with acc:=q }:=by
 intro j hj;have hl:=hf j hj;unfold nu;rw [if_pos rfl];have hivl:j=0∨j=1∨j=2∨j=3∨j=4∨j=5∨j=6∨j=7∨j=8∨j=9∨j=10∨j=11∨j=12∨j=13∨j=14∨j=15∨j=16∨j=17∨j=18∨j=19∨j=20∨j=21∨j=22:=by omega
 rcases hivl with rfl|rfl|rfl|rfl|rfl|rfl|rfl|rfl|rfl|rfl|rfl|rfl|rfl|rfl|rfl|rfl|rfl|rfl|rfl|rfl|rfl|rfl|rfl <;> first|rfl|exact hl
theorem zn {n i j:Nat} {f:Nat→Nat→PV} {q:Acc} (h:i≠n):nu n f q i j=f i j:=if_neg h
theorem IC (bx : Nat → Option Bx) (nx b k n : Nat) (f : Nat → Nat → PV) (m : Int) (o : Op) (p : Pixel) (t : Lv)
  (hb:bx b=some (.fix [.p (PU m), .own k (n+1)])) (hk:bx k=some (.arr 206 23 (n+1) f)) (hbn:b<nx) (hkn:k<nx) (hbk:b≠k) (hn:n≤1000) (hf:jE (f n) t)
  (hm:Full m) (ho:1≤o.operator∧o.operator≤12) (hmo:1≤o.mode∧o.mode≤12) (hp:PixV p m) (hv:AccV t.acc t.back m) (hko:t.op.knockout=true→o.operator=4) (hw:∀ i,nx≤i→bx i=none) :
  lU Sg bx nx 178 [.c (.ptr b 0),ag (fZ o),ag (aS p)] (.b (B true)) (aJ k (.arr 206 23 (n+1) (nu n f (cT t.op.knockout o.operator o.mode m p t.acc t.back))) bx) (nx+3):=by
 have hl:=Sh hf;have hst:aA Sg 193 [.c (.p (f n 11)),I o.operator,I o.mode,U m,ag (aS p),ag [f n 12,f n 13,f n 14,f n 15,f n 16,f n 17],ag [f n 18,f n 19,f n 20,f n 21,f n 22]] (fun r=>r = .tup [ag (cO (cT t.op.knockout o.operator o.mode m p t.acc t.back)),B true]):=by
  obtain ⟨e0,e1,e2,e3,e4,e5,e6,e7,e8,e9,e10,e11,e12,e13,e14,e15,e16,e17,e18,e19,e20,e21,e22⟩:=hl;rw [e11,e12,e13,e14,e15,e16,e17,e18,e19,e20,e21,e22];exact QA t.op.knockout o.operator o.mode m p t.acc t.back hm ho hmo hp hv hko
 have e:bx=aJ b (.fix [.p (PU m), .own k (n+1)]) (aJ k (.arr 206 23 (n+1) f) bx):=by rw [← dv hk];exact dv hb
 have ht:True:=trivial;generalize cT t.op.knockout o.operator o.mode m p t.acc t.back=q at *
 refine ku Tryz.func178 rfl (rs:=[.tmp 6]) rfl rfl fG (by decide +kernel) (Nat.le_of_ble_eq_true rfl) ?_ (fun kf => ?_)
 ·intro v hv;simp only [List.mem_cons,List.not_mem_nil,or_false] at hv;rcases hv with rfl|rfl|rfl
  ·exact hbn
  ·exact fun c hc=>by (obtain ⟨x,_,rfl⟩:=List.mem_map.1 hc;trivial)
  ·exact fun c hc=>by (obtain ⟨x,_,rfl⟩:=List.mem_map.1 hc;trivial)
 rw [e];repeat' (first|(((with_reducible refine bT (id:=2) [] (by decide +kernel) (by decide +kernel) ?_ (fun K hK => ?_));exact dK);(try simp (maxSteps:=999999)(disch:=omega) only [go_sem]);and_intros;(all_goals first|(refine hK _ bG ?_;clear hK K)|exact ai|skip))|((first|refine an (fun K hK => ?_)|refine jS (k:=k) (qD m n f hn) trivial ?_|refine aa (hst) ?_);and_intros;all_goals first|(refine hK _ ?_;clear hK K)|try exact ai))
 refine hK _ trivial ?_;clear hK;repeat' (first|refine ah ht ?_|((with_reducible refine IG (id:=4) [] ?_ (fun K hK => ?_));exact dK;refine dz ?_)|refine ax ?_|refine an (fun K hK => ?_)|(refine aq hK ?_;try clear hK K)|(refine Bi hK ?_;try clear hK K))
 refine AZ (bx:=aJ b (.fix [.p (PU m), .own k (n+1)]) (aJ k (.arr 206 23 (n+1) f) bx)) (nx:=nx) ?_ ?_ (fun i hi h1 => ?_)
 ·rw [← e];exact hw
 ·refine dz ?_;rfl
 ·exact bG
end
section
attribute [local go_sem] cO LL fX Int.toNat_natCast cA
theorem wg {st : St} {K : SV → St → Prop} (b k n : Nat) (f : Nat → Nat → PV) (m : Int) (o : Op) (p : Pixel) (t : Lv)
  (hb:st.bx b=some (.fix [.p (PU m), .own k (n+1)])) (hk:st.bx k=some (.arr 206 23 (n+1) f)) (hbn:b<st.nx) (hkn:k<st.nx) (hbk:b≠k) (hn:n≤1000) (hf:jE (f n) t)
  (hm:Full m) (ho:1≤o.operator∧o.operator≤12) (hmo:1≤o.mode∧o.mode≤12) (hp:PixV p m) (hv:AccV t.acc t.back m) (hko:t.op.knockout=true→o.operator=4) (hw:∀ i,st.nx≤i→st.bx i=none)
  (hK:K (.b (B true)) (st.turn (aJ k (.arr 206 23 (n+1) (nu n f (cT t.op.knockout o.operator o.mode m p t.acc t.back))) st.bx) (st.nx+3))) :
  en Sg st 178 [.c (.ptr b 0),ag (fZ o),ag (aS p)] (Sl.of K):=by
 refine eT (IC st.bx st.nx b k n f m o p t hb hk hbn hkn hbk hn hf hm ho hmo hp hv hko hw) rfl (fun i hi => ?_) (by omega) hK;unfold aJ;rw [if_neg (by omega)];exact hw i (by omega)
theorem Kz (bx : Nat → Option Bx) (nx b k n : Nat) (f : Nat → Nat → PV) (m : Int) (o : Op) (p : Pixel) (ms : Int) (t : Lv)
  (hb:bx b=some (.fix [.p (PU m), .own k (n+1)])) (hk:bx k=some (.arr 206 23 (n+1) f)) (hbn:b<nx) (hkn:k<nx) (hbk:b≠k) (hn:n≤1000) (hf:jE (f n) t)
  (hm:Full m) (hkd:o.kind=1) (ho:1≤o.operator∧o.operator≤12) (hmo:1≤o.mode∧o.mode≤12) (hop:0≤o.opacity∧o.opacity≤m) (hp:PixV p m) (hms:0≤ms∧ms≤m) (hv:AccV t.acc t.back m) (hko:t.op.knockout=true→o.operator=4) (hw:∀ i,nx≤i→bx i=none) :
  lU Sg bx nx 142 [.c (.ptr b 0),ag (fZ o),ag (aS p),U ms] (.tup [ag (aS (aM m o p ms)),I 0]) (aJ k (.arr 206 23 (n+1) (nu n f (cT t.op.knockout o.operator o.mode m (aM m o p ms) t.acc t.back))) bx) (nx+7):=by
 have hsc:=zx m o p ms hm hp hms.1 hms.2 hop.1 hop.2;have hsv:=oI (o:=o) hm hp hms.1 hms.2 hop.1 hop.2;have e:bx=aJ b (.fix [.p (PU m), .own k (n+1)]) (aJ k (.arr 206 23 (n+1) f) bx):=by rw [← dv hk];exact dv hb
 have g:(o.kind != 1)=false:=by rw [bne_eq_false_iff_eq];exact hkd
 generalize aM m o p ms=q at *
 refine ku Tryz.func142 rfl (rs:=[.cell 8 37, .tmp 9]) rfl rfl fG (by decide +kernel) (Nat.le_of_ble_eq_true rfl) ?_ (fun kf => ?_)
 ·intro v hv;simp only [List.mem_cons,List.not_mem_nil,or_false] at hv;rcases hv with rfl|rfl|rfl|rfl
  ·exact hbn
  ·exact fun c hc=>by (obtain ⟨x,_,rfl⟩:=List.mem_map.1 hc;trivial)
  ·exact fun c hc=>by (obtain ⟨x,_,rfl⟩:=List.mem_map.1 hc;trivial)
  ·trivial
 rw [e];repeat' (first|(((with_reducible refine bT (id:=1) [] (by decide +kernel) (by decide +kernel) ?_ (fun K hK => ?_));exact dK);(try simp (maxSteps:=999999)(disch:=omega) only [go_sem]);and_intros;(all_goals first|(refine hK _ bG ?_;clear hK K)|exact ai|skip))|((first|refine an (fun K hK => ?_)|refine aa (hsc) ?_);and_intros;all_goals first|(refine hK _ ?_;clear hK K)|try exact ai))
 refine hK _ trivial ?_;clear hK;repeat' (first|refine ah g ?_|refine ax ?_|refine an (fun K hK => ?_)|(refine aq hK ?_;try clear hK K))
 refine wg b k n f m o q t ?_ ?_ ?_ ?_ hbk hn hf hm ho hmo hsv hv hko ?_ ?_
 ·exact bG
 ·exact bG
 ·exact bG
 ·exact bG
 ·intro iw hiw
  (try simp (maxSteps:=999999)(disch:=omega) only [go_sem] at hiw ⊢)
  (repeat (refine Eq.trans (if_neg ?_) ?_;(focus omega)))
  exact hw iw (by omega)
 refine dz ?_;refine hK _ ?_;clear hK;repeat' (first|refine ah g ?_|refine aC ?_)
 refine ⟨rfl,AZ (bx:=aJ b (.fix [.p (PU m), .own k (n+1)]) (aJ k (.arr 206 23 (n+1) f) bx)) (nx:=nx) ?_ ?_ (fun i hi h1 => ?_)⟩
 ·rw [← e];exact hw
 ·exact bG
 ·exact bG
end
section
attribute [local go_sem] qE ks
theorem Xn (x:Ex) (h:ExOk x):aA Sg 215 [ag (ks x),cm (cE x)] (fun r=>r = .b (B (nU x 2 (2 * cE x+1)))):=by
 obtain ⟨p0,p1,q0,q1,r0,r1,d0,d1,_⟩:=id h;have hES:ExS x:=⟨p0,p1,q0,by omega,r0,r1,by omega,d1⟩
 have hs:=sI hES;obtain ⟨_,_,f0,f1⟩:=iG h;obtain ⟨k,ek⟩:∃ k,(2 * cE x+1) * x.d - 2 * x.p=k:=⟨_,rfl⟩
 have hu:=TK ek;generalize nU x 2 (2 * cE x+1)=b at *
 generalize cE x=F at *
 have hm:0≤(2 * F+1) * x.d∧(2 * F+1) * x.d≤9223372036854775807 * 18446744073709551615:=⟨ao (by omega) (by omega),az (by omega) (by omega) (by omega) (by omega)⟩
 have h1:=si x.p 2 p0 ⟨by decide,by decide⟩ (by omega) (by omega);rw [Int.mul_comm x.p 2] at h1;have h2:=kj (2 * F+1) x.d ⟨by omega,by omega⟩ ⟨by omega,d1⟩;have hq:=sG x hES;have ht:True:=trivial;by_cases c:(2 * F+1) * x.d<2 * x.p
 ·have h3:=Ou ((2 * F+1) * x.d) (2 * x.p) ⟨hm.1,by omega⟩ ⟨by omega,by omega⟩ c;have hb:b=true:=hu.2 (.inl (by omega));rw [hb];generalize (2 * F+1) * x.d=M at *
  refine aD Tryz.func215 [.tmp 4] ?_;repeat' (first|((with_reducible refine bN (id:=1) (fun K hW => ?_));(try simp (maxSteps:=999999)(disch:=omega) only [go_sem]);and_intros;all_goals first|(refine hK _ ?_;clear hK K)|try exact ai)|refine an (fun K hK => ?_)|refine aa (h1) ?_|(refine aq hK ?_;try clear hK K))
  refine hW _ (aT [(1, .b (cm F)),(2, .b (.c (.ptr 0 0))),(5, .b (.c (.ptr 1 0)))] [(0, .fix ((ks x).map CV.p)),(1, .fix ((qE (2 * x.p)).map CV.p))] 2) ?_ ?_
  ·refine au [(1,some 1)] ?_ ?_;and_intros;all_goals try exact aj
  clear hW;refine fw (id:=2) (.br 0 (.br 1 (.br 2 (.br 3 (.br 4 (.br 6 (.br 5 (.br 7 (.br 8 (.br 9 (.br 10 (.br 11 (.br 12 (.br 13 .leaf .nil) .nil) .nil) .nil) .nil) .nil) (.br 11 (.br 7 (.br 8 (.br 9 (.br 10 (.br 12 (.br 13 .leaf .nil) .nil) .nil) .nil) .nil) .nil) .nil)) (.br 11 (.br 5 (.br 7 (.br 8 (.br 9 (.br 10 (.br 12 (.br 13 .leaf .nil) .nil) .nil) .nil) .nil) .nil) .nil) .nil)) .nil) .nil) .nil) .nil) .nil) .nil) (by decide +kernel) dK (fun K0 hW => ?_);refine (fun (tl:∀ st,Le st (aT [(8, .b (B false))] [] 1)→K0 st) => ?_) (fun st hl=>hW st _ hl ?_)
  ·clear hW;repeat' (first|exact cg|(refine cH (fun K' hK' => ?_) ?_)|(refine bJ (tl _ ?_);clear tl)|((first|refine aa (h2) ?_|refine aa (h3) ?_);(try simp (maxSteps:=999999)(disch:=omega) only [go_sem]);and_intros;(all_goals first|(refine hK' _ ?_;clear hK' K')|trivial|omega|exact Nat.le_of_ble_eq_true rfl|exact ai|skip))|(simp (maxSteps:=999999)(disch:=omega) only [go_sem];and_intros;(all_goals first|(refine hK' _ ?_;clear hK' K')|trivial|omega|exact Nat.le_of_ble_eq_true rfl|exact ai|skip)))
   all_goals
    refine au [] ?_ ?_;and_intros;all_goals try exact aj
  clear hW;repeat' (first|with_reducible exact bq|refine ah ht ?_|refine aC ?_)
 ·have h3:=NJ ((2 * F+1) * x.d) (2 * x.p) ⟨hm.1,by omega⟩ ⟨by omega,by omega⟩ (by omega);rw [ek] at h3;generalize (2 * F+1) * x.d=M at *
  have h5:=wV k 2 ⟨by omega,by omega⟩ (by decide) (by decide);have hsq:=hs.2.2.2;have hsq0:=hs.2.2.1;have hro:=Bn (x:=x) (n:=k / 2) hES (by omega);have h6:=JD x (k / 2) hES ⟨by omega,by omega⟩;have hok:k % 2=0∨k % 2=1:=by omega
  have hk2:k=2 * (k / 2)+k % 2:=by omega
  generalize k / 2=m at *
  generalize k % 2=o at *
  generalize x.q * x.q * x.r=A at *
  refine aD Tryz.func215 [.tmp 4] ?_;repeat' (first|((with_reducible refine bN (id:=1) (fun K hW => ?_));(try simp (maxSteps:=999999)(disch:=omega) only [go_sem]);and_intros;all_goals first|(refine hK _ ?_;clear hK K)|try exact ai)|refine an (fun K hK => ?_)|refine aa (h1) ?_|(refine aq hK ?_;try clear hK K))
  refine hW _ (aT [(1, .b (cm F)),(2, .b (.c (.ptr 0 0))),(5, .b (.c (.ptr 1 0)))] [(0, .fix ((ks x).map CV.p)),(1, .fix ((qE (2 * x.p)).map CV.p))] 2) ?_ ?_
  ·refine au [(1,some 1)] ?_ ?_;and_intros;all_goals try exact aj
  clear hW;refine fw (id:=2) (.br 0 (.br 1 (.br 2 (.br 3 (.br 4 (.br 6 (.br 5 (.br 7 (.br 8 (.br 9 (.br 10 (.br 11 (.br 12 (.br 13 .leaf .nil) .nil) .nil) .nil) .nil) .nil) (.br 11 (.br 7 (.br 8 (.br 9 (.br 10 (.br 12 (.br 13 .leaf .nil) .nil) .nil) .nil) .nil) .nil) .nil)) (.br 11 (.br 5 (.br 7 (.br 8 (.br 9 (.br 10 (.br 12 (.br 13 .leaf .nil) .nil) .nil) .nil) .nil) .nil) .nil) .nil)) .nil) .nil) .nil) .nil) .nil) .nil) (by decide +kernel) dK (fun K0 hW => ?_);refine (fun (tl:∀ st,Le st (aT [(2, .b (.c (.ptr 0 0))),(7, .b (.c (.ptr 1 0))),(8, .b (B true))] [(0, .fix ((ks x).map CV.p)),(1, .fix ((qE k).map CV.p))] 2)→K0 st) => ?_) (fun st hl=>hW st _ hl ?_)
  ·clear hW;repeat' (first|exact cg|(refine cH (fun K' hK' => ?_) ?_)|(refine bJ (tl _ ?_);clear tl)|((first|refine aa (h2) ?_|refine aa (h3) ?_);(try simp (maxSteps:=999999)(disch:=omega) only [go_sem]);and_intros;(all_goals first|(refine hK' _ ?_;clear hK' K')|trivial|omega|exact Nat.le_of_ble_eq_true rfl|exact ai|skip))|(simp (maxSteps:=999999)(disch:=omega) only [go_sem];and_intros;(all_goals first|(refine hK' _ ?_;clear hK' K')|trivial|omega|exact Nat.le_of_ble_eq_true rfl|exact ai|skip)))
   all_goals
    refine au [(1,some 2)] ?_ ?_;and_intros;all_goals try exact aj
  clear hW;by_cases c1:m / 18446744073709551616>0
  ·have g1:decide (m / 18446744073709551616>0)=true:=decide_eq_true c1;have hmm:18446744073709551616 * 18446744073709551616≤m * m:=az (by omega) (by omega) (by decide) (by omega);have hb:b=false:=by
    rw [← Bool.not_eq_true,hu];rintro (q|⟨_,q⟩)
    ·omega
    ·split at q <;> omega
   rw [hb];repeat' (first|with_reducible exact bq|refine ah g1 ?_|refine ax ?_|refine an (fun K hK => ?_)|refine aa (h5) ?_|(refine aq hK ?_;try clear hK K))
  ·have g1:decide (m / 18446744073709551616>0)=false:=decide_eq_false c1;rcases hok with rfl|rfl
   ·have g2:((0:Int) == 0)=true:=rfl;rw [if_pos rfl] at hu;have hb:b=decide (mT x m≥0):=by
     rw [Bool.eq_iff_iff,hu,decide_eq_true_eq,ge_iff_le,hro];constructor
     ·rintro (q|q)
      ·have:m=0:=by omega
       rw [this];exact hsq0
      ·exact q.2
     ·intro q;rcases Decidable.em (k≤0) with w|w
      ·exact .inl w
      ·exact .inr ⟨by omega,q⟩
    rw [hb];repeat' (first|with_reducible exact bq|refine ah (And.intro g1 g2) ?_|refine ax ?_|refine an (fun K hK => ?_)|refine aa (h5) ?_|refine aa (h6) ?_|(refine aq hK ?_;try clear hK K))
    all_goals skip
   ·have g2:((1:Int) == 0)=false:=rfl;rw [if_neg (by decide)] at hu;have hmm:0≤m * m∧m * m≤18446744073709551615 * 18446744073709551615:=⟨ao (by omega) (by omega),az (by omega) (by omega) (by omega) (by omega)⟩
    have h7:=kj (m % 18446744073709551616) (m % 18446744073709551616) ⟨by omega,by omega⟩ ⟨by omega,by omega⟩;rw [show m % 18446744073709551616 * (m % 18446744073709551616)=m * m by rw [show m % 18446744073709551616=m by omega]] at h7;have h8:=rM (m * m) m hmm.1 (by omega) (by omega);have h9:=zV A (m * m+m);have hb:b=decide (jj A (m * m+m)>0):=by
     rw [Bool.eq_iff_iff,hu,decide_eq_true_eq];unfold jj;constructor
     ·rintro (q|q)
      ·omega
      ·rw [if_neg (by omega),if_neg (by omega)];decide
     ·intro q;refine .inr ⟨by omega, ?_⟩;split at q
      ·omega
      split at q <;> omega
    rw [hb];generalize m * m=mm at *
    repeat' (first|refine ah (And.intro g1 g2) ?_|refine ax ?_|refine an (fun K hK => ?_)|refine aa (h5) ?_|(refine aq hK ?_;try clear hK K))
    refine fw (id:=10) (.br 0 (.br 1 (.br 2 (.br 3 (.br 5 (.br 4 (.br 6 (.br 7 (.br 8 (.br 9 (.br 10 (.br 11 (.br 12 .leaf .nil) .nil) .nil) .nil) .nil) .nil) (.br 10 (.br 6 (.br 7 (.br 8 (.br 9 (.br 11 (.br 12 .leaf .nil) .nil) .nil) .nil) .nil) .nil) .nil)) (.br 10 (.br 4 (.br 6 (.br 7 (.br 8 (.br 9 (.br 11 (.br 12 .leaf .nil) .nil) .nil) .nil) .nil) .nil) .nil) .nil)) .nil) .nil) .nil) .nil) .nil) (by decide +kernel) dK (fun K0 hW => ?_);refine (fun (tl:∀ st,Le st (aT [(2, .b (.c (.ptr 0 0))),(8, .b (B true)),(12, .b (.c (.ptr 1 0)))] [(0, .fix ((ks x).map CV.p)),(1, .fix ((qE (mm+m)).map CV.p))] 2)→K0 st) => ?_) (fun st hl=>hW st _ hl ?_)
    ·clear hW;repeat' (first|exact cg|(refine cH (fun K' hK' => ?_) ?_)|(refine bJ (tl _ ?_);clear tl)|((first|refine aa (h7) ?_|refine aa (h8) ?_);(try simp (maxSteps:=999999)(disch:=omega) only [go_sem]);and_intros;(all_goals first|(refine hK' _ ?_;clear hK' K')|trivial|omega|exact Nat.le_of_ble_eq_true rfl|exact ai|skip))|(simp (maxSteps:=999999)(disch:=omega) only [go_sem];and_intros;(all_goals first|(refine hK' _ ?_;clear hK' K')|trivial|omega|exact Nat.le_of_ble_eq_true rfl|exact ai|skip)))
     all_goals
      refine au [(1,some 3)] ?_ ?_;and_intros;all_goals try exact aj
    clear hW;repeat' (first|(((with_reducible refine bT (id:=11) [] (by decide +kernel) (by decide +kernel) ?_ (fun K hK => ?_));exact dK);(try simp (maxSteps:=999999)(disch:=omega) only [go_sem]);and_intros;(all_goals first|(refine hK _ bG ?_;clear hK K)|exact ai|skip))|((first|refine aw (fun hg=>hq) ?_|refine aw (fun hg=>h9) ?_);and_intros;all_goals first|(refine hK _ ?_;clear hK K)|try exact ai))
    refine hK _ bG ?_;clear hK;repeat' (first|with_reducible exact bq|refine aC ?_)
    all_goals skip
theorem uq (x:Ex) (h:ExOk x):aA Sg 200 [ag (ks x)] (fun r=>r = .tup [cm (hx x),B true]):=by
 have hf:=Iz x h;have hu:=Xn x h;obtain ⟨_,_,f0,f1⟩:=iG h;unfold hx;generalize nU x 2 (2 * cE x+1)=b at *
 generalize cE x=F at *
 cases b
 ·have g1:decide (F≥9223372036854775808)=false:=decide_eq_false (by omega);have g0:false=false:=rfl;refine aD Tryz.func200 [.tmp 2, .tmp 3] ?_;repeat' (first|with_reducible exact bq|refine ah (And.intro g1 g0) ?_|refine ax ?_|refine an (fun K hK => ?_)|refine aa (hf) ?_|refine aa (hu) ?_|(refine aq hK ?_;try clear hK K))
  all_goals skip
 ·have g1:decide (F+1≥9223372036854775808)=false:=decide_eq_false (by omega);have g0:true=true:=rfl;refine aD Tryz.func200 [.tmp 2, .tmp 3] ?_;repeat' (first|with_reducible exact bq|refine ah (And.intro g1 g0) ?_|refine ax ?_|refine an (fun K hK => ?_)|refine aa (hf) ?_|refine aa (hu) ?_|(refine aq hK ?_;try clear hK K))
  all_goals skip
end
section
attribute [local go_sem] qE ks
theorem Ku {p q r d:Int} (h:Q64 p):ks ⟨p,q,r,d⟩=[.val (.int .u64 0), .val (.int .u64 p), .val (.int .u64 q), .val (.int .u64 r), .val (.int .u64 d)]:=by
 obtain ⟨h0,h1⟩:=h;simp only [ks];rw [show p / 18446744073709551616=0 by omega,show p % 18446744073709551616=p by omega]
theorem bO (p d:Int) (h:Q64 p):aA Sg 243 [cm p,cm d] (fun r=>r = .b (ag (ks ⟨p,0,0,d⟩))):=by
 rw [Ku h];refine aD Tryz.func243 [.cell 4 253] ?_;repeat' (refine aC ?_)
 all_goals rfl
structure Sm4 (s a d b:Int):Prop where
 s0:0≤s
 sa:s≤a
 am:a≤65535
 d0:0≤d
 db:d≤b
 bm:b≤65535
theorem DN (s a d b:Int) (t:Bool) (h:Sm4 s a d b) (hr:t=false→2 * (b - d) * (a - s)≤a * b):aA Sg 244 [cm s,cm a,cm d,cm b,B t] (fun r=>r = .b (UQ (if t=true then 2 * s * d else a * b - 2 * (b - d) * (a - s)))):=by
 obtain ⟨s0,sa,am,d0,db,bm⟩:=h;have h1:0≤2 * s * d∧2 * s * d≤131070 * 65535:=⟨ao (by omega) d0,az (by omega) (by omega) d0 (by omega)⟩
 have h2:0≤a * b∧a * b≤65535 * 65535:=⟨ao (by omega) (by omega),az (by omega) (by omega) (by omega) (by omega)⟩
 have h3:0≤2 * (b - d) * (a - s)∧2 * (b - d) * (a - s)≤131070 * 65535:=⟨ao (by omega) (by omega),az (by omega) (by omega) (by omega) (by omega)⟩
 have ht:True:=trivial;cases t
 ·have hr:=hr rfl;refine aD Tryz.func244 [.tmp 10] ?_;repeat' (first|with_reducible exact bq|refine ah ht ?_|refine aC ?_)
  all_goals rfl
 ·refine aD Tryz.func244 [.tmp 10] ?_;repeat' (first|with_reducible exact bq|refine ah ht ?_|refine aC ?_)
  all_goals rfl
theorem Jb (s a d b:Int) (h:Sm4 s a d b):aA Sg 245 [cm s,cm a,cm d,cm b] (fun r=>r = .b (ag (ks (nI s a d b)))):=by
 obtain ⟨s0,sa,am,d0,db,bm⟩:=h;have h1:0≤d * a∧d * a≤65535 * 65535:=⟨ao (by omega) (by omega),az (by omega) (by omega) (by omega) (by omega)⟩
 have h2:0≤a * b∧a * b≤65535 * 65535:=⟨ao (by omega) (by omega),az (by omega) (by omega) (by omega) (by omega)⟩
 have h3:0≤b * (a - s)∧b * (a - s)≤65535 * 65535:=⟨ao (by omega) (by omega),az (by omega) (by omega) (by omega) (by omega)⟩
 have h4:0≤a * a∧a * a≤65535 * 65535:=⟨ao (by omega) (by omega),az (by omega) (by omega) (by omega) (by omega)⟩
 have h5:0≤a * a * d∧a * a * d≤65535 * 65535 * 65535:=⟨ao h4.1 d0,az h4.2 (by omega) d0 (by decide)⟩
 unfold nI;by_cases c1:d=0
 ·have g1:(d == 0)=true:=beq_iff_eq.2 c1;rw [if_pos c1];refine aD Tryz.func245 [.cell 8 253] ?_;repeat' (first|refine ah g1 ?_|refine ax ?_|refine an (fun K hK => ?_)|refine aa (bO 0 1 ⟨by decide,by decide⟩) ?_|(refine aq hK ?_;try clear hK K))
  all_goals rfl
 have g1:(d == 0)=false:=beq_eq_false_iff_ne.2 c1;rw [if_neg c1];by_cases c2:b * (a - s)≤d * a
 ·have g2:decide (d * a≥b * (a - s))=true:=decide_eq_true c2;rw [if_pos c2];refine aD Tryz.func245 [.cell 8 253] ?_;repeat' (first|refine ah (And.intro g1 g2) ?_|refine ax ?_|refine an (fun K hK => ?_)|refine aa (bO (a * b) 1 ⟨by omega,by omega⟩) ?_|(refine aq hK ?_;try clear hK K))
  all_goals rfl
 ·have g2:decide (d * a≥b * (a - s))=false:=decide_eq_false c2;rw [if_neg c2];refine aD Tryz.func245 [.cell 8 253] ?_;repeat' (first|refine ah (And.intro g1 g2) ?_|refine ax ?_|refine an (fun K hK => ?_)|refine aa (bO (a * a * d) (a - s) ⟨by omega,by omega⟩) ?_|(refine aq hK ?_;try clear hK K))
  all_goals rfl
end
section
attribute [local go_sem] qE ks
theorem Nj (s a d b:Int) (h:Sm4 s a d b):aA Sg 246 [cm s,cm a,cm d,cm b] (fun r=>r = .b (ag (ks (qO s a d b)))):=by
 obtain ⟨s0,sa,am,d0,db,bm⟩:=h;have h2:0≤a * b∧a * b≤65535 * 65535:=⟨ao (by omega) (by omega),az (by omega) (by omega) (by omega) (by omega)⟩
 have h3:0≤(b - d) * a∧(b - d) * a≤65535 * 65535:=⟨ao (by omega) (by omega),az (by omega) (by omega) (by omega) (by omega)⟩
 have h4:0≤s * b∧s * b≤65535 * 65535:=⟨ao (by omega) (by omega),az (by omega) (by omega) (by omega) (by omega)⟩
 have h5:0≤a * b * s∧a * b * s≤65535 * 65535 * 65535:=⟨ao h2.1 s0,az h2.2 (by omega) s0 (by decide)⟩
 have h6:0≤(b - d) * a * a∧(b - d) * a * a≤65535 * 65535 * 65535:=⟨ao h3.1 (by omega),az h3.2 (by omega) (by omega) (by decide)⟩
 have ht:=sN s0 sa am d0 db bm;unfold qO at *
 by_cases c1:d=b
 ·have g1:(d == b)=true:=beq_iff_eq.2 c1;rw [if_pos c1];refine aD Tryz.func246 [.cell 8 253] ?_;repeat' (first|refine ah g1 ?_|refine ax ?_|refine an (fun K hK => ?_)|refine aa (bO (a * b) 1 ⟨by omega,by omega⟩) ?_|(refine aq hK ?_;try clear hK K))
  all_goals rfl
 have g1:(d == b)=false:=beq_eq_false_iff_ne.2 c1;rw [if_neg c1] at ht ⊢;by_cases c2:s * b≤(b - d) * a
 ·have g2:decide ((b - d) * a≥s * b)=true:=decide_eq_true c2;rw [if_pos c2];refine aD Tryz.func246 [.cell 8 253] ?_;repeat' (first|refine ah (And.intro g1 g2) ?_|refine ax ?_|refine an (fun K hK => ?_)|refine aa (bO 0 1 ⟨by decide,by decide⟩) ?_|(refine aq hK ?_;try clear hK K))
  all_goals rfl
 ·have g2:decide ((b - d) * a≥s * b)=false:=decide_eq_false c2;rw [if_neg c2] at ht ⊢;have hp:=ht.p0;dsimp only at hp;refine aD Tryz.func246 [.cell 8 253] ?_;repeat' (first|refine ah (And.intro g1 g2) ?_|refine ax ?_|refine an (fun K hK => ?_)|refine aa (bO (a * b * s - (b - d) * a * a) s ⟨by omega,by omega⟩) ?_|(refine aq hK ?_;try clear hK K))
  all_goals rfl
theorem Lc (s a d b:Int) (h:Sm4 s a d b):aA Sg 247 [cm s,cm a,cm d,cm b] (fun r=>r = .b (ag (ks (mE s a d b)))):=by
 obtain ⟨s0,sa,am,d0,db,bm⟩:=h;have ht:=sR s0 sa am d0 db bm;have da:0≤d * a∧d * a≤65535 * 65535:=⟨ao (by omega) (by omega),az (by omega) (by omega) (by omega) (by omega)⟩
 have bb:0≤b * b∧b * b≤65535 * 65535:=⟨ao (by omega) (by omega),az (by omega) (by omega) (by omega) (by omega)⟩
 have p1:0≤16 * d * d∧16 * d * d≤1048560 * 65535:=⟨ao (by omega) (by omega),az (by omega) (by omega) (by omega) (by omega)⟩
 have p2:0≤3 * b * b∧3 * b * b≤196605 * 65535:=⟨ao (by omega) (by omega),az (by omega) (by omega) (by omega) (by omega)⟩
 have p3:0≤12 * d * b∧12 * d * b≤786420 * 65535:=⟨ao (by omega) (by omega),az (by omega) (by omega) (by omega) (by omega)⟩
 have u1:0≤d * a * b∧d * a * b≤65535 * 65535 * 65535:=⟨ao da.1 (by omega),az da.2 bm (by omega) (by omega)⟩
 by_cases h0:b=0
 ·rw [mE,if_pos h0];have g0:(b == 0)=true:=beq_iff_eq.2 h0;refine aD Tryz.func247 [.cell 8 253] ?_;repeat' (first|refine ah g0 ?_|refine ax ?_|refine an (fun K hK => ?_)|refine aa (bO 0 1 ⟨by decide,by decide⟩) ?_|(refine aq hK ?_;try clear hK K))
  all_goals rfl
 have g0:(b == 0)=false:=beq_eq_false_iff_ne.2 h0;by_cases h1:2 * s≤a
 ·rw [mE,if_neg h0,if_pos h1] at ht ⊢;have g1:decide (2 * s≤a)=true:=decide_eq_true h1;have p4:0≤(a - 2 * s) * d∧(a - 2 * s) * d≤65535 * 65535:=⟨ao (by omega) (by omega),az (by omega) (by omega) (by omega) (by omega)⟩
  have u2:0≤(a - 2 * s) * d * (b - d)∧(a - 2 * s) * d * (b - d)≤65535 * 65535 * 65535:=⟨ao p4.1 (by omega),az p4.2 (by omega) (by omega) (by decide)⟩
  have u3:=ht.p0;dsimp only at u3;refine aD Tryz.func247 [.cell 8 253] ?_;repeat' (first|refine ah (And.intro g0 g1) ?_|refine ax ?_|refine an (fun K hK => ?_)|refine aa (bO (d * a * b - (a - 2 * s) * d * (b - d)) b ⟨by omega,by omega⟩) ?_|(refine aq hK ?_;try clear hK K))
  all_goals rfl
 have g1:decide (2 * s≤a)=false:=decide_eq_false h1;by_cases h2:4 * d≤b
 ·rw [mE,if_neg h0,if_neg h1,if_pos h2] at ht ⊢;have g2:decide (4 * d≤b)=true:=decide_eq_true h2;have p4:0≤(2 * s - a) * d∧(2 * s - a) * d≤65535 * 65535:=⟨ao (by omega) (by omega),az (by omega) (by omega) (by omega) (by omega)⟩
  have p5:=sE d0 h2;have u0:d * a * b * b=d * a * (b * b):=Int.mul_assoc _ _ _;have u2:0≤d * a * (b * b)∧d * a * (b * b)≤65535 * 65535 * (65535 * 65535):=⟨ao da.1 bb.1,az da.2 bb.2 bb.1 (by omega)⟩
  have u3:0≤(2 * s - a) * d * (16 * d * d+3 * b * b - 12 * d * b):=ao p4.1 p5.1;have u4:=ht.le;dsimp only at u4;have hab:a * b * (b * b)≤65535 * 65535 * (65535 * 65535):=az (az am bm (by omega) (by decide)) bb.2 bb.1 (by decide);rw [← u0] at u2 u4 ⊢;refine aD Tryz.func247 [.cell 8 253] ?_;repeat' (first|refine ah (And.intro g0 (And.intro g1 g2)) ?_|refine ax ?_|refine an (fun K hK => ?_)|refine aa (bO (d * a * b * b+(2 * s - a) * d * (16 * d * d+3 * b * b - 12 * d * b)) (b * b) ⟨by omega,by omega⟩) ?_|(refine aq hK ?_;try clear hK K))
  all_goals rfl
 have g2:decide (4 * d≤b)=false:=decide_eq_false h2;rw [mE,if_neg h0,if_neg h1,if_neg h2] at ht ⊢;have p4:0≤2 * d * (a - s)∧2 * d * (a - s)≤131070 * 65535:=⟨ao (by omega) (by omega),az (by omega) (by omega) (by omega) (by omega)⟩
 have p5:0≤d * b∧d * b≤65535 * 65535:=⟨ao (by omega) (by omega),az (by omega) (by omega) (by omega) (by omega)⟩
 rw [Ku ⟨p4.1,by omega⟩];refine aD Tryz.func247 [.cell 8 253] ?_;repeat' (first|refine ah (And.intro g0 (And.intro g1 g2)) ?_|refine ax ?_|refine an (fun K hK => ?_)|refine aa (bO (2 * d * (a - s)) 1 ⟨by omega,by omega⟩) ?_|(refine aq hK ?_;try clear hK K))
 rw [show 2 * d * (a - s) / 18446744073709551616=0 by omega,show 2 * d * (a - s) % 18446744073709551616=2 * d * (a - s) by omega];rfl
end
end Go.Proofs.YtcbifofjjpfbcaaGreatDoor
