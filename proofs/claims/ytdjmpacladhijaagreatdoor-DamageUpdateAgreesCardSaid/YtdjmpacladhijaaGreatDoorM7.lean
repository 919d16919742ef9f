/- Part of the proof: F14, F9, T1, T2, T3, T4, D1, D2, FB, W1, W3. -/
import Derived.Test.YtdjmpacladhijaaGreatDoorM5
set_option linter.unusedSimpArgs false
set_option linter.unusedVariables false
set_option maxHeartbeats 4000000
set_option maxRecDepth 16000
namespace Go.Proofs.YtdjmpacladhijaaGreatDoor
open Go Go.SL
open Go.RowKit (wrap64)
def oz (x:List Int) (n:Int) (i:Nat):Bool:=decide (0≤x.getD i 0∧x.getD i 0<n) && !(x.take i).contains (x.getD i 0)
def fC (l:List Int) (n:Int):List Int:=if l.length=0 then nO n.toNat else l
def gj (l:List Int) (n:Int):Bool:=decide (0≤n∧n≤16777216∧(l.length=0∨l.length=n)) && (List.range n.toNat).all (oz (fC l n) n)
def oO (l:List Int) (n:Int):List Int:=if gj l n=true then fC l n else []
theorem Eb {n i:Nat} (h:i<n):(nO n).getD i 0=i:=by simp [nO,h]
theorem nf {l:List Int} {n:Int} (h0:0≤n) (h:l.length=0∨l.length=n):(fC l n).length=n.toNat:=by grind [fC,nO,kS]
theorem IZ {l:List Int} {n:Int} {i:Nat} (h0:0≤n) (hi:(i:Int)<n) (h:oz (fC l n) n i=false):gj l n=false:=by grind [gj]
def HJ (x:List Int) (i:Nat):Nat→Nat→PV:=fun a _=>PB ((x.take i).contains (a:Int))
theorem DE {x:List Int} {i:Nat} (hi:i<x.length) (h0:0≤x.getD i 0) (a j:Nat):(if a=(x.getD i 0).toNat then PB true else HJ x i a j)=HJ x (i+1) a j:=by
 have e:x.take (i+1)=x.take i ++ [x.getD i 0]:=by rw [List.take_add_one,List.getElem?_eq_getElem hi,List.getD_eq_getElem?_getD,List.getElem?_eq_getElem hi];rfl
 grind [HJ]
theorem nH (l : List Int) (n : Int) (hl : l.length ≤ 4611686018427387904) :
  aB Sg 102 [.c (.p (dq l)),I n] (fun r=>r = .tup [.c (.p (dq (oO l n))),B (gj l n)]):=by
 refine bo ?_;refine az Tryz.func102 [.tmp 4, .tmp 5] ?_
 repeat' (first|refine aC ?_|(refine aH (fun hb => ?_) (fun hb => ?_) <;> try exact ax))
 ·have:gj l n=false:=by rw [gj,decide_eq_false (by omega)];rfl
  rw [oO,this];exact cJ ⟨fg bP,cD trivial,trivial⟩
 refine aK (X:=Nat) (fun i=>aP [(0, .b (.c (.p (dq l)))),(1, .b (I n)),(6, .b (.c (.own 1 n.toNat))),(7, .b (.c (.own 2 n.toNat))),(31, .b (I n)),(32, .b (I i))]
  [(1, .arr 3 1 n.toNat (fun a _=>PI (if a<i then (fC l n).getD a 0 else 0))),(2, .arr 4 1 n.toNat (HJ (fC l n) i))] 3) (fun i=>(i:Int)≤n∧∀ k,k<i→oz (fC l n) n k=true) (fun i=>n.toNat - i) 0 ?_ ?_ ?_
 ·grind
 ·refine ar [(1,some 0),(2,some 1)] ?_ ?_;and_intros;all_goals try exact ak
  ·grind
  ·grind [PV.le,PV.le_refl]
  ·refine .inr fun a ha j hj => ?_;have:j=0:=by omega
   subst this;exact PV.le_refl _
 ·rintro i ⟨hi,hok⟩;have hx:i<n.toNat→(0≤n∧(l.length=0∨l.length=n))→(if 0<(l.length:Int) then l.getD (i:Int).toNat default else (i:Int))=(fC l n).getD i 0:=fun h1 h2=>by grind [fC,nO,Eb]
  repeat' (first|refine bL ?_|(refine an (fun K hK => ?_);and_intros;all_goals first|(refine hK _ ?_;clear hK K)|try exact ai)|(apply dC;(case hf=>rfl);(case hc=>exact du);(all_goals first|(intro hb;(try simp only [nR] at hb))|skip))|exact bd|(refine aH (fun hb => ?_) (fun hb => ?_);all_goals try exact ax)|(refine bF ?_;(try clear hB KB);(try clear hK K)))
  ·rw [hx (by omega) (by omega)] at hb;have:gj l n=false:=by
    refine IZ (i:=i) (by omega) (by omega) ?_;rw [oz];by_cases h1:0≤(fC l n).getD i 0∧(fC l n).getD i 0<n
    ·grind
    ·grind
   rw [oO,this];exact cJ ⟨fg bP,cD trivial,trivial⟩
  ·rw [hx (by omega) (by omega)] at hb;rw [ae];refine ao (i+1) ?_ ⟨by omega,fun k hk => ?_⟩ (by omega)
   ·have hlen:=nf (l:=l) (n:=n) (by omega) (by omega);refine ar [(1,some 1),(2,some 2)] ?_ ?_;and_intros;all_goals try exact ak
    ·refine .inr fun a ha j hj => ?_;have:j=0:=by omega
     subst this;have e:∀ p:Prop,[Decidable p]→(if p then PI (l.getD (i:Int).toNat default) else PI (i:Int))=PI (if p then l.getD (i:Int).toNat default else (i:Int)):=fun p _=>by grind
     by_cases h:a=i
     ·grind [fC,PV.le,PV.le_refl]
     grind [PV.le,fC,PV.le_refl]
    ·refine .inr fun a ha j hj => ?_;have:j=0:=by omega
     subst this;simp only [gt_iff_lt,hx (by omega) (by omega)];rw [← DE (by omega) hb.1.1];grind [PV.le,fC,PV.le_refl]
   grind [oz]
  ·have e:gj l n=true:=by
    rw [gj,decide_eq_true (by omega),Bool.true_and,List.all_eq_true];exact fun k hk=>hok k (by grind)
   have hlen:=nf (l:=l) (n:=n) (by omega) (by omega);rw [oO,if_pos e,e,hlen];refine cJ ⟨fg (gX fun a ha j hj => ?_),cD trivial,trivial⟩;have:j=0:=by omega
   subst this;rw [if_pos (by omega)];rfl
def cZ (o:Op):Bool :=
 if o.kind=3 then decide (o.image=0∧o.x=0∧o.y=0∧o.mask=0∧o.maskX=0∧o.maskY=0∧o.opacity=0∧o.operator=0∧o.mode=0∧o.isolated=false∧o.knockout=false)
 else if o.kind=1∧(o.isolated=true∨o.knockout=true) then false
 else if o.kind=2∧(o.image≠0∨o.x≠0∨o.y≠0) then false
 else decide (o.mask≠0∨o.maskX=0∧o.maskY=0)
theorem IW (o:Op):aB Sg 160 [ag (cC o)] (fun x=>x = .b (B (cZ o))):=by
 refine az Tryz.func160 [.tmp 2] ?_
 repeat' (first|refine aC ?_|(refine aH (fun hb => ?_) (fun hb => ?_) <;> try exact ax))
 ·refine ga ?_;rw [cZ,if_pos hb];simp only [hb,Bool.and_true,Bool.and_eq_true,beq_iff_eq,Bool.not_eq_true',decide_eq_true_eq,true_and]
 ·rw [cZ,if_neg (by omega),if_pos hb]
 ·rename_i h1 h2;rw [cZ,if_neg h1,if_neg (fun h=>by have:=h2 h.1;simp [this.1,this.2] at h),if_pos (by omega)]
 ·rename_i h1 h2;refine ga ?_;rw [cZ,if_neg h1,if_neg (fun h=>by have:=h2 h.1;simp [this.1,this.2] at h),if_neg (by omega)];simp only [Bool.or_eq_true,Bool.and_eq_true,beq_iff_eq,bne_iff_ne,decide_eq_true_eq,ne_eq]
theorem FQ (l:List Op) (hl:l.length≤4611686018427387904):aB Sg 163 [.c (.p (kU l))] (fun x=>x = .b (B (l.isEmpty || ((l.getD (l.length - 1) default).isolated && !(l.getD (l.length - 1) default).knockout)))):=by
 refine az Tryz.func163 [.tmp 2] ?_
 repeat' (first|refine aC ?_|(refine aH (fun hb => ?_) (fun hb => ?_) <;> try exact ax))
 ·have:l=[]:=List.eq_nil_of_length_eq_zero (by omega);subst this;rfl
 ·have h1:((l.length:Int) - 1).toNat=l.length - 1:=by omega
  have h2:l.isEmpty=false:=by cases l <;> simp_all
  rw [h1,h2];rfl
theorem DR (l:List Int) (hl:l.length≤4611686018427387904):aB Sg 131 [.c (.p (dq l))] (fun x=>x = .b (B (bu 1048576 l))):=by
 refine az Tryz.func131 [.tmp 2] ?_;repeat' (refine aC ?_)
 refine aK (X:=Nat) (fun i=>aP [(5, .b (.c (.p (dq l)))),(6, .b (I l.length)),(7, .b (I i))] [] 1) (fun i=>i≤l.length∧(l.take i).all (fun v=>decide (-1048576≤v∧v≤1048576))=true) (fun i=>l.length - i) 0 ?_ ?_ ?_
 ·exact ⟨by omega,rfl⟩
 ·refine ar [] ?_ ?_;and_intros;all_goals try exact ak
 ·rintro i ⟨hi,ht⟩
  repeat' (first|refine aC ?_|(refine aH (fun hb => ?_) (fun hb => ?_) <;> try exact ax))
  ·have:bu 1048576 l=false:=by
    rw [bu,List.all_eq_false];refine ⟨l.getD i default, ?_, ?_⟩
    ·rw [List.getD_eq_getElem?_getD,List.getElem?_eq_getElem (by omega)];exact List.getElem_mem _
    ·simp only [decide_eq_true_eq];simp only [Int.toNat_natCast] at hb;omega
   rw [this]
  ·rw [ae];refine ao (i+1) ?_ ⟨by omega, ?_⟩ (by omega)
   ·refine ar [] ?_ ?_;and_intros;all_goals try exact ak
   ·rw [List.take_add_one,List.all_append,ht,List.getElem?_eq_getElem (by omega)];simp only [Int.toNat_natCast,List.getD_eq_getElem?_getD,List.getElem?_eq_getElem (show i<l.length by omega),Option.getD_some] at hb;simp only [Option.toList_some,List.all_cons,List.all_nil,Bool.and_true,Bool.true_and,decide_eq_true_eq];omega
  ·have:bu 1048576 l=true:=by
    rw [bu]
    rwa [List.take_of_length_le (by omega)] at ht
   rw [this]
def cn (n d:Int):Int:=if d=0 then 0 else if n % d≥d - n % d then n / d+1 else n / d
theorem mQ {n d:Int} (hd:0<d):2 * (d * cn n d)≤2 * n+d∧2 * n<2 * (d * cn n d)+d:=by
 have h1:=Int.mul_ediv_add_emod n d;have h2:=Int.emod_nonneg n (show d≠0 by omega);have h3:=Int.emod_lt_of_pos n hd;unfold cn;rw [if_neg (by omega)];split
 ·grind
 ·omega
theorem tf {n d k:Int} (hd:0<d) (h1:2 * (d * k)≤2 * n+d) (h2:2 * n<2 * (d * k)+d):cn n d=k:=by
 obtain ⟨a1,a2⟩:=mQ (n:=n) hd;rcases Int.lt_trichotomy (cn n d) k with h|h|h
 ·have:=Int.mul_le_mul_of_nonneg_left (show cn n d+1≤k by omega) (Int.le_of_lt hd);grind
 ·exact h
 ·have:=Int.mul_le_mul_of_nonneg_left (show k+1≤cn n d by omega) (Int.le_of_lt hd);grind
theorem lf {n n' d:Int} (hd:0<d) (h:n≤n'):cn n d≤cn n' d:=by
 obtain ⟨a1,a2⟩:=mQ (n:=n) hd;obtain ⟨b1,b2⟩:=mQ (n:=n') hd;refine Int.not_lt.1 fun q => ?_;have:=Int.mul_le_mul_of_nonneg_left (show cn n' d+1≤cn n d by omega) (Int.le_of_lt hd);grind
theorem fA {d k:Int} (hd:0<d):cn (d * k) d=k:=tf hd (by omega) (by omega)
theorem kr {d:Int} (hd:0<d):cn 0 d=0:=by simp_all [cn]
theorem fj {n d:Int} (hd:0<d) (h:0≤n):0≤cn n d:=by
 have:=lf hd h
 rwa [kr hd] at this
theorem wg {n d k:Int} (hd:0<d) (h:n≤d * k):cn n d≤k:=by
 have:=lf hd h
 rwa [fA hd] at this
structure Ex where
 p:Int
 q:Int
 r:Int
 d:Int
 deriving DecidableEq,Inhabited
def pa (x:Ex) (t n:Int):Bool:=decide (n * x.d≤t * x.p∨(n * x.d - t * x.p) * (n * x.d - t * x.p)≤t * x.q * (t * x.q) * x.r)
theorem nZ {a b:Int} (ha:0≤a) (h:a≤b):a * a≤b * b:=Int.mul_le_mul h h ha (by omega)
theorem a5D {a b:Int} (hb:0≤b) (h:a * a≤b * b):a≤b:=by
 refine Int.not_lt.1 fun q => ?_;have h1:=Int.mul_lt_mul_of_pos_left q (show 0<a by omega);have h2:=Int.mul_le_mul_of_nonneg_right (Int.le_of_lt q) hb;omega
theorem vy {x:Ex} {t n n':Int} (hd:0≤x.d) (h:pa x t n'=true) (hn:n≤n'):pa x t n=true:=by
 simp only [pa,decide_eq_true_eq] at *
 have hm:=Int.mul_le_mul_of_nonneg_right hn hd;rcases h with h|h
 ·omega
 ·rcases Int.le_total (n * x.d) (t * x.p) with q|q
  ·omega
  ·exact .inr (Int.le_trans (nZ (by omega) (by omega)) h)
def zK (t:Int→Bool):Nat→Int→Int
 | 0,n=>n
 | i+1,n=>zK t i (if t (n+2 ^ i)=true then n+2 ^ i else n)
theorem zX {t:Int→Bool} (hm:∀ a b,a≤b→t b=true→t a=true):∀ (i:Nat) (n:Int),t n=true→t (n+2 ^ i)=false→t (zK t i n)=true∧t (zK t i n+1)=false∧n≤zK t i n∧zK t i n<n+2 ^ i
 | 0,n,h1,h2=>⟨h1,h2,Int.le_refl _,by grind [zK]⟩
 | i+1,n,h1,h2=>by
  have e:(2:Int) ^ (i+1)=2 ^ i+2 ^ i:=by rw [Int.pow_succ];omega
  have hp:(0:Int)<2 ^ i:=Int.pow_pos (by decide);rw [e] at h2 ⊢;rw [show zK t (i+1) n=zK t i (if t (n+2 ^ i)=true then n+2 ^ i else n) from rfl];split
  ·rename_i h;have:=zX hm i _ h (by grind);grind
  ·rename_i h;have:=zX hm i _ h1 (by grind);grind
def en (x:Ex):Int:=zK (pa x 1) 63 0
def hx (x:Ex):Int:=if pa x 2 (2 * en x+1)=true then en x+1 else en x
structure ExOk (x:Ex):Prop where
 p0:0≤x.p
 p1:x.p<79228162514264337593543950336
 q0:0≤x.q
 q1:x.q<70368744177664
 r0:0≤x.r
 r1:x.r<8589934592
 d0:1≤x.d
 d1:x.d<18446744073709551616
 b:pa x 1 4611686018427387904=false
theorem ki {x:Ex} (h:ExOk x):pa x 1 (en x)=true∧pa x 1 (en x+1)=false∧0≤en x∧en x<4611686018427387904:=by
 have hm:∀ a b,a≤b→pa x 1 b=true→pa x 1 a=true:=fun a b hab hb=>vy (by have:=h.d0;omega) hb hab;have h0:pa x 1 0=true:=by
  have:=h.p0;simp only [pa,decide_eq_true_eq];omega
 have h63:pa x 1 (0+2 ^ 63)=false:=by
  rw [← Bool.not_eq_true];intro q;have:=hm 4611686018427387904 _ (by decide) q;rw [h.b] at this;cases this
 obtain ⟨a,b,c,d⟩:=zX hm _ _ h0 h63;refine ⟨a,b,c,Int.not_le.1 fun q => ?_⟩;have:=hm _ _ q a;rw [h.b] at this;grind
theorem mH {x:Ex} (h:ExOk x):pa x 2 (2 * hx x - 1)=true∧pa x 2 (2 * hx x+1)=false∧0≤hx x:=by
 obtain ⟨h1,h2,h3,h4⟩:=ki h;have hd:=h.d0;have dbl:∀ n,pa x 1 n=pa x 2 (2 * n):=fun n=>by grind [pa]
 grind [pa,hx,en,vy]
theorem LI {x:Ex} (h:ExOk x) {k:Int} (h1:pa x 2 (2 * k - 1)=true) (h2:pa x 2 (2 * k+1)=false):hx x=k:=by
 obtain ⟨a1,a2,_⟩:=mH h;have hd:=h.d0;grind [hx,pa,vy]
theorem a0M {x:Ex} {n m:Int} (h:ExOk x) (hm:0<m) (h1:x.p * m≤n * x.d) (h2:x.q * x.q * x.r * (m * m)≤(n * x.d - x.p * m) * (n * x.d - x.p * m)):hx x≤cn n m:=by
 obtain ⟨a1,_,a3⟩:=mH h;obtain ⟨b1,b2⟩:=mQ (n:=n) hm;have hd:=h.d0;have key:(2 * hx x - 1) * m≤2 * n:=by
  simp only [pa,decide_eq_true_eq] at a1;generalize hx x=k at *
  have dm:(2 * k - 1) * m * x.d≤2 * n * x.d:=by
   rcases a1 with a1|a1
   ·have:=Int.mul_le_mul_of_nonneg_right a1 (Int.le_of_lt hm);grind
   ·have e1:((2 * k - 1) * x.d - 2 * x.p) * m * (((2 * k - 1) * x.d - 2 * x.p) * m)=((2 * k - 1) * x.d - 2 * x.p) * ((2 * k - 1) * x.d - 2 * x.p) * (m * m):=by grind
    have e2:=Int.mul_le_mul_of_nonneg_right a1 (Int.le_of_lt (Int.mul_pos hm hm));have e3:2 * (n * x.d - x.p * m) * (2 * (n * x.d - x.p * m))=4 * ((n * x.d - x.p * m) * (n * x.d - x.p * m)):=by grind
    have e4:2 * x.q * (2 * x.q) * x.r * (m * m)=4 * (x.q * x.q * x.r * (m * m)):=by grind
    have e5:=a5D (a:=((2 * k - 1) * x.d - 2 * x.p) * m) (b:=2 * (n * x.d - x.p * m)) (by omega) (by omega);grind
  exact Int.le_of_mul_le_mul_right dm (by omega)
 refine Int.not_lt.1 fun q => ?_;have:=Int.mul_le_mul_of_nonneg_left (show cn n m+1≤hx x by omega) (Int.le_of_lt hm);grind
def nj (s a d b:Int):Int:=if 2 * s≤a then 2 * s * d else a * b - 2 * (b - d) * (a - s)
def pb (s a d b:Int):Ex :=
 if b=0 then ⟨0,0,0,1⟩ else if 2 * s≤a then ⟨d * a * b - (a - 2 * s) * d * (b - d),0,0,b⟩
 else if 4 * d≤b then ⟨d * a * (b * b)+(2 * s - a) * d * (16 * d * d+3 * b * b - 12 * d * b),0,0,b * b⟩ else ⟨2 * d * (a - s),2 * s - a,d * b,1⟩
def qU (s a d b:Int):Ex:=if d=0 then ⟨0,0,0,1⟩ else if b * (a - s)≤d * a then ⟨a * b,0,0,1⟩ else ⟨a * a * d,0,0,a - s⟩
def vZ (s a d b:Int):Ex:=if d=b then ⟨a * b,0,0,1⟩ else if s * b≤(b - d) * a then ⟨0,0,0,1⟩ else ⟨a * b * s - (b - d) * a * a,0,0,s⟩
def aR (mode s a d b:Int):Ex :=
 if mode=1 then ⟨s * b,0,0,1⟩ else if mode=2 then ⟨s * d,0,0,1⟩ else if mode=3 then ⟨s * b+d * a - s * d,0,0,1⟩
 else if mode=4 then ⟨nj d b s a,0,0,1⟩ else if mode=5 then ⟨min (s * b) (d * a),0,0,1⟩ else if mode=6 then ⟨max (s * b) (d * a),0,0,1⟩
 else if mode=7 then qU s a d b else if mode=8 then vZ s a d b else if mode=9 then ⟨nj s a d b,0,0,1⟩ else if mode=10 then pb s a d b
 else if mode=11 then ⟨max (s * b) (d * a) - min (s * b) (d * a),0,0,1⟩ else ⟨s * b+d * a - 2 * s * d,0,0,1⟩
def iD (op a b m:Int):Int :=
 if op=2∨op=4 then m else if op=5∨op=8∨op=11∨op=12 then m - b else if op=6∨op=10 then b else 0
def jy (op a b m:Int):Int :=
 if op=3∨op=5 then m else if op=4∨op=9∨op=10∨op=12 then m - a else if op=7∨op=11 then a else 0
def dR (op mode m cs sl cb ab:Int):Ex :=
 ⟨(aR mode cs sl cb ab).p * iD op sl ab m+(m - ab) * cs * iD op sl ab m * (aR mode cs sl cb ab).d+jy op sl ab m * cb * m * (aR mode cs sl cb ab).d,
  iD op sl ab m * (aR mode cs sl cb ab).q,(aR mode cs sl cb ab).r,m * m * (aR mode cs sl cb ab).d⟩
def dk (op mode m cs sl cb ab:Int):Int:=hx (dR op mode m cs sl cb ab)
def cK (op a b m:Int):Int:=cn (iD op a b m * a+jy op a b m * b) m
def eC (op f g m:Int):Int :=
 if op=2∨op=8∨op=11 then f else if op=3∨op=9∨op=10 then g else if op=4∨op=5∨op=12 then cn (m * f+(m - f) * g) m
 else if op=6∨op=7 then cn (f * g) m else 0
def eG (mode m cs sl fs c cb ab:Int):Ex :=
 ⟨(aR mode cs sl cb ab).p+((m - fs) * c+(fs - sl) * cb+(m - ab) * cs) * (aR mode cs sl cb ab).d,(aR mode cs sl cb ab).q,(aR mode cs sl cb ab).r,m * (aR mode cs sl cb ab).d⟩
def dB (mode m cs sl fs c cb ab:Int):Int:=hx (eG mode m cs sl fs c cb ab)
def dU (m a f acc b:Int):Int:=cn ((m - f) * acc+(f - a) * b+m * a) m
structure Full (m:Int):Prop where
 h:m=255∨m=65535
theorem Full.pos {m:Int} (h:Full m):0<m:=by rcases h.h with q|q <;> omega
theorem Full.le {m:Int} (h:Full m):m≤65535:=by rcases h.h with q|q <;> omega
structure Pre (s a m:Int):Prop where
 s0:0≤s
 sa:s≤a
 am:a≤m
structure TermOk (x:Ex) (a b:Int):Prop where
 p0:0≤x.p
 q0:0≤x.q
 q1:x.q≤65535
 r0:0≤x.r
 r1:x.r≤4294836225
 d0:1≤x.d
 d1:x.d≤4294836225
 le:x.p≤a * b * x.d
 sq:x.q * x.q * x.r≤(a * b * x.d - x.p) * (a * b * x.d - x.p)
theorem au {a b:Int} (ha:0≤a) (hb:0≤b):0≤a * b:=Int.mul_nonneg ha hb
theorem aD {a b c d:Int} (h1:a≤c) (h2:b≤d) (h3:0≤b) (h4:0≤c):a * b≤c * d:=Int.mul_le_mul h1 h2 h3 h4
theorem yG (a:Int):0≤a * a:=by
 rcases Int.le_total 0 a with h|h
 ·exact Int.mul_nonneg h h
 ·exact Int.mul_nonneg_of_nonpos_of_nonpos h h
theorem ef {p a b:Int} (h0:0≤p) (h1:p≤a * b):TermOk ⟨p,0,0,1⟩ a b :=
 ⟨h0,Int.le_refl _,by grind,Int.le_refl _,by grind,by grind,by grind,by grind,by simpa using yG _⟩
theorem tk {p d a b:Int} (hd:1≤d) (hd1:d≤4294836225) (h0:0≤p) (h1:p≤a * b * d):TermOk ⟨p,0,0,d⟩ a b :=
 ⟨h0,Int.le_refl _,by grind,Int.le_refl _,by grind,hd,hd1,h1,by simpa using yG _⟩
theorem qm {s a d b:Int} (hs:0≤s) (hsa:s≤a) (hd:0≤d) (hdb:d≤b):0≤nj s a d b∧nj s a d b≤a * b:=by
 unfold nj;split
 ·have h1:0≤s * d:=au hs hd;have h2:2 * s * d≤a * b:=aD (by omega) hdb hd (by omega);grind
 ·have h1:0≤(b - d) * (a - s):=au (by omega) (by omega);have h2:(b - d) * (2 * (a - s))≤b * a:=aD (by omega) (by omega) (by omega) (by omega);grind
theorem Ad {s a d b:Int} (hs0:0≤s) (hsa:s≤a) (ham:a≤65535) (hd0:0≤d) (hdb:d≤b) (hbm:b≤65535):TermOk (qU s a d b) a b:=by
 have ab0:0≤a * b:=au (by omega) (by omega);unfold qU;split
 ·grind [ef]
 split
 ·grind [ef]
 ·rename_i h1 h2;have has:0<a - s:=by
   refine Int.not_le.1 fun q=>h2 ?_;rw [show a - s=0 by omega,Int.mul_zero];exact au hd0 (by omega)
  refine tk (by omega) (by omega) (au (au (by omega) (by omega)) hd0) ?_;have:=Int.mul_le_mul_of_nonneg_left (show d * a≤b * (a - s) from Int.le_of_lt (Int.not_le.1 h2)) (show 0≤a by omega);grind
theorem xG {s a d b:Int} (hs0:0≤s) (hsa:s≤a) (ham:a≤65535) (hd0:0≤d) (hdb:d≤b) (hbm:b≤65535):TermOk (vZ s a d b) a b:=by
 have ab0:0≤a * b:=au (by omega) (by omega);unfold vZ;split
 ·grind [ef]
 split
 ·grind [ef]
 ·rename_i h1 h2;have hs1:0<s:=by
   refine Int.not_le.1 fun q=>h2 ?_;rw [show s=0 by omega,Int.zero_mul];exact au (by omega) (by omega)
  have h3:a * b * s - (b - d) * a * a=a * (s * b - (b - d) * a):=by grind
  refine tk (by omega) (by omega) ?_ ?_
  ·rw [h3];exact au (by omega) (Int.sub_nonneg_of_le (Int.le_of_lt (Int.not_le.1 h2)))
  ·have:=au (au (show 0≤b - d by omega) (show 0≤a by omega)) (show 0≤a by omega);omega
theorem xe {d b:Int} (hd0:0≤d) (h4:4 * d≤b):0≤16 * d * d+3 * b * b - 12 * d * b∧16 * d * d+3 * b * b - 12 * d * b≤3 * (b * b):=by
 have g1:0≤(b - 4 * d) * (b - 4 * d):=yG _;have g2:0≤(b - 4 * d) * b:=au (by omega) (by omega);have g3:0≤(b - 4 * d) * d:=au (by omega) (by omega);have g4:0≤b * d:=au (by omega) (by omega);grind
theorem wH {s a d b:Int} (hs0:0≤s) (hsa:s≤a) (ham:a≤65535) (hd0:0≤d) (hdb:d≤b) (hbm:b≤65535):TermOk (pb s a d b) a b:=by
 have ab0:0≤a * b:=au (by omega) (by omega);have da0:0≤d * a:=au hd0 (by omega);have da1:d * a≤a * b:=by rw [Int.mul_comm a b];exact aD hdb (Int.le_refl _) (by omega) (by omega)
 unfold pb;split
 ·grind [ef]
 rename_i hb0;split
 ·rename_i hs2;refine tk (by omega) (by omega) ?_ ?_
  ·have h1:(a - 2 * s) * (b - d)≤a * b:=aD (by omega) (by omega) (by omega) (by omega);have h2:=Int.mul_le_mul_of_nonneg_left h1 hd0;grind
  ·have h1:0≤(a - 2 * s) * d * (b - d):=au (au (by omega) hd0) (by omega);have h2:=Int.mul_le_mul_of_nonneg_right da1 (show 0≤b by omega);omega
 rename_i hsa2;split
 ·rename_i h4;have hbb:b * b≤65535 * 65535:=aD (by omega) (by omega) (by omega) (by omega);have hb1:1 * 1≤b * b:=aD (by omega) (by omega) (by omega) (by omega);obtain ⟨hpol,hpol2⟩:=xe hd0 h4;refine tk (by omega) (by omega) ?_ ?_
  ·exact Int.add_nonneg (au da0 (by omega)) (au (au (by omega) hd0) hpol)
  ·have h1:(2 * s - a) * d * (16 * d * d+3 * b * b - 12 * d * b)≤a * d * (3 * (b * b)) :=
    aD (aD (by omega) (Int.le_refl _) hd0 (by omega)) hpol2 hpol (au (by omega) hd0)
   have h2:=Int.mul_le_mul_of_nonneg_left h4 (au (show 0≤a by omega) (show 0≤b * b by omega));grind
 ·rename_i h4;have h1:0≤d * (a - s):=au hd0 (by omega);have h2:d * (a - s)≤b * (a - s):=aD hdb (Int.le_refl _) (by omega) (by omega);have e1:2 * d * (a - s)=2 * (d * (a - s)):=by grind
  have e3:a * b * 1 - 2 * d * (a - s)=(2 * s - a) * b+2 * (b * (a - s) - d * (a - s)):=by grind
  have h3:0≤(2 * s - a) * b:=au (by omega) (by omega);have h4:(2 * s - a) * (2 * s - a) * (d * b)≤(2 * s - a) * (2 * s - a) * (b * b):=Int.mul_le_mul_of_nonneg_left (aD hdb (Int.le_refl _) (by omega) (by omega)) (yG _);have h5:(2 * s - a) * b * ((2 * s - a) * b)≤(a * b * 1 - 2 * d * (a - s)) * (a * b * 1 - 2 * d * (a - s)):=nZ h3 (by omega);have e4:(2 * s - a) * b * ((2 * s - a) * b)=(2 * s - a) * (2 * s - a) * (b * b):=by grind
  have hdb2:d * b≤65535 * 65535:=aD (by omega) (by omega) (by omega) (by omega);rw [e4] at h5;refine ⟨?_, ?_, ?_, ?_, ?_, ?_, ?_, ?_, ?_⟩
  ·grind
  ·grind
  ·grind
  ·exact au hd0 (by omega)
  ·exact hdb2
  ·grind
  ·grind
  ·grind
  grind
theorem nA {p:Prop} [Decidable p] {x y:Ex} {a b:Int} (h1:TermOk x a b) (h2:TermOk y a b):TermOk (if p then x else y) a b:=by grind
theorem lI {mode s a d b m:Int} (hm:Full m) (hs:Pre s a m) (hd:Pre d b m):TermOk (aR mode s a d b) a b:=by
 obtain ⟨hs0,hsa,ham⟩:=hs;obtain ⟨hd0,hdb,hbm⟩:=hd;have hmle:=hm.le;have sb0:0≤s * b:=au hs0 (by omega);have da0:0≤d * a:=au hd0 (by omega);have sd0:0≤s * d:=au hs0 hd0;have sb1:s * b≤a * b:=aD hsa (Int.le_refl _) (by omega) (by omega);have da1:d * a≤a * b:=by rw [Int.mul_comm a b];exact aD hdb (Int.le_refl _) (by omega) (by omega)
 have sd1:s * d≤a * b:=aD hsa hdb hd0 (by omega);have sd2:s * d≤s * b:=aD (Int.le_refl _) hdb hd0 hs0;have sd3:s * d≤d * a:=by rw [Int.mul_comm s d];exact aD (Int.le_refl _) hsa hs0 hd0
 have scr:0≤(a - s) * (b - d):=au (by omega) (by omega);have escr:(a - s) * (b - d)=a * b - s * b - d * a+s * d:=by grind
 have e2:2 * s * d=2 * (s * d):=Int.mul_assoc _ _ _;rw [escr] at scr;have hh1:=qm hs0 hsa hd0 hdb;have hh2:=qm hd0 hdb hs0 hsa;rw [Int.mul_comm b a] at hh2;have t7:=Ad hs0 hsa (by omega) hd0 hdb (by omega);have t8:=xG hs0 hsa (by omega) hd0 hdb (by omega);have t10:=wH hs0 hsa (by omega) hd0 hdb (by omega);have t3:TermOk ⟨s * b+d * a - s * d,0,0,1⟩ a b:=ef (by omega) (by omega);have t5:TermOk ⟨min (s * b) (d * a),0,0,1⟩ a b:=ef (by omega) (by omega);have t6:TermOk ⟨max (s * b) (d * a),0,0,1⟩ a b:=ef (by omega) (by omega);have t11:TermOk ⟨max (s * b) (d * a) - min (s * b) (d * a),0,0,1⟩ a b:=ef (by omega) (by omega);have t12:TermOk ⟨s * b+d * a - 2 * s * d,0,0,1⟩ a b:=ef (by omega) (by omega);exact nA (ef sb0 sb1) (nA (ef sd0 sd1) (nA t3 (nA (ef hh2.1 hh2.2) (nA t5 (nA t6 (nA t7 (nA t8 (nA (ef hh1.1 hh1.2) (nA t10 (nA t11 t12))))))))))
section
theorem mI {op a b m:Int} (ha:0≤a) (ham:a≤m) (hb:0≤b) (hbm:b≤m):0≤iD op a b m∧iD op a b m≤m:=by grind [iD]
theorem oJ {op a b m:Int} (ha:0≤a) (ham:a≤m) (hb:0≤b) (hbm:b≤m):0≤jy op a b m∧jy op a b m≤m:=by grind [jy]
theorem a0N {x : Ex} {A : Int} (p0 : 0 ≤ x.p) (q0 : 0 ≤ x.q) (q1 : x.q < 70368744177664) (r0 : 0 ≤ x.r) (r1 : x.r < 8589934592) (d0 : 1 ≤ x.d) (d1 : x.d < 18446744073709551616)
  (pA:x.p≤A) (sq:x.q * x.q * x.r≤(A - x.p) * (A - x.p)) (hA:A≤131072 * x.d):ExOk x:=by
 refine ⟨p0,by omega,q0,q1,r0,r1,d0,d1, ?_⟩;simp only [pa,decide_eq_false_iff_not,Int.one_mul];rintro (h|h)
 ·omega
 ·have h1:(A - x.p+1) * (A - x.p+1)≤(4611686018427387904 * x.d - x.p) * (4611686018427387904 * x.d - x.p):=nZ (by omega) (by omega);grind
theorem a9v {m:Int} (hm:Full m):m * m≤4294836225∧1≤m * m:=by
 rcases hm.h with rfl|rfl <;> decide
section
variable {op mode m cs sl cb ab:Int}
def wy (op m sl ab:Int):Int:=iD op sl ab m * sl+jy op sl ab m * ab
theorem WT (hm:Full m) (h1:0≤sl) (h2:sl≤m) (h3:0≤ab) (h4:ab≤m):0≤wy op m sl ab∧wy op m sl ab≤131070 * m:=by
 have ⟨a1,a2⟩:=mI (op:=op) h1 h2 h3 h4;have ⟨b1,b2⟩:=oJ (op:=op) h1 h2 h3 h4;have hle:=hm.le;have e1:iD op sl ab m * sl≤m * 65535:=aD a2 (by omega) h1 (by omega);have e2:jy op sl ab m * ab≤m * 65535:=aD b2 (by omega) h3 (by omega);have e3:=au a1 h1;have e4:=au b1 h3;grind [wy]
theorem Gv (hm : Full m) (hs : Pre cs sl m) (hd : Pre cb ab m) :
  0≤(dR op mode m cs sl cb ab).p∧(dR op mode m cs sl cb ab).p≤wy op m sl ab * m * (aR mode cs sl cb ab).d ∧
   (dR op mode m cs sl cb ab).q * (dR op mode m cs sl cb ab).q * (dR op mode m cs sl cb ab).r ≤
    (wy op m sl ab * m * (aR mode cs sl cb ab).d - (dR op mode m cs sl cb ab).p) * (wy op m sl ab * m * (aR mode cs sl cb ab).d - (dR op mode m cs sl cb ab).p):=by
 have ht:=lI (mode:=mode) hm hs hd;obtain ⟨s0,sa,am⟩:=hs;obtain ⟨d0,db,bm⟩:=hd;have ⟨a1,a2⟩:=mI (op:=op) (show 0≤sl by omega) am (show 0≤ab by omega) bm;have ⟨b1,b2⟩:=oJ (op:=op) (show 0≤sl by omega) am (show 0≤ab by omega) bm;have hp:=hm.pos;obtain ⟨p0,q0,q1,r0,r1,dd0,dd1,ple,psq⟩:=ht;unfold dR wy;generalize aR mode cs sl cb ab=t at *
 generalize iD op sl ab m=fa at *
 generalize jy op sl ab m=fb at *
 dsimp only;have k1:0≤fa * ((m - ab) * (sl - cs) * t.d):=au a1 (au (au (by omega) (by omega)) (by omega));have k2:0≤fb * ((ab - cb) * m * t.d):=au b1 (au (au (by omega) (by omega)) (by omega));have k3:0≤fa * (sl * ab * t.d - t.p):=au a1 (by omega);have e:(fa * sl+fb * ab) * m * t.d - (t.p * fa+(m - ab) * cs * fa * t.d+fb * cb * m * t.d)=fa * (sl * ab * t.d - t.p)+fa * ((m - ab) * (sl - cs) * t.d)+fb * ((ab - cb) * m * t.d):=by grind
 refine ⟨?_,by omega, ?_⟩
 ·exact Int.add_nonneg (Int.add_nonneg (au p0 a1) (au (au (au (by omega) s0) a1) (by omega))) (au (au (au b1 d0) (by omega)) (by omega))
 ·rw [e];have h1:fa * (sl * ab * t.d - t.p) * (fa * (sl * ab * t.d - t.p))≤(fa * (sl * ab * t.d - t.p)+fa * ((m - ab) * (sl - cs) * t.d)+fb * ((ab - cb) * m * t.d)) * (fa * (sl * ab * t.d - t.p)+fa * ((m - ab) * (sl - cs) * t.d)+fb * ((ab - cb) * m * t.d)) :=
   nZ k3 (by omega)
  refine Int.le_trans ?_ h1;have h2:=Int.mul_le_mul_of_nonneg_left psq (yG fa);grind
theorem jG (hm:Full m) (hs:Pre cs sl m) (hd:Pre cb ab m):ExOk (dR op mode m cs sl cb ab):=by
 obtain ⟨v0,v1,v2⟩:=Gv (op:=op) (mode:=mode) hm hs hd;have ht:=lI (mode:=mode) hm hs hd;have ⟨n0,n1⟩:=WT (op:=op) hm (show 0≤sl by have:=hs.s0;have:=hs.sa;omega) hs.am (show 0≤ab by have:=hd.s0;have:=hd.sa;omega) hd.am;have ⟨a1,a2⟩:=mI (op:=op) (show 0≤sl by have:=hs.s0;have:=hs.sa;omega) hs.am (show 0≤ab by have:=hd.s0;have:=hd.sa;omega) hd.am;have hmle:=hm.le;have hp:=hm.pos;obtain ⟨mm1,mm2⟩:=a9v hm;refine a0N v0 ?_ ?_ ht.r0 ?_ ?_ ?_ v1 v2 ?_
 ·exact au a1 ht.q0
 ·show iD op sl ab m * (aR mode cs sl cb ab).q<_;have:iD op sl ab m * (aR mode cs sl cb ab).q≤65535 * 65535:=aD (by omega) ht.q1 ht.q0 (by omega);omega
 ·have:=ht.r1;grind [dR,aR]
 ·show 1≤m * m * (aR mode cs sl cb ab).d;have:1 * 1≤m * m * (aR mode cs sl cb ab).d:=aD mm2 ht.d0 (by omega) (by omega);omega
 ·show m * m * (aR mode cs sl cb ab).d<_;have:m * m * (aR mode cs sl cb ab).d≤4294836225 * 4294836225:=aD mm1 ht.d1 (by have:=ht.d0;omega) (by omega);omega
 ·show wy op m sl ab * m * (aR mode cs sl cb ab).d≤131072 * (m * m * (aR mode cs sl cb ab).d)
  have hd0:=ht.d0;generalize (aR mode cs sl cb ab).d=D at *
  have e1:wy op m sl ab * m * D≤131070 * m * m * D:=aD (aD n1 (Int.le_refl _) (by omega) (by omega)) (Int.le_refl _) (by omega) (au (by omega) (by omega));grind
theorem Af (hm:Full m) (hs:Pre cs sl m) (hd:Pre cb ab m):0≤dk op mode m cs sl cb ab:=(mH (jG hm hs hd)).2.2
theorem rv (hm:Full m) (hs:Pre cs sl m) (hd:Pre cb ab m):dk op mode m cs sl cb ab≤cK op sl ab m:=by
 obtain ⟨v0,v1,v2⟩:=Gv (op:=op) (mode:=mode) hm hs hd;refine a0M (jG hm hs hd) hm.pos ?_ ?_
 ·show (dR op mode m cs sl cb ab).p * m≤wy op m sl ab * (m * m * (aR mode cs sl cb ab).d)
  have:=Int.mul_le_mul_of_nonneg_right v1 (Int.le_of_lt hm.pos);grind
 ·have e:wy op m sl ab * (m * m * (aR mode cs sl cb ab).d) - (dR op mode m cs sl cb ab).p * m=(wy op m sl ab * m * (aR mode cs sl cb ab).d - (dR op mode m cs sl cb ab).p) * m:=by grind
  show (dR op mode m cs sl cb ab).q * (dR op mode m cs sl cb ab).q * (dR op mode m cs sl cb ab).r * (m * m)≤(wy op m sl ab * (m * m * (aR mode cs sl cb ab).d) - (dR op mode m cs sl cb ab).p * m) * (wy op m sl ab * (m * m * (aR mode cs sl cb ab).d) - (dR op mode m cs sl cb ab).p * m)
  rw [e];have:=Int.mul_le_mul_of_nonneg_right v2 (yG m);grind
variable {fs c acc:Int}
def LN (m fs sl acc ab:Int):Int:=(m - fs) * acc+(fs - sl) * ab+m * sl
theorem Is (hm : Full m) (hs : Pre cs sl m) (hd : Pre cb ab m) (hf : sl ≤ fs) (hfm : fs ≤ m) (hc : 0 ≤ c) (hca : c ≤ acc) :
  0≤(eG mode m cs sl fs c cb ab).p∧(eG mode m cs sl fs c cb ab).p≤LN m fs sl acc ab * (aR mode cs sl cb ab).d ∧
   (eG mode m cs sl fs c cb ab).q * (eG mode m cs sl fs c cb ab).q * (eG mode m cs sl fs c cb ab).r ≤
    (LN m fs sl acc ab * (aR mode cs sl cb ab).d - (eG mode m cs sl fs c cb ab).p) * (LN m fs sl acc ab * (aR mode cs sl cb ab).d - (eG mode m cs sl fs c cb ab).p):=by
 have ht:=lI (mode:=mode) hm hs hd;obtain ⟨s0,sa,am⟩:=hs;obtain ⟨d0,db,bm⟩:=hd;have hp:=hm.pos;obtain ⟨p0,q0,q1,r0,r1,dd0,dd1,ple,psq⟩:=ht;unfold eG LN;generalize aR mode cs sl cb ab=t at *
 dsimp only;have k1:0≤(m - fs) * (acc - c) * t.d:=au (au (by omega) (by omega)) (by omega);have k2:0≤(fs - sl) * (ab - cb) * t.d:=au (au (by omega) (by omega)) (by omega);have k3:0≤(m - ab) * (sl - cs) * t.d:=au (au (by omega) (by omega)) (by omega);have e:((m - fs) * acc+(fs - sl) * ab+m * sl) * t.d - (t.p+((m - fs) * c+(fs - sl) * cb+(m - ab) * cs) * t.d)=(sl * ab * t.d - t.p)+(m - fs) * (acc - c) * t.d+(fs - sl) * (ab - cb) * t.d+(m - ab) * (sl - cs) * t.d:=by grind
 refine ⟨?_,by omega, ?_⟩
 ·exact Int.add_nonneg p0 (au (Int.add_nonneg (Int.add_nonneg (au (by omega) hc) (au (by omega) d0)) (au (by omega) s0)) (by omega))
 ·rw [e];exact Int.le_trans psq (nZ (by omega) (by omega))
theorem Sw (hm:Full m) (h1:0≤sl) (h2:sl≤fs) (h3:fs≤m) (h4:0≤acc) (h5:acc≤m) (h6:0≤ab) (h7:ab≤m):0≤LN m fs sl acc ab∧LN m fs sl acc ab≤m * m:=by
 have k1:0≤(m - fs) * (m - acc):=au (by omega) (by omega);have k2:0≤(fs - sl) * (m - ab):=au (by omega) (by omega);have k4:0≤(m - fs) * acc:=au (by omega) h4;have k5:0≤(fs - sl) * ab:=au (by omega) h6;have k6:0≤m * sl:=au (by omega) h1;grind [LN]
theorem nJ (hm:Full m) (hs:Pre cs sl m) (hd:Pre cb ab m) (hf:sl≤fs) (hfm:fs≤m) (hc:0≤c) (hcm:c≤m):ExOk (eG mode m cs sl fs c cb ab):=by
 obtain ⟨v0,v1,v2⟩:=Is (mode:=mode) (acc:=m) hm hs hd hf hfm hc hcm;have ht:=lI (mode:=mode) hm hs hd;have hp:=hm.pos;have hle:=hm.le;have ⟨n0,n1⟩:=Sw (acc:=m) hm (show 0≤sl by have:=hs.s0;have:=hs.sa;omega) hf hfm (by omega) (Int.le_refl _) (show 0≤ab by have:=hd.s0;have:=hd.sa;omega) hd.am;refine a0N v0 ht.q0 ?_ ht.r0 ?_ ?_ ?_ v1 v2 ?_
 ·have:=ht.q1;grind [eG,aR]
 ·have:=ht.r1;grind [eG,aR]
 ·show 1≤m * (aR mode cs sl cb ab).d;have:1 * 1≤m * (aR mode cs sl cb ab).d:=aD hp ht.d0 (by omega) (by omega);omega
 ·show m * (aR mode cs sl cb ab).d<_;have:m * (aR mode cs sl cb ab).d≤65535 * 4294836225:=aD hle ht.d1 (by have:=ht.d0;omega) (by omega);omega
 ·show LN m fs sl m ab * (aR mode cs sl cb ab).d≤131072 * (m * (aR mode cs sl cb ab).d)
  have hd0:=ht.d0;generalize (aR mode cs sl cb ab).d=D at *
  have e1:LN m fs sl m ab * D≤65535 * m * D:=aD (Int.le_trans n1 (aD hle (Int.le_refl _) (by omega) (by omega))) (Int.le_refl _) (by omega) (by omega);grind
theorem AQ (hm:Full m) (hs:Pre cs sl m) (hd:Pre cb ab m) (hf:sl≤fs) (hfm:fs≤m) (hc:0≤c) (hcm:c≤m):0≤dB mode m cs sl fs c cb ab:=(mH (nJ hm hs hd hf hfm hc hcm)).2.2
theorem sg (hm:Full m) (hs:Pre cs sl m) (hd:Pre cb ab m) (hf:sl≤fs) (hfm:fs≤m) (hc:0≤c) (hca:c≤acc) (ham:acc≤m):dB mode m cs sl fs c cb ab≤dU m sl fs acc ab:=by
 obtain ⟨v0,v1,v2⟩:=Is (mode:=mode) hm hs hd hf hfm hc hca;refine a0M (nJ hm hs hd hf hfm hc (by omega)) hm.pos ?_ ?_
 ·show (eG mode m cs sl fs c cb ab).p * m≤LN m fs sl acc ab * (m * (aR mode cs sl cb ab).d)
  have:=Int.mul_le_mul_of_nonneg_right v1 (Int.le_of_lt hm.pos);grind
 ·have e:LN m fs sl acc ab * (m * (aR mode cs sl cb ab).d) - (eG mode m cs sl fs c cb ab).p * m=(LN m fs sl acc ab * (aR mode cs sl cb ab).d - (eG mode m cs sl fs c cb ab).p) * m:=by grind
  show (eG mode m cs sl fs c cb ab).q * (eG mode m cs sl fs c cb ab).q * (eG mode m cs sl fs c cb ab).r * (m * m)≤(LN m fs sl acc ab * (m * (aR mode cs sl cb ab).d) - (eG mode m cs sl fs c cb ab).p * m) * (LN m fs sl acc ab * (m * (aR mode cs sl cb ab).d) - (eG mode m cs sl fs c cb ab).p * m)
  rw [e];have:=Int.mul_le_mul_of_nonneg_right v2 (yG m);grind
end
end
section
section
variable {op m a b f g:Int}
theorem Hh (hm:Full m) (ha:0≤a) (ham:a≤m) (hb:0≤b) (hbm:b≤m):0≤cK op a b m:=by
 have ⟨a1,a2⟩:=mI (op:=op) ha ham hb hbm;have ⟨b1,b2⟩:=oJ (op:=op) ha ham hb hbm;exact fj hm.pos (Int.add_nonneg (au a1 ha) (au b1 hb))
def Ws (op f g m:Int):Int :=
 if op=2∨op=8∨op=11 then m * f else if op=3∨op=9∨op=10 then m * g else if op=4∨op=5∨op=12 then m * f+(m - f) * g
 else if op=6∨op=7 then f * g else 0
theorem ng (hm:Full m):eC op f g m=cn (Ws op f g m) m:=by
 unfold eC Ws;grind [cn,kr,Full.pos,fA]
theorem a1V (hf:0≤f) (hfm:f≤m) (hg:0≤g) (hgm:g≤m):0≤Ws op f g m∧Ws op f g m≤m * m:=by
 have k1:0≤m * f:=au (by omega) hf;have k2:0≤m * g:=au (by omega) hg;have k3:0≤(m - f) * g:=au (by omega) hg;have k4:0≤f * g:=au hf hg;have k5:m * f≤m * m:=aD (Int.le_refl _) hfm hf (by omega);have k6:m * g≤m * m:=aD (Int.le_refl _) hgm hg (by omega);have k7:(m - f) * g≤(m - f) * m:=aD (Int.le_refl _) hgm hg (by omega);have k8:f * g≤m * m:=aD hfm hgm hg (by omega);have e:(m - f) * m=m * m - m * f:=by grind
 have k9:0≤m * m:=au (by omega) (by omega);unfold Ws;omega
theorem sv (hm:Full m) (hf:0≤f) (hfm:f≤m) (hg:0≤g) (hgm:g≤m):0≤eC op f g m∧eC op f g m≤m:=by
 rw [ng hm];obtain ⟨h1,h2⟩:=a1V (op:=op) hf hfm hg hgm;exact ⟨fj hm.pos h1,wg hm.pos h2⟩
theorem yi (hm:Full m) (ha:0≤a) (haf:a≤f) (hfm:f≤m) (hb:0≤b) (hbg:b≤g) (hgm:g≤m):cK op a b m≤eC op f g m:=by
 rw [ng hm];refine lf hm.pos ?_;have k1:m * a≤m * f:=aD (Int.le_refl _) haf ha (by omega);have k2:m * b≤m * g:=aD (Int.le_refl _) hbg hb (by omega);have k3:0≤a * b:=au ha hb;have k4:a * b≤f * g:=aD haf hbg hb (by omega);have k5:0≤(m - g) * (f - a):=au (by omega) (by omega);have k6:0≤(m - a) * (g - b):=au (by omega) (by omega);have k7:0≤m * a:=au (by omega) ha;have k8:0≤m * b:=au (by omega) hb;have k9:0≤(m - b) * (f - a):=au (by omega) (by omega);have k10:0≤(m - f) * (g - b):=au (by omega) (by omega);have e1:(m - g) * (f - a)=m * f - m * a - f * g+a * g:=by grind
 have e2:(m - a) * (g - b)=m * g - m * b - a * g+a * b:=by grind
 have e3:(m - b) * a=m * a - a * b:=by grind
 have e4:(m - a) * b=m * b - a * b:=by grind
 have e5:(m - f) * g=m * g - f * g:=by grind
 have e6:b * a=a * b:=Int.mul_comm _ _;unfold Ws iD jy;grind
theorem rQ (hm:Full m) (ha:0≤a) (ham:a≤m) (hb:0≤b) (hbm:b≤m):cK op a b m≤m :=
 Int.le_trans (yi hm ha (Int.le_refl _) ham hb (Int.le_refl _) hbm) (sv hm ha ham hb hbm).2
theorem PY {a b b':Int} (hm:Full m) (ha:0≤a) (ham:a≤m) (h:b≤b'):cK 4 a b m≤cK 4 a b' m:=by
 refine lf hm.pos ?_;rw [show iD 4 a b m=m from rfl,show jy 4 a b m=m - a from rfl,show iD 4 a b' m=m from rfl,show jy 4 a b' m=m - a from rfl];have:=Int.mul_le_mul_of_nonneg_left h (show 0≤m - a by omega);omega
end
section
variable {m a f acc acc' b:Int}
theorem mS (hm:Full m) (ha:0≤a) (haf:a≤f) (hfm:f≤m) (h1:0≤acc) (h2:acc≤m) (h3:0≤b) (h4:b≤m):0≤dU m a f acc b∧dU m a f acc b≤m:=by
 have ⟨n0,n1⟩:=Sw (fs:=f) (sl:=a) (acc:=acc) (ab:=b) hm ha haf hfm h1 h2 h3 h4;exact ⟨fj hm.pos n0,wg hm.pos n1⟩
theorem GJ {b':Int} (hm:Full m) (haf:a≤f) (hfm:f≤m) (h:acc≤acc') (hb:b≤b'):dU m a f acc b≤dU m a f acc' b':=by
 refine lf hm.pos ?_;have h1:=Int.mul_le_mul_of_nonneg_left h (show 0≤m - f by omega);have h2:=Int.mul_le_mul_of_nonneg_left hb (show 0≤f - a by omega);omega
theorem EC {g:Int} (hm:Full m) (ha:0≤a) (haf:a≤f) (hfm:f≤m) (h1:0≤acc) (hg:acc≤g) (hgm:g≤m):dU m a f acc 0≤eC 4 f g m:=by
 rw [ng hm];refine lf hm.pos ?_;rw [show Ws 4 f g m=m * f+(m - f) * g from rfl];have h2:=Int.mul_le_mul_of_nonneg_left hg (show 0≤m - f by omega);have h3:=Int.mul_le_mul_of_nonneg_left haf (show 0≤m by omega);omega
end
structure Acc where
 c0:Int
 c1:Int
 c2:Int
 a:Int
 own:Int
 f:Int
 deriving DecidableEq,Inhabited
structure PixV (p:Pixel) (m:Int):Prop where
 n0:0≤p.c0
 n1:0≤p.c1
 n2:0≤p.c2
 l0:p.c0≤p.a
 l1:p.c1≤p.a
 l2:p.c2≤p.a
 af:p.a≤p.f
 fm:p.f≤m
structure AccV (x:Acc) (b:Pixel) (m:Int):Prop where
 n0:0≤x.c0
 n1:0≤x.c1
 n2:0≤x.c2
 l0:x.c0≤x.a
 l1:x.c1≤x.a
 l2:x.c2≤x.a
 o0:0≤x.own
 oa:x.own≤x.a
 of:x.own≤x.f
 am:x.a≤m
 fm:x.f≤m
 bk:PixV b m
 bf:b.f=b.a
theorem PixV.a0 {p:Pixel} {m:Int} (h:PixV p m):0≤p.a:=Int.le_trans h.n0 h.l0
theorem PixV.am {p:Pixel} {m:Int} (h:PixV p m):p.a≤m:=Int.le_trans h.af h.fm
theorem PixV.f0 {p:Pixel} {m:Int} (h:PixV p m):0≤p.f:=Int.le_trans h.a0 h.af
theorem AccV.a0 {x:Acc} {b:Pixel} {m:Int} (h:AccV x b m):0≤x.a:=Int.le_trans h.n0 h.l0
theorem AccV.f0 {x:Acc} {b:Pixel} {m:Int} (h:AccV x b m):0≤x.f:=Int.le_trans h.o0 h.of
theorem AccV.om {x:Acc} {b:Pixel} {m:Int} (h:AccV x b m):x.own≤m:=Int.le_trans h.oa h.am
def bG:Pixel:=⟨0,0,0,0,0⟩
def kz:Acc:=⟨0,0,0,0,0,0⟩
theorem uE {m:Int} (hm:Full m):PixV bG m:=by
 have:=hm.pos;constructor <;> simp only [bG] <;> omega
theorem JV {m:Int} (hm:Full m):AccV kz bG m:=by
 have:=hm.pos;refine ⟨?_, ?_, ?_, ?_, ?_, ?_, ?_, ?_, ?_, ?_, ?_,uE hm,rfl⟩ <;> simp only [kz] <;> omega
def cg (isolated knockout:Bool) (outer:Acc) (back:Pixel):Pixel :=
 if isolated=true then bG else if knockout=true then back else ⟨outer.c0,outer.c1,outer.c2,outer.a,outer.a⟩
def gL (b:Pixel):Acc:=⟨b.c0,b.c1,b.c2,b.a,0,0⟩
def bQ (ko:Bool) (op mode m:Int) (s:Pixel) (x:Acc) (b:Pixel):Acc :=
 if ko=true then ⟨dB mode m s.c0 s.a s.f x.c0 b.c0 b.a,dB mode m s.c1 s.a s.f x.c1 b.c1 b.a,dB mode m s.c2 s.a s.f x.c2 b.c2 b.a,dU m s.a s.f x.a b.a,dU m s.a s.f x.own 0,eC op s.f x.f m⟩
 else ⟨dk op mode m s.c0 s.a x.c0 x.a,dk op mode m s.c1 s.a x.c1 x.a,dk op mode m s.c2 s.a x.c2 x.a,cK op s.a x.a m,cK op s.a x.own m,eC op s.f x.f m⟩
def iC (c k own m:Int):Int:=if (m - own) * k<m * c then min (cn (m * c - (m - own) * k) m) own else 0
def bU (x:Acc) (b:Pixel) (m:Int):Pixel:=⟨iC x.c0 b.c0 x.own m,iC x.c1 b.c1 x.own m,iC x.c2 b.c2 x.own m,x.own,x.f⟩
def bY (p:Pixel) (k m:Int):Pixel:=⟨cn (p.c0 * k) m,cn (p.c1 * k) m,cn (p.c2 * k) m,cn (p.a * k) m,cn (p.f * k) m⟩
theorem LK {i k:Bool} {x:Acc} {b:Pixel} {m:Int} (hm:Full m) (h:AccV x b m):PixV (cg i k x b) m∧(cg i k x b).f=(cg i k x b).a:=by
 have hp:=hm.pos;unfold cg;split
 ·grind [bG,uE]
 split
 ·exact ⟨h.bk,h.bf⟩
 ·exact ⟨⟨h.n0,h.n1,h.n2,h.l0,h.l1,h.l2,Int.le_refl _,h.am⟩,rfl⟩
theorem XH {b:Pixel} {m:Int} (h:PixV b m) (hf:b.f=b.a):AccV (gL b) b m :=
 ⟨h.n0,h.n1,h.n2,h.l0,h.l1,h.l2,Int.le_refl _,h.a0,Int.le_refl _,h.am,Int.le_trans h.f0 h.fm,h,hf⟩
theorem qv {p:Pixel} {k m:Int} (hm:Full m) (h:PixV p m) (hk:0≤k) (hkm:k≤m):PixV (bY p k m) m:=by
 have mono:∀ {x y:Int},x≤y→cn (x * k) m≤cn (y * k) m:=fun q=>lf hm.pos (Int.mul_le_mul_of_nonneg_right q hk);refine ⟨fj hm.pos (au h.n0 hk),fj hm.pos (au h.n1 hk),fj hm.pos (au h.n2 hk),mono h.l0,mono h.l1,mono h.l2,mono h.af,wg hm.pos ?_⟩;rw [Int.mul_comm m m];exact aD h.fm hkm hk (Int.le_of_lt hm.pos)
theorem As {p:Pixel} {m:Int} (hm:Full m):bY p m m=p:=by
 have e:∀ x:Int,cn (x * m) m=x:=fun x=>by rw [Int.mul_comm,fA hm.pos]
 simp_all [bY]
theorem Bb {p:Pixel} {m:Int} (hm:Full m):bY p 0 m=bG:=by simp only [bY,Int.mul_zero,kr hm.pos];rfl
theorem tF {k m:Int} (hm:Full m):bY bG k m=bG:=by simp only [bY,bG,Int.zero_mul,kr hm.pos]
theorem pK {x:Acc} {b:Pixel} {m:Int} (hm:Full m) (h:AccV x b m):PixV (bU x b m) m:=by
 have c0:∀ {c k:Int},0≤iC c k x.own m:=fun {c k}=>by
  unfold iC;split
  ·have:=fj (n:=m * c - (m - x.own) * k) hm.pos (by omega);have:=h.o0;omega
  omega
 have c1:∀ {c k:Int},iC c k x.own m≤x.own:=fun {c k}=>by
  unfold iC;split
  ·omega
  ·exact h.o0
 exact ⟨c0,c0,c0,c1,c1,c1,h.of,h.fm⟩
theorem RO {ko:Bool} {op mode m:Int} {s:Pixel} {x:Acc} {b:Pixel} (hm:Full m) (hs:PixV s m) (h:AccV x b m) (hop:op=4∨ko=false∧x.own=x.a):AccV (bQ ko op mode m s x b) b m:=by
 have b0:=h.bk;unfold bQ;split
 ·rename_i hk;have h4:op=4:=hop.elim id fun q=>by grind
  subst h4;have kb:=mS (a:=s.a) (f:=s.f) (acc:=x.a) (b:=b.a) hm hs.a0 hs.af hs.fm h.a0 h.am b0.a0 b0.am;have ko':=mS (a:=s.a) (f:=s.f) (acc:=x.own) (b:=0) hm hs.a0 hs.af hs.fm h.o0 h.om (Int.le_refl _) (Int.le_of_lt hm.pos);have p0:Pre s.c0 s.a m:=⟨hs.n0,hs.l0,hs.am⟩
  have p1:Pre s.c1 s.a m:=⟨hs.n1,hs.l1,hs.am⟩
  have p2:Pre s.c2 s.a m:=⟨hs.n2,hs.l2,hs.am⟩
  have d0:Pre b.c0 b.a m:=⟨b0.n0,b0.l0,b0.am⟩
  have d1:Pre b.c1 b.a m:=⟨b0.n1,b0.l1,b0.am⟩
  have d2:Pre b.c2 b.a m:=⟨b0.n2,b0.l2,b0.am⟩
  have t0:=h.l0;have t1:=h.l1;have t2:=h.l2;have t3:=h.am;have sh:=(sv (op:=4) hm hs.f0 hs.fm h.f0 h.fm).2
  exact ⟨AQ hm p0 d0 hs.af hs.fm h.n0 (by omega),AQ hm p1 d1 hs.af hs.fm h.n1 (by omega),AQ hm p2 d2 hs.af hs.fm h.n2 (by omega),
   sg hm p0 d0 hs.af hs.fm h.n0 t0 t3,sg hm p1 d1 hs.af hs.fm h.n1 t1 t3,sg hm p2 d2 hs.af hs.fm h.n2 t2 t3,ko'.1,
   GJ hm hs.af hs.fm h.oa b0.a0,EC hm hs.a0 hs.af hs.fm h.o0 h.of h.fm,kb.2,sh,b0,h.bf⟩
 ·have p0:Pre s.c0 s.a m:=⟨hs.n0,hs.l0,hs.am⟩
  have p1:Pre s.c1 s.a m:=⟨hs.n1,hs.l1,hs.am⟩
  have p2:Pre s.c2 s.a m:=⟨hs.n2,hs.l2,hs.am⟩
  have d0:Pre x.c0 x.a m:=⟨h.n0,h.l0,h.am⟩
  have d1:Pre x.c1 x.a m:=⟨h.n1,h.l1,h.am⟩
  have d2:Pre x.c2 x.a m:=⟨h.n2,h.l2,h.am⟩
  have hoa:cK op s.a x.own m≤cK op s.a x.a m:=by
   rcases hop with rfl|⟨_,q⟩
   ·exact PY hm hs.a0 hs.am h.oa
   ·grind
  have sh:=(sv (op:=op) hm hs.f0 hs.fm h.f0 h.fm).2
  exact ⟨Af hm p0 d0,Af hm p1 d1,Af hm p2 d2,rv hm p0 d0,rv hm p1 d1,rv hm p2 d2,Hh hm hs.a0 hs.am h.o0 h.om,hoa,
   yi hm hs.a0 hs.af hs.fm h.o0 h.of h.fm,rQ hm hs.a0 hs.am h.a0 h.am,sh,b0,h.bf⟩
theorem TN {ko:Bool} {op mode m:Int} {s:Pixel} {x:Acc} {b:Pixel} (hb:b.a=0) (h:x.own=x.a):(bQ ko op mode m s x b).own=(bQ ko op mode m s x b).a:=by grind [bQ,dU,cK]
end
def dz:Rect:=⟨0,0,0,0⟩
def ed (r q:Rect):Rect:=if aM r=true∨aM q=true then dz else gr ⟨max r.x0 q.x0,max r.y0 q.y0,min r.x1 q.x1,min r.y1 q.y1⟩
def mE (o r:Rect):Rect:=if aM r=true then o else if aM o=true then r else ⟨min o.x0 r.x0,min o.y0 r.y0,max o.x1 r.x1,max o.y1 r.y1⟩
def fu (l:List Rect):Rect:=l.foldl mE dz
theorem uj:aM dz=true:=by decide
theorem DW (l:List Rect) (x:Rect):fu (l ++ [x])=mE (fu l) x:=by grind [fu]
theorem gw {r : Rect} : aM r = false ↔ (-1073741824 ≤ r.x0 ∧ r.x0 ≤ 1073741824 ∧ -1073741824 ≤ r.y0 ∧ r.y0 ≤ 1073741824 ∧ -1073741824 ≤ r.x1 ∧ r.x1 ≤ 1073741824 ∧ -1073741824 ≤ r.y1 ∧ r.y1 ≤ 1073741824) ∧
  r.x0<r.x1∧r.y0<r.y1:=by
 simp only [aM,oN,Bool.or_eq_false_iff,Bool.not_eq_eq_eq_not,Bool.not_false,decide_eq_true_eq,decide_eq_false_iff_not];omega
def wC (l:List Rect) (r:Rect):Prop:=r ∈ l∧aM r=false
structure HullIs (l:List Rect) (h:Rect):Prop where
 none:(∀ r,¬ wC l r)→h=dz
 ne:(∃ r,wC l r)→aM h=false
 x0:(∃ r,wC l r)→(∀ r,wC l r→h.x0≤r.x0)∧∃ r,wC l r∧h.x0=r.x0
 y0:(∃ r,wC l r)→(∀ r,wC l r→h.y0≤r.y0)∧∃ r,wC l r∧h.y0=r.y0
 x1:(∃ r,wC l r)→(∀ r,wC l r→r.x1≤h.x1)∧∃ r,wC l r∧h.x1=r.x1
 y1:(∃ r,wC l r)→(∀ r,wC l r→r.y1≤h.y1)∧∃ r,wC l r∧h.y1=r.y1
theorem iQ {l:List Rect} {x r:Rect}:wC (l ++ [x]) r↔wC l r∨(r=x∧aM x=false):=by grind [wC]
theorem Ny {l:List Rect} {h x:Rect} (H:HullIs l h):HullIs (l ++ [x]) (mE h x):=by
 by_cases hx:aM x=true
 ·have e:∀ r,wC (l ++ [x]) r↔wC l r:=fun r=>by grind [iQ]
  have e2:(∃ r,wC (l ++ [x]) r)↔∃ r,wC l r:=exists_congr e;have eh:mE h x=h:=by rw [mE,if_pos hx]
  rw [eh];refine ⟨fun q=>H.none fun r hr=>q r ((e r).2 hr),fun q=>H.ne (e2.1 q),fun q => ?_,fun q => ?_,fun q => ?_,fun q => ?_⟩
  ·obtain ⟨a,b,c,d⟩:=H.x0 (e2.1 q);grind
  ·obtain ⟨a,b,c,d⟩:=H.y0 (e2.1 q);grind
  ·obtain ⟨a,b,c,d⟩:=H.x1 (e2.1 q);grind
  ·obtain ⟨a,b,c,d⟩:=H.y1 (e2.1 q);grind
 ·have hx':aM x=false:=by simpa using hx
  have hin:wC (l ++ [x]) x:=iQ.2 (.inr ⟨rfl,hx'⟩);by_cases hl:∃ r,wC l r
  ·have hne:=H.ne hl;have eh:mE h x=⟨min h.x0 x.x0,min h.y0 x.y0,max h.x1 x.x1,max h.y1 x.y1⟩:=by rw [mE,if_neg hx,if_neg (by grind)]
   rw [eh];obtain ⟨a0,b0,c0,d0⟩:=H.x0 hl;obtain ⟨a1,b1,c1,d1⟩:=H.y0 hl;obtain ⟨a2,b2,c2,d2⟩:=H.x1 hl;obtain ⟨a3,b3,c3,d3⟩:=H.y1 hl;refine ⟨fun q=>absurd hin (q x),fun _ => ?_,fun _=>⟨fun r hr => ?_, ?_⟩,fun _=>⟨fun r hr => ?_, ?_⟩,fun _=>⟨fun r hr => ?_, ?_⟩,fun _=>⟨fun r hr => ?_, ?_⟩⟩
   ·grind [gw]
   ·grind [iQ]
   ·grind [iQ]
   ·grind [iQ]
   ·grind [iQ]
   ·grind [iQ]
   ·grind [iQ]
   ·grind [iQ]
   grind [iQ]
  ·have hz:h=dz:=H.none fun r hr=>hl ⟨r,hr⟩;have eh:mE h x=x:=by rw [mE,if_neg hx,hz,if_pos uj]
   rw [eh];have only:∀ r,wC (l ++ [x]) r→r=x:=fun r hr=>by grind [iQ]
   exact ⟨fun q=>absurd hin (q x),fun _=>hx',fun _=>⟨fun r hr=>by grind,x,hin,rfl⟩,fun _=>⟨fun r hr=>by grind,x,hin,rfl⟩,
    fun _=>⟨fun r hr=>by grind,x,hin,rfl⟩,fun _=>⟨fun r hr=>by grind,x,hin,rfl⟩⟩
theorem Da:∀ (l l0:List Rect) (h:Rect),HullIs l0 h→HullIs (l0 ++ l) (l.foldl mE h)
 | [],l0,h,H=>by grind
 | x :: l,l0,h,H=>by
  have:=Da l (l0 ++ [x]) (mE h x) (Ny H);grind
theorem EK (l:List Rect):HullIs l (fu l):=by
 have:=Da l [] dz ⟨fun _=>rfl,fun ⟨r,hr,_⟩=>by simp at hr,fun ⟨r,hr,_⟩=>by simp at hr,fun ⟨r,hr,_⟩=>by simp at hr,fun ⟨r,hr,_⟩=>by simp at hr,fun ⟨r,hr,_⟩=>by simp at hr⟩;exact this
theorem Xl {l:List Rect} {r:Rect} (h:r ∈ l) (hr:aM r=false):aM (fu l)=false∧(fu l).x0≤r.x0∧(fu l).y0≤r.y0∧r.x1≤(fu l).x1∧r.y1≤(fu l).y1:=by
 have A:=EK l;have hi:wC l r:=⟨h,hr⟩
 exact ⟨A.ne ⟨r,hi⟩,(A.x0 ⟨r,hi⟩).1 r hi,(A.y0 ⟨r,hi⟩).1 r hi,(A.x1 ⟨r,hi⟩).1 r hi,(A.y1 ⟨r,hi⟩).1 r hi⟩
theorem Hi (l:List Rect):(fu l=dz)∨aM (fu l)=false:=by
 by_cases hl:∃ r,wC l r
 ·exact .inr ((EK l).ne hl)
 ·exact .inl ((EK l).none fun r hr=>hl ⟨r,hr⟩)
section
def upd {α:Type} (f:Nat→α) (k:Nat) (v:α):Nat→α:=fun j=>if j=k then v else f j
theorem fZ {α:Type} (f:Nat→α) (k:Nat) (v:α):upd f k v k=v:=if_pos rfl
theorem jU {α:Type} (f:Nat→α) {k j:Nat} (v:α) (h:j≠k):upd f k v j=f j:=if_neg h
def ah (ops:List Op) (i:Nat):Op:=ops.getD i default
def bE (ops:List Op):Nat→List Nat
 | 0=>[]
 | i+1=>if (ah ops i).kind=2 then i :: bE ops i else if (ah ops i).kind=3 then (bE ops i).tail else bE ops i
def Fk (ops:List Op):Nat→Nat→Nat
 | 0=>fun _=>0
 | i+1=>if (ah ops i).kind=3 then upd (upd (Fk ops i) i i) ((bE ops i).headD 0) i else upd (Fk ops i) i i
def aE (ops:List Op):Nat→Nat:=Fk ops ops.length
structure Wf (ops:List Op):Prop where
 kinds:∀ i,i<ops.length→(ah ops i).kind=1∨(ah ops i).kind=2∨(ah ops i).kind=3
 pops:∀ i,i<ops.length→(ah ops i).kind=3→bE ops i≠[]
 fin:bE ops ops.length=[]
section
variable {ops:List Op}
theorem dv {i:Nat} (h:(ah ops i).kind=2):bE ops (i+1)=i :: bE ops i:=by grind [bE]
theorem eI {i:Nat} (h:(ah ops i).kind=3):bE ops (i+1)=(bE ops i).tail:=by grind [bE]
theorem ec {i:Nat} (h:(ah ops i).kind=1):bE ops (i+1)=bE ops i:=by grind [bE]
theorem Ng {i p:Nat} (h:p ∈ bE ops (i+1)):p=i∨p ∈ bE ops i:=by
 rw [bE] at h;split at h
 ·grind
 split at h
 ·exact .inr (List.mem_of_mem_tail h)
 grind
theorem ej:∀ {i p:Nat},p ∈ bE ops i→p<i
 | 0,p,h=>by grind [bE]
 | i+1,p,h=>by
  rcases Ng h with rfl|h
  ·omega
  ·have:=ej h;omega
theorem iz:∀ {i p:Nat},p ∈ bE ops i→(ah ops p).kind=2
 | 0,p,h=>by grind [bE]
 | i+1,p,h=>by
  rw [bE] at h;split at h
  ·rename_i hk;rcases List.mem_cons.1 h with rfl|h
   ·exact hk
   ·exact iz h
  split at h
  ·exact iz (List.mem_of_mem_tail h)
  ·exact iz h
theorem mU:∀ i,(bE ops i).Nodup
 | 0=>by simp [bE]
 | i+1=>by
  rw [bE];split
  ·exact List.nodup_cons.2 ⟨fun h=>Nat.lt_irrefl _ (ej h),mU i⟩
  split
  ·exact (mU i).sublist (List.tail_sublist _)
  ·exact mU i
theorem qF:∀ i,(bE ops i).Pairwise (fun a b=>b<a)
 | 0=>by simp [bE]
 | i+1=>by
  rw [bE];split
  ·exact List.pairwise_cons.2 ⟨fun q hq=>ej hq,qF i⟩
  split
  ·exact (qF i).sublist (List.tail_sublist _)
  ·exact qF i
theorem Jt {i p:Nat} {t:List Nat} (hs:bE ops i=p :: t):∀ q ∈ t,q<p:=by
 have:=qF (ops:=ops) i;simp_all
theorem wx (W:Wf ops) {i p:Nat} (hp:p<i) (hn:p ∉ bE ops i):∀ m,i≤m→p ∉ bE ops m:=by
 intro m hm
 induction m with
 | zero=>omega
 | succ m ih =>
  grind [bE,Ng]
theorem Ac {l:List Nat} (h:l≠[]):l.headD 0 ∈ l:=by
 cases l with
 | nil=>grind
 | cons a l=>simp
theorem TH (W:Wf ops) {i p:Nat} (hp:p<i) (hn:p ∉ bE ops i):∀ m,i≤m→m≤ops.length→Fk ops m p=Fk ops i p:=by
 intro m hm hl
 induction m with
 | zero=>omega
 | succ m ih =>
  by_cases he:i=m+1
  ·rw [← he]
  ·have ih:=ih (by omega) (by omega);have hk:=wx W hp hn m (by omega);rw [Fk];split
   ·rename_i h3;have:=Ac (W.pops m (by omega) h3);grind [upd,jU]
   grind [upd,jU]
theorem zg (W:Wf ops) {i p:Nat} (hp:p<i) (hn:p ∉ bE ops i) (hl:i≤ops.length):aE ops p=Fk ops i p:=TH W hp hn _ hl (Nat.le_refl _)
theorem gy (W:Wf ops) {i:Nat} (hi:i<ops.length) (hk:(ah ops i).kind=1):aE ops i=i:=by rw [zg W (Nat.lt_succ_self i) (by rw [ec hk];exact fun h=>Nat.lt_irrefl _ (ej h)) hi,Fk,if_neg (by omega),fZ]
theorem lN (W:Wf ops) {i p:Nat} {t:List Nat} (hi:i<ops.length) (hk:(ah ops i).kind=3) (hs:bE ops i=p :: t):aE ops p=i:=by
 have hn:=mU (ops:=ops) i;rw [hs] at hn;have hp:p<i:=ej (ops:=ops) (by grind);rw [zg W (i:=i+1) (by omega) (by grind [bE,eI]) hi,Fk,if_pos hk,hs];exact fZ _ _ _
theorem CM (W:Wf ops) {i:Nat} (hi:i<ops.length) (hk:(ah ops i).kind=3):aE ops i=i:=by
 have hne:=W.pops i hi hk;have hlt:=ej (Ac hne);rw [zg W (Nat.lt_succ_self i) (by rw [eI hk];exact fun h=>Nat.lt_irrefl _ (ej (List.mem_of_mem_tail h))) hi,Fk,if_pos hk,jU _ _ (by omega),fZ]
theorem wN (W:Wf ops) {p:Nat}:∀ (d i:Nat),i+d=ops.length→p ∈ bE ops i→∃ j t,i≤j∧j<ops.length∧(ah ops j).kind=3∧bE ops j=p :: t
 | 0,i,hd,h=>by
  have:i=ops.length:=by omega
  rw [this,W.fin] at h;simp at h
 | d+1,i,hd,h=>by
  by_cases h2:p ∈ bE ops (i+1)
  ·obtain ⟨j,t,h1,h3⟩:=wN W d (i+1) (by omega) h2;grind
  ·rcases W.kinds i (by omega) with k|k|k
   ·grind [bE,ec]
   ·grind [bE,dv]
   ·rw [eI k] at h2;cases hs:bE ops i with
    | nil=>grind
    | cons q t =>
     grind
theorem Ds (W:Wf ops) {i p:Nat} (hi:i≤ops.length) (h:p ∈ bE ops i):i≤aE ops p∧aE ops p<ops.length:=by
 obtain ⟨j,t,h1,h2,h3,h4⟩:=wN W (ops.length - i) i (by omega) h;grind [lN]
theorem KA (W:Wf ops):∀ (i:Nat),i≤ops.length→∀ j,j<i→Fk ops i j<i
 | 0,_,j,hj=>absurd hj (Nat.not_lt_zero _)
 | i+1,hi,j,hj=>by
  have ih:=KA W i (by omega);have h1:upd (Fk ops i) i i j<i+1:=by
   by_cases he:j=i
   ·rw [he,fZ];omega
   ·grind [upd,jU]
  rw [Fk];grind [upd,bE,fZ,jU]
theorem rE (W:Wf ops) {i p:Nat} (hi:i≤ops.length) (hp:p<i):p ∈ bE ops i↔(ah ops p).kind=2∧i≤aE ops p:=by
 refine ⟨fun h=>⟨iz h,(Ds W hi h).1⟩,fun ⟨h1,h2⟩ => ?_⟩;by_cases h:p ∈ bE ops i
 ·exact h
 ·rw [zg W hp h hi] at h2;have:=KA W i hi p hp;omega
theorem cB (W:Wf ops) {i:Nat} (hi:i<ops.length):aE ops i<ops.length:=KA W _ (Nat.le_refl _) i hi
theorem fO (W:Wf ops) {p:Nat} (hp:p<ops.length) (hk:(ah ops p).kind=2):p<aE ops p:=by
 have:=(Ds W (i:=p+1) hp (by rw [dv hk];exact List.mem_cons_self ..)).1;omega
end
def fe (o:Int):Bool:=decide (o=3∨o=4∨o=5∨o=9∨o=10∨o=12)
def si (v:Int):Bool:=decide (v < -1099511627776∨1099511627776<v)
def gE (s:Script) (i x y:Int):Rect :=
 if i<0∨s.images.length≤i then dz
 else if (si x || si y || si (s.images.getD i.toNat default).w || si (s.images.getD i.toNat default).h)=true then dz
 else ed ⟨x,y,x+(s.images.getD i.toNat default).w,y+(s.images.getD i.toNat default).h⟩ s.canvas
def bt (s:Script) (o:Op):Rect:=if o.kind=1 then gE s o.image o.x o.y else dz
def cV (s:Script) (o:Op):Rect:=if o.mask=0 then ed s.canvas s.canvas else gE s (o.mask - 1) o.maskX o.maskY
def lv (s:Script) (o:Op) (src:Rect):Rect:=if fe o.operator=false then s.canvas else if o.opacity=0 then dz else ed src (cV s o)
def vd (h:List Rect) (r:Rect):List Rect:=fu [h.headD dz,r] :: h.tail
def fP (s:Script):Nat→(Nat→Rect) × List Rect
 | 0=>(fun _=>dz,[dz])
 | i+1 =>
  if (ah s.ops i).kind=2 then ((fP s i).1,dz :: (fP s i).2)
  else if (ah s.ops i).kind=1 then
   (upd (fP s i).1 i (lv s (ah s.ops i) (bt s (ah s.ops i))),vd (fP s i).2 (lv s (ah s.ops i) (bt s (ah s.ops i))))
  else
   (upd (upd (fP s i).1 i (lv s (ah s.ops ((bE s.ops i).headD 0)) ((fP s i).2.headD dz))) ((bE s.ops i).headD 0) (lv s (ah s.ops ((bE s.ops i).headD 0)) ((fP s i).2.headD dz)),
    vd (fP s i).2.tail (lv s (ah s.ops ((bE s.ops i).headD 0)) ((fP s i).2.headD dz)))
def dr (s:Script):Nat→Rect:=(fP s s.ops.length).1
theorem TF (l:List Rect) (x:Rect):fu [fu l,x]=fu (l ++ [x]):=by grind [fu,mE,DW,dz,uj,Hi]
def Wlk (e:Nat→Nat):Nat→Nat→List Nat→Prop
 | a,b,[]=>a=b
 | a,b,k :: l=>a=k∧Wlk e (e k+1) b l
theorem Ai {e:Nat→Nat} {b:Nat}:∀ {l:List Nat} {a:Nat},Wlk e a b l→Wlk e a (e b+1) (l ++ [b])
 | [],a,h=>⟨h,rfl⟩
 | k :: l,a,⟨h1,h2⟩=>⟨h1,Ai h2⟩
section
variable {s:Script}
theorem Ge (W:Wf s.ops) {i p:Nat} (hp:p<i) (hn:p ∉ bE s.ops i):∀ m,i≤m→m≤s.ops.length→(fP s m).1 p=(fP s i).1 p:=by
 intro m hm hl
 induction m with
 | zero=>omega
 | succ m ih =>
  by_cases he:i=m+1
  ·rw [← he]
  ·have ih:=ih (by omega) (by omega);have hk:=wx W hp hn m (by omega);rw [fP];split
   ·exact ih
   split
   ·grind [upd,jU]
   ·rename_i h2 h1;have h3:(ah s.ops m).kind=3:=by rcases W.kinds m (by omega) with k|k|k <;> omega
    have:=Ac (W.pops m (by omega) h3);grind [upd,jU]
theorem Jg (W:Wf s.ops) {i:Nat} (hi:i<s.ops.length) (hk:(ah s.ops i).kind=1):dr s i=lv s (ah s.ops i) (bt s (ah s.ops i)):=by
 rw [dr,Ge W (Nat.lt_succ_self i) (by rw [ec hk];exact fun h=>Nat.lt_irrefl _ (ej h)) _ hi (Nat.le_refl _),fP,if_neg (by omega),if_pos hk];grind [fZ]
theorem Cd (W : Wf s.ops) {i p : Nat} {t : List Nat} (hi : i < s.ops.length) (hk : (ah s.ops i).kind = 3) (hs : bE s.ops i = p :: t) :
  dr s i=lv s (ah s.ops p) ((fP s i).2.headD dz)∧dr s p=lv s (ah s.ops p) ((fP s i).2.headD dz):=by
 have hn:=mU (ops:=s.ops) i;rw [hs] at hn;have hp:p<i:=ej (ops:=s.ops) (by grind);refine ⟨?_, ?_⟩
 ·rw [dr,Ge W (Nat.lt_succ_self i) (by rw [eI hk];exact fun h=>Nat.lt_irrefl _ (ej (List.mem_of_mem_tail h))) _ hi (Nat.le_refl _),fP,if_neg (by omega),if_neg (by omega),hs];grind [upd,jU,fZ]
 ·rw [dr,Ge W (i:=i+1) (by omega) (by grind [bE,eI]) _ hi (Nat.le_refl _),fP,if_neg (by omega),if_neg (by omega),hs];grind [upd,fZ]
def Xk (s:Script):Nat→List Nat→List Rect→Prop
 | i,[],h :: []=>∃ l,Wlk (aE s.ops) 0 i l∧(∀ k ∈ l,k<i∧(ah s.ops k).kind≠3)∧h=fu (l.map (dr s))
 | i,p :: st,h :: hs=>(∃ l,Wlk (aE s.ops) (p+1) i l∧(∀ k ∈ l,(p<k∧k<i)∧(ah s.ops k).kind≠3)∧h=fu (l.map (dr s)))∧Xk s p st hs
 | _,_,_=>False
theorem IC {i : Nat} {st : List Nat} {h : List Rect} (hk : (ah s.ops i).kind ≠ 3) (hl : ∀ p ∈ st, p < i) (hle : i ≤ aE s.ops i) (H : Xk s i st h) :
  Xk s (aE s.ops i+1) st (vd h (dr s i)):=by
 have hm:∀ l:List Nat,fu [fu (l.map (dr s)),dr s i]=fu ((l ++ [i]).map (dr s)):=fun l=>by grind [TF]
 cases st with
 | nil =>
  cases h with
  | nil=>exact H.elim
  | cons a h =>
   cases h with
   | cons=>exact H.elim
   | nil =>
    obtain ⟨l,h1,h2,rfl⟩:=H;refine ⟨l ++ [i],Ai h1,fun k hkm => ?_,hm l⟩;grind
 | cons p st =>
  cases h with
  | nil=>exact H.elim
  | cons a h =>
   obtain ⟨⟨l,h1,h2,rfl⟩,H2⟩:=H;refine ⟨⟨l ++ [i],Ai h1,fun k hkm => ?_,hm l⟩,H2⟩;grind
theorem a7i (W:Wf s.ops):∀ i,i≤s.ops.length→Xk s i (bE s.ops i) (fP s i).2
 | 0,_=>⟨[],rfl,fun k hk=>by simp at hk,rfl⟩
 | i+1,hi=>by
  have ih:=a7i W i (by omega);have hlt:∀ p ∈ bE s.ops i,p<i:=fun p hp=>ej hp;rcases W.kinds i (by omega) with k|k|k
  ·have e:=gy W (by omega) k;have:=IC (by omega) hlt (by omega) ih;grind [bE,fP,ec,Jg]
  ·rw [dv k,fP,if_pos k];exact ⟨⟨[],rfl,fun k hk=>by simp at hk,rfl⟩,ih⟩
  ·rw [eI k,fP,if_neg (by omega),if_neg (by omega)];cases hs:bE s.ops i with
   | nil=>exact absurd hs (W.pops i (by omega) k)
   | cons p t =>
    have hb:=(Cd W (by omega) k hs).2;have e:=lN W (by omega) k hs;have hp:(ah s.ops p).kind=2:=iz (i:=i) (by grind);rw [hs] at ih hlt;cases hh:(fP s i).2 with
    | nil=>rw [hh] at ih;exact ih.elim
    | cons a h =>
     rw [hh] at ih hb;have hn:=mU (ops:=s.ops) i;have hlt2:∀ q ∈ t,q<p:=fun q hq=>by exact Jt hs q hq
     have hpi:p<i:=hlt p (List.mem_cons_self ..);have:=IC (by omega) hlt2 (by omega) ih.2;grind
theorem Ri (W : Wf s.ops) {p : Nat} (hp : p < s.ops.length) (hk : (ah s.ops p).kind = 2) :
  ∃ l,Wlk (aE s.ops) (p+1) (aE s.ops p) l∧(∀ k ∈ l,(p<k∧k<aE s.ops p)∧(ah s.ops k).kind≠3)∧dr s p=lv s (ah s.ops p) (fu (l.map (dr s))):=by
 obtain ⟨j,t,h1,h2,h3,h4⟩:=wN W (s.ops.length - (p+1)) (p+1) (by omega) (by rw [dv hk];exact List.mem_cons_self ..);have e:=lN W h2 h3 h4;have H:=a7i W j (by omega);have hb:=(Cd W h2 h3 h4).2;rw [h4] at H;rw [e];cases hh:(fP s j).2 with
 | nil=>rw [hh] at H;exact H.elim
 | cons a h =>
  rw [hh] at H hb;obtain ⟨⟨l,q1,q2,rfl⟩,_⟩:=H;grind
theorem VC (W:Wf s.ops) {i:Nat} (hi:i<s.ops.length) (hk:(ah s.ops i).kind=3):dr s i=dr s ((bE s.ops i).headD 0):=by
 cases hs:bE s.ops i with
 | nil=>exact absurd hs (W.pops i hi hk)
 | cons p t =>
  obtain ⟨h1,h2⟩:=Cd W hi hk hs;grind
end
end
abbrev cY (x:Int):BV := .c (.p (.val (.int .u64 x)))
theorem xA {a:Int} (h0:0≤a) (h1:a<18446744073709551616):CK .u64 a 4294967295=a % 4294967296:=by
 obtain ⟨n,rfl⟩:=Int.eq_ofNat_of_zero_le h0;have e:(BitVec.ofInt 64 (n:Int)).toNat=n:=by rw [BitVec.toNat_ofInt];omega
 show IntKind.u64.wrap (BitVec.ofInt 64 (n:Int) &&& BitVec.ofInt 64 4294967295).toNat=_;rw [BitVec.toNat_and,e,show (BitVec.ofInt 64 4294967295).toNat=2 ^ 32 - 1 by decide,Nat.and_two_pow_sub_one_eq_mod,rI (by omega) (by omega)];omega
theorem AO {a:Int} (h0:0≤a):a.fdiv (2 ^ min 32 64)=a / 4294967296:=by grind
theorem SY {p q r s : Int} (hp : 0 ≤ p) (hp2 : p ≤ 18446744065119617025) (hq : 0 ≤ q) (hq2 : q ≤ 18446744065119617025) (hr : 0 ≤ r) (hr2 : r ≤ 18446744065119617025) (hs : 0 ≤ s) (hs2 : s ≤ 18446744065119617025) (hz : (s * 18446744073709551616 + (q + r) * 4294967296 + p) < 18446744073709551616 * 18446744073709551616) :
  IntKind.u64.wrap (IntKind.u64.wrap (IntKind.u64.wrap s+(IntKind.u64.wrap (IntKind.u64.wrap q+(IntKind.u64.wrap p) / 4294967296)) / 4294967296)+(IntKind.u64.wrap ((IntKind.u64.wrap (IntKind.u64.wrap q+(IntKind.u64.wrap p) / 4294967296)) % 4294967296+IntKind.u64.wrap r)) / 4294967296) =
   (s * 18446744073709551616+(q+r) * 4294967296+p) / 18446744073709551616:=by
 rw [rI hp (by omega),rI hq (by omega),rI hr (by omega),rI hs (by omega),rI (n:=q+p / 4294967296) (by omega) (by omega),rI (n:=(q+p / 4294967296) % 4294967296+r) (by omega) (by omega),
  rI (n:=s+(q+p / 4294967296) / 4294967296) (by omega) (by omega),rI (by omega) (by omega)]
 omega
theorem uF (a b : Int) (ha : 0 ≤ a) (ha2 : a < 18446744073709551616) (hb : 0 ≤ b) (hb2 : b < 18446744073709551616) :
  aB Sg 242 [cY a,cY b] (fun r=>r = .tup [cY (a * b / 18446744073709551616),cY (a * b % 18446744073709551616)]):=by
 refine az Tryz.func242 [.tmp 4, .tmp 5] ?_;repeat' (refine aC ?_)
 have hw:∀ n:Int,0≤IntKind.u64.wrap n∧IntKind.u64.wrap n<18446744073709551616:=fun n=>by grind [IntKind.wrap,IntKind.bits,IntKind.signed]
 have hlo:IntKind.u64.wrap (a * b)=a * b % 18446744073709551616:=by
  simp only [IntKind.wrap,IntKind.bits,IntKind.signed];simp
 have ea:a=a / 4294967296 * 4294967296+a % 4294967296:=by omega
 have eb:b=b / 4294967296 * 4294967296+b % 4294967296:=by omega
 have a1:a / 4294967296≤4294967295:=by omega
 have a0:a % 4294967296≤4294967295:=by omega
 have b1:b / 4294967296≤4294967295:=by omega
 have b0:b % 4294967296≤4294967295:=by omega
 have a1':0≤a / 4294967296:=by omega
 have a0':0≤a % 4294967296:=by omega
 have b1':0≤b / 4294967296:=by omega
 have b0':0≤b % 4294967296:=by omega
 rw [hlo,AO ha,AO hb,xA ha ha2,xA hb hb2,AO (hw _).1,xA (hw _).1 (hw _).2,AO (hw _).1,AO (hw _).1];have key:a * b=a / 4294967296 * (b / 4294967296) * 18446744073709551616+(a / 4294967296 * (b % 4294967296)+a % 4294967296 * (b / 4294967296)) * 4294967296+a % 4294967296 * (b % 4294967296):=by
  generalize a / 4294967296=x1 at *
  generalize a % 4294967296=x0 at *
  generalize b / 4294967296=y1 at *
  generalize b % 4294967296=y0 at *
  subst ea;subst eb;simp only [Int.add_mul,Int.mul_add,Int.mul_assoc];have e1:x1 * (4294967296 * (y1 * 4294967296))=x1 * (y1 * 18446744073709551616):=by congr 1;omega
  have e2:x1 * (4294967296 * y0)=x1 * (y0 * 4294967296):=by congr 1;omega
  omega
 have hz1:a * b≤18446744073709551615 * 18446744073709551615:=Int.mul_le_mul (by omega) (by omega) hb (by omega);have hz:a * b<18446744073709551616 * 18446744073709551616:=by omega
 rw [SY (Int.mul_nonneg a0' b0') (Int.mul_le_mul a0 b0 b0' (by omega)) (Int.mul_nonneg a1' b0') (Int.mul_le_mul a1 b0 b0' (by omega)) (Int.mul_nonneg a0' b1') (Int.mul_le_mul a0 b1 b1' (by omega)) (Int.mul_nonneg a1' b1') (Int.mul_le_mul a1 b1 b1' (by omega)) (by omega),← key]
theorem MR {d q n n0:Int} (hd:0<d) (e:d * q+n=n0) (h0:0≤n) (h1:n≤d) (ho:d % 2=1):cn n0 d=if n≥(d+1) / 2 then q+1 else q:=by
 split
 ·refine tf hd ?_ ?_
  ·grind
  grind
 ·refine tf hd ?_ ?_
  ·omega
  ·omega
structure IsSqrt (s A:Int):Prop where
 s0:0≤s
 le:s * s≤A
 lt:A<(s+1) * (s+1)
theorem IsSqrt.iff {s A n:Int} (h:IsSqrt s A) (hn:0≤n):n * n≤A↔n≤s:=by
 refine ⟨fun q => ?_,fun q => ?_⟩
 ·refine Int.not_lt.1 fun c => ?_;have:=nZ (a:=s+1) (b:=n) (by have:=h.s0;omega) (by omega);have:=h.lt;omega
 ·exact Int.le_trans (nZ hn q) h.le
theorem IR {x:Ex} {s:Int} (h:ExOk x) (hs:IsSqrt s (x.q * x.q * x.r)):en x=(x.p+s) / x.d:=by
 obtain ⟨h1,h2,h3,h4⟩:=ki h;have hd:=h.d0;have key:∀ n,0≤n→(pa x 1 n=true↔n * x.d≤x.p+s):=fun n hn=>by
  simp only [pa,decide_eq_true_eq,Int.one_mul];have hs0:=hs.s0;rcases Int.le_total (n * x.d) x.p with q|q
  ·omega
  ·rw [hs.iff (show 0≤n * x.d - x.p by omega)];omega
 have e1:=(key _ h3).1 h1;have e2:¬ (en x+1) * x.d≤x.p+s:=fun q=>by grind
 generalize en x=f at *
 have a1:f≤(x.p+s) / x.d:=(Int.le_ediv_iff_mul_le (by omega)).2 e1;have a2:(x.p+s) / x.d<f+1:=(Int.ediv_lt_iff_lt_mul (by omega)).2 (by omega);omega
theorem a4x {x : Ex} {f k : Int} (hk : (2 * f + 1) * x.d - 2 * x.p = k) :
  (pa x 2 (2 * f+1)=true↔k≤0∨0<k∧(if k % 2=0 then k / 2 * (k / 2)≤x.q * x.q * x.r else k / 2 * (k / 2)+k / 2<x.q * x.q * x.r)):=by
 have e4:2 * x.q * (2 * x.q) * x.r=4 * (x.q * x.q * x.r):=by grind
 simp only [pa,decide_eq_true_eq];rw [e4,hk];generalize x.q * x.q * x.r=A;rcases Decidable.em (0<k) with c|c
 ·have hm:=Int.mul_ediv_add_emod k 2;generalize k / 2=m at *
  have hkk:k * k=4 * (m * m)+4 * (m * (k % 2))+k % 2 * (k % 2):=by
   have:k=2 * m+k % 2:=by omega
   generalize k % 2=o at *
   rw [this];grind
  grind
 omega
theorem SF {A:Int} (h0:0≤A) (h1:A<2 ^ 64 * 2 ^ 64):IsSqrt (zK (fun n=>decide (n * n≤A)) 64 0) A:=by
 have hm:∀ a b:Int,0≤a→a≤b→b * b≤A→a * a≤A:=fun a b ha hab h=>Int.le_trans (nZ ha hab) h;have key:∀ (i:Nat) (n:Int),0≤n→n * n≤A→A<(n+2 ^ i) * (n+2 ^ i)→IsSqrt (zK (fun n=>decide (n * n≤A)) i n) A:=by
  intro i
  induction i with
  | zero=>exact fun n hn a b=>⟨hn,a,by grind [zK]⟩
  | succ i ih =>
   grind [zK]
 grind
section
structure DigI (u d y1 y0 q r:Int):Prop where
 q0:0≤q
 r0:0≤r
 e:q * y1+r=u
 lt:u * 4294967296+d<(q+1) * (y1 * 4294967296+y0)
structure DigP (u d y1 y0:Int):Prop where
 u0:0≤u
 uy:u<y1 * 4294967296+y0
 d0:0≤d
 d1:d<4294967296
 a0:2147483648≤y1
 a1:y1<4294967296
 b0:0≤y0
 b1:y0<4294967296
section
variable {u d y1 y0 q r:Int}
theorem Ep {q:Int}:q * (y1 * 4294967296+y0)=q * y1 * 4294967296+q * y0:=by grind
theorem DB (P:DigP u d y1 y0):DigI u d y1 y0 (u / y1) (u - u / y1 * y1):=by
 obtain ⟨u0,uy,d0,d1,a0,a1,b0,b1⟩:=P;have hq:0≤u / y1:=Int.ediv_nonneg u0 (by omega);have h1:=Int.mul_ediv_add_emod u y1;have h2:=Int.emod_nonneg u (show y1≠0 by omega);have h3:=Int.emod_lt_of_pos u (show 0<y1 by omega);rw [Int.mul_comm] at h1;generalize u / y1=q at *
 refine ⟨hq,by omega,by omega, ?_⟩;rw [Ep];have h4:0≤(q+1) * y0:=Int.mul_nonneg (by omega) b0;grind
theorem vA (P:DigP u d y1 y0) (I:DigI u d y1 y0 q r) (h:4294967296≤q∨4294967296 * r+d<q * y0):DigI u d y1 y0 (q - 1) (r+y1):=by
 obtain ⟨u0,uy,d0,d1,a0,a1,b0,b1⟩:=P;obtain ⟨q0,r0,e,lt⟩:=I;have hq:1≤q:=by
  rcases h with h|h
  ·omega
  ·grind
 have e2:(q - 1) * y1=q * y1 - y1:=by rw [Int.sub_mul,Int.one_mul]
 refine ⟨by omega,by omega,by omega, ?_⟩;rw [show q - 1+1=q by omega,Ep];rcases h with h|h
 ·have h1:4294967296 * (y1 * 4294967296+y0)≤q * (y1 * 4294967296+y0):=Int.mul_le_mul_of_nonneg_right h (by omega);grind
 ·omega
theorem sQ (P:DigP u d y1 y0) (I:DigI u d y1 y0 q r) (h:q * y0≤4294967296 * r+d):q=(u * 4294967296+d) / (y1 * 4294967296+y0)∧q<4294967296∧u * 4294967296+d - q * (y1 * 4294967296+y0)=(u * 4294967296+d) % (y1 * 4294967296+y0):=by
 obtain ⟨u0,uy,d0,d1,a0,a1,b0,b1⟩:=P;obtain ⟨q0,r0,e,lt⟩:=I;have h1:q * (y1 * 4294967296+y0)≤u * 4294967296+d:=by rw [Ep];omega
 have hy:0<y1 * 4294967296+y0:=by omega
 have e1:q=(u * 4294967296+d) / (y1 * 4294967296+y0):=by
  have a:q≤(u * 4294967296+d) / (y1 * 4294967296+y0):=(Int.le_ediv_iff_mul_le hy).2 h1;have b:(u * 4294967296+d) / (y1 * 4294967296+y0)<q+1:=(Int.ediv_lt_iff_lt_mul hy).2 lt;omega
 refine ⟨e1, ?_, ?_⟩
 ·refine Int.not_le.1 fun c => ?_;have h2:4294967296 * (y1 * 4294967296+y0)≤q * (y1 * 4294967296+y0):=Int.mul_le_mul_of_nonneg_right c (by omega);omega
 ·have:=Int.mul_ediv_add_emod (u * 4294967296+d) (y1 * 4294967296+y0);grind
theorem tB (P:DigP u d y1 y0) (I:DigI u d y1 y0 q r) (h:4294967296≤r):q * y0≤4294967296 * r+d:=by
 obtain ⟨u0,uy,d0,d1,a0,a1,b0,b1⟩:=P;obtain ⟨q0,r0,e,lt⟩:=I;have hq:q≤4294967296:=by
  refine Int.not_lt.1 fun c => ?_;have h2:4294967297 * y1≤q * y1:=Int.mul_le_mul_of_nonneg_right c (by omega);omega
 have h3:q * y0≤4294967296 * 4294967295:=Int.mul_le_mul hq (by omega) b0 (by omega);omega
theorem EL (P:DigP u d y1 y0) (I:DigI u d y1 y0 q r):q≤8589934592:=by
 obtain ⟨u0,uy,d0,d1,a0,a1,b0,b1⟩:=P;obtain ⟨q0,r0,e,lt⟩:=I;refine Int.not_lt.1 fun c => ?_;have h2:q * 2147483648≤q * y1:=Int.mul_le_mul_of_nonneg_left a0 q0;omega
end
theorem OB {a y k:Int} (hk:0<k) (hy:0<y):a * k / (y * k)=a / y∧a * k % (y * k)=a % y * k:=by
 have h:=Int.mul_ediv_add_emod a y;have h2:=Int.emod_nonneg a (show y≠0 by omega);have h3:=Int.emod_lt_of_pos a hy;refine ⟨Int.mul_ediv_mul_of_pos_left a y hk, ?_⟩;rw [Int.mul_comm a,Int.mul_comm y,Int.mul_emod_mul_of_pos _ _ hk,Int.mul_comm]
theorem Lz {t a b y q1 q0 r1 : Int} (hy : 0 < y) (h1 : q1 = (t * 4294967296 + a) / y) (hr : r1 = (t * 4294967296 + a) % y) (h0 : q0 = (r1 * 4294967296 + b) / y) (hb : 0 ≤ b ∧ b < 4294967296) :
  q1 * 4294967296+q0=(t * 18446744073709551616+(a * 4294967296+b)) / y∧(r1 * 4294967296+b) % y=(t * 18446744073709551616+(a * 4294967296+b)) % y:=by
 have e1:=Int.mul_ediv_add_emod (t * 4294967296+a) y;have e2:=Int.mul_ediv_add_emod (r1 * 4294967296+b) y;have m0:=Int.emod_nonneg (r1 * 4294967296+b) (show y≠0 by omega);have m1:=Int.emod_lt_of_pos (r1 * 4294967296+b) hy;rw [← h1,← hr] at e1;rw [← h0] at e2;have e3:t * 18446744073709551616+(a * 4294967296+b)=y * (q1 * 4294967296+q0)+(r1 * 4294967296+b) % y:=by
  have:y * (q1 * 4294967296+q0)=y * q1 * 4294967296+y * q0:=by rw [Int.mul_add,Int.mul_assoc]
  omega
 generalize (r1 * 4294967296+b) % y=m at *
 rw [e3];constructor
 ·rw [Int.mul_add_ediv_left _ _ (by omega),Int.ediv_eq_zero_of_lt m0 m1,Int.add_zero]
 ·rw [Int.mul_add_emod_self_left,Int.emod_eq_of_lt m0 m1]
end
end Go.Proofs.YtdjmpacladhijaaGreatDoor
