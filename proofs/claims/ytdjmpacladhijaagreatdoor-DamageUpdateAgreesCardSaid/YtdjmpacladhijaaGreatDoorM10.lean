/- Part of the proof: F17, W4. -/
import Derived.Test.YtdjmpacladhijaaGreatDoorM9
set_option linter.unusedSimpArgs false
set_option linter.unusedVariables false
set_option maxHeartbeats 4000000
set_option maxRecDepth 16000
namespace Go.Proofs.YtdjmpacladhijaaGreatDoor
open Go Go.SL
open Go.RowKit (wrap64)
def bn (l:List Op) (o:Op):List Op:=if o.kind=2 then l ++ [o] else if o.kind=3 then l.dropLast else l
def ij (b:Int) (n:Nat):Nat→List Op→List Op→Int × Int
 | i,[],l=>if 0<l.length then (18,i) else (0,0)
 | i,o :: r,l=>if dM b n o l=0 then ij b n (i+1) r (bn l o) else (dM b n o l,i)
def gu (s:Script):Int × Int:=if bJ s=0 then ij s.bits s.images.length 0 s.ops [] else (bJ s,0)
theorem na {b : Int} {n : Nat} {ops : List Op} {i : Nat} {l : List Op} (hi : i < ops.length) : ij b n i (ops.drop i) l =
  if dM b n (ops.getD i default) l=0 then ij b n (i+1) (ops.drop (i+1)) (bn l (ops.getD i default)) else (dM b n (ops.getD i default) l,(i:Int)):=by
 rw [List.drop_eq_getElem_cons hi,List.getD_eq_getElem?_getD,List.getElem?_eq_getElem hi];rfl
theorem xb {s:Script} (h:bJ s=0):s.images.length≤64∧s.ops.length≤4096:=by
 unfold bJ at h;omega
theorem El {l:List Op} {g:Nat→Nat→PV} (hg:∀ k,k<l.length→∀ j,j<12→g k j=aQ cC l k j):BV.le (.c (.p (.lst 12 l.length g))) (.c (.p (kU l))) :=
 qJ (gX hg)
theorem Ef {l : List Op} {o : Op} {g f : Nat → Nat → PV} (hg : ∀ k, k < l.length → ∀ j, j < 12 → g k j = aQ cC l k j) (hf : ∀ j, j < 12 → f 0 j = (cC o).getD j .any) :
  ∀ i,i<(l ++ [o]).length→∀ j,j<12→PV.le (dV l.length g f i j) (aQ cC (l ++ [o]) i j):=fun i hi j hj=>by
 rw [List.length_append] at hi;have:=gD (enc:=cC) (xs:=l) (x:=o) (s:=12) (g:=f) hf i hi j hj;grind [dV]
theorem HB {l:List Op} {g:Nat→Nat→PV} (hg:∀ k,k<l.length→∀ j,j<12→g k j=aQ cC l k j):∀ k,k<l.dropLast.length→∀ j,j<12→g k j=aQ cC l.dropLast k j:=fun k hk j hj=>by grind [aQ]
theorem DH {b:Int} {n:Nat} {o:Op} {l:List Op} (h:dM b n o l=0) (hk:o.kind=3):0<l.length:=by
 unfold dM at h;omega
theorem kW (s:Script) (hs:ScriptLen s):aB Sg 60 [ag (ay s)] (fun x=>x = .tup [I (gu s).1,I (gu s).2]):=by
 have hf:=AV s hs;obtain ⟨h1,h2,h3⟩:=id hs;refine az Tryz.func60 [.tmp 2, .tmp 3] ?_
 repeat' (first|refine aw ?_|refine an (fun K hK => ?_)|refine aa (hf) ?_|(refine aH (fun hb => ?_) (fun hb => ?_) <;> try exact ax)|(refine aq hK ?_;try clear hK K))
 ·grind [gu]
 have hfo:=xb hb;rw [gu,if_pos hb];clear hf
 refine aK (X:=Nat × List Op × Nat × (Nat→Nat→PV)) (fun x=>aP [(1, .b (.c (.ptr 0 0))),(5, .b (.c (.own 1 x.2.1.length))),(15, .b (.c (.p (kU s.ops)))),(16, .b (I s.ops.length)),(17, .b (I x.1))]
  [(0, .fix ((ay s).map CV.p)),(1, .arr 33 12 x.2.2.1 x.2.2.2)] 2) (fun x=>x.1≤s.ops.length∧x.2.1.length≤x.1∧x.2.1.length≤x.2.2.1∧(∀ k,k<x.2.1.length→∀ j,j<12→x.2.2.2 k j=aQ cC x.2.1 k j) ∧
   ij s.bits s.images.length x.1 (s.ops.drop x.1) x.2.1=ij s.bits s.images.length 0 s.ops []) (fun x=>s.ops.length - x.1) (0,[],0,fun _ _ => .any) ?_ ?_ ?_
 ·grind
 ·refine ar [(1,none)] ?_ ?_;and_intros;all_goals try exact ak
 ·rintro ⟨i,l,m,g⟩ ⟨hi,hl,hm,hg,hgo⟩;dsimp only at hi hl hm hg hgo ⊢;have hv:=Qs s i l hs (by omega);have he:i<s.ops.length→iO s i l=dM s.bits s.images.length (s.ops.getD i default) l:=fun h=>by rw [iO,if_neg (by omega),Int.toNat_natCast]
  have hpop:i<s.ops.length→iO s i l=0→(s.ops.getD (i:Int).toNat default).kind=3→0<l.length:=fun h1 h2 h3=>by grind [DH,iO,dM]
  repeat' (first|refine aw ?_|refine an (fun K hK => ?_)|(refine aH (fun hb => ?_) (fun hb => ?_) <;> try exact ax)|(refine aq hK ?_;try clear hK K))
  ·refine fT ?_ ?_ ba ?_ (hv);try simp (maxSteps:=999999)(disch:=omega) only [go_sem]
   try (refine hK _ ?_;clear hK K)
   ·repeat' (first|refine aC ?_|((first|apply dC|apply dE);(case hf=>rfl);(case hc=>exact du);all_goals try (intro hb;try simp only [nR] at hb))|exact bd|(refine aH (fun hb => ?_) (fun hb => ?_) <;> try exact ax))
    ·grind [ij,na]
    ·have hn:∀ l',bn l (s.ops.getD i default)=l'→ij s.bits s.images.length (i+1) (s.ops.drop (i+1)) l'=ij s.bits s.images.length 0 s.ops []:=by
      rintro l' rfl;have q:=na (b:=s.bits) (n:=s.images.length) (l:=l) (show i<s.ops.length by omega);rw [if_pos (by omega)] at q;rw [← q,hgo]
     rw [ae];simp only [Int.toNat_natCast] at hpop ⊢;by_cases hk2:(s.ops.getD i default).kind=2
     ·have e2:((s.ops.getD i default).kind == 2)=true:=by rw [hk2];rfl
      simp only [e2,St.ite_t];refine ao (i+1,l ++ [s.ops.getD i default],l.length+1,aQ cC (l ++ [s.ops.getD i default])) ?_ ⟨by omega,by simp;omega,by simp,fun _ _ _ _=>rfl,hn _ (by grind [bn])⟩ (by omega);refine ar [(1,some 4)] ?_ ?_;and_intros;all_goals try exact ak
      ·simp
      ·refine .inr fun a ha j hj=>Ef hg (fun j hj => ?_) a (by grind) j hj;have hivl:j=0∨j=1∨j=2∨j=3∨j=4∨j=5∨j=6∨j=7∨j=8∨j=9∨j=10∨j=11:=by omega
       rcases hivl with rfl|rfl|rfl|rfl|rfl|rfl|rfl|rfl|rfl|rfl|rfl|rfl <;> rfl
     ·have e2:((s.ops.getD i default).kind == 2)=false:=by simpa using hk2
      simp only [e2,St.ite_f];by_cases hk3:(s.ops.getD i default).kind=3
      ·have e3:((s.ops.getD i default).kind == 3)=true:=by rw [hk3];rfl
       simp only [e3,St.ite_t];have hp:=hpop (by omega) hb hk3;refine ao (i+1,l.dropLast,m,g) ?_ ⟨by omega,by grind,by grind,HB hg,hn _ (by grind [bn])⟩ (by omega);refine ar [(1,some 1)] ?_ ?_;and_intros;all_goals try exact ak
       grind
      ·have e3:((s.ops.getD i default).kind == 3)=false:=by simpa using hk3
       simp only [e3,St.ite_f];refine ao (i+1,l,m,g) ?_ ⟨by omega,by grind,hm,hg,hn _ (by grind [bn])⟩ (by omega);refine ar [(1,some 1)] ?_ ?_;and_intros;all_goals try exact ak
   ·simp (maxSteps:=1000000) (disch:=omega) only [go_sem,fi,fY];rw [if_pos hm];exact ⟨jm,jm,El hg⟩
   ·trivial
  ·grind [ij]
  grind [ij]
section
def il (n:Nat):Nat:=if n=0 then 0 else n.log2+1
theorem tr {n:Nat} (h:0<n):1≤il n∧2 ^ (il n - 1)≤n∧n<2 ^ il n:=by
 unfold il;rw [if_neg (by omega)];refine ⟨by omega, ?_,Nat.lt_log2_self⟩;rw [Nat.add_sub_cancel];exact Nat.log2_self_le (by omega)
theorem RQ {n a:Nat} (h1:2 ^ a≤n) (h2:n<2 ^ (a+1)):il n=a+1:=by
 have h0:0<n:=Nat.lt_of_lt_of_le (Nat.pow_pos (by decide)) h1;obtain ⟨b0,b1,b2⟩:=tr h0;generalize il n=b at *
 have c1:a<b:=(Nat.pow_lt_pow_iff_right (by decide)).1 (Nat.lt_of_le_of_lt h1 b2);have c2:b - 1<a+1:=(Nat.pow_lt_pow_iff_right (by decide)).1 (Nat.lt_of_le_of_lt b1 h2);omega
theorem PK {n k:Nat} (h:2 ^ k≤n):il n=il (n / 2 ^ k)+k:=by
 have hp:0<2 ^ k:=Nat.pow_pos (by decide);have h0:0<n / 2 ^ k:=Nat.div_pos h hp;obtain ⟨b0,b1,b2⟩:=tr h0;generalize il (n / 2 ^ k)=b at *
 have e1:2 ^ (b - 1) * 2 ^ k≤n:=(Nat.le_div_iff_mul_le hp).1 b1;have e2:n<2 ^ b * 2 ^ k:=(Nat.div_lt_iff_lt_mul hp).1 b2;rw [← Nat.pow_add] at e1 e2;grind [RQ]
theorem a8j (a:Int):a.fdiv (2 ^ min 32 64)=a / 4294967296:=by grind
theorem a7R (a:Int):a.fdiv (2 ^ min 16 64)=a / 65536:=by grind
theorem fs8 (a:Int):a.fdiv (2 ^ min 8 64)=a / 256:=by grind
attribute [local go_sem] a8j a7R fs8
theorem Wq (n:Int):IntKind.u8.wrap n=n % 256:=by grind [IntKind.wrap,IntKind.bits,IntKind.signed]
theorem mg {x v:Int} {k:Nat} (hv:v=((2 ^ k:Nat):Int)) (h:x≥v):il x.toNat=il (x / v).toNat+k:=by
 have hp:0<2 ^ k:=Nat.pow_pos (by decide);obtain ⟨n,rfl⟩:=Int.eq_ofNat_of_zero_le (show 0≤x by omega);subst hv;rw [← Int.natCast_ediv,Int.toNat_natCast,Int.toNat_natCast];grind [PK]
theorem oF {tab : ByteArray} (hz : tab.size = 256) (hg : ∀ k, k < 256 → (tab.get! k).toNat = il k) {x y : Int} {k : Int} (h0 : 0 ≤ y) (h1 : y < 256) (hk : 0 ≤ k ∧ k ≤ 56) (hl : (il x.toNat : Int) = il y.toNat + k) :
  IntKind.u8.wrap y<tab.size∧SV.b (BV.c (CV.p (PV.val (Value.int IntKind.i64 (IntKind.i64.wrap (k+IntKind.i64.wrap ((tab.get! (IntKind.u8.wrap y).toNat).toNat:Int)))))))=SV.b (I (il x.toNat)):=by
 have hw:IntKind.u8.wrap y=y:=by rw [Wq];omega
 have hb:(tab.get! y.toNat).toNat<256:=(tab.get! y.toNat).toNat_lt;have he:=hg y.toNat (by omega)
 rw [hw,hz];refine ⟨h1, ?_⟩;rw [he] at hb ⊢;rw [eK (n:=((il y.toNat:Nat):Int)) (by omega) (by omega),eK (by omega) (by omega),hl,Int.add_comm]
theorem Ug (x:Int) (h:Q64 x):aB Sg 278 [cY x] (fun r=>r = .b (I (il x.toNat))):=by
 obtain ⟨x0,xu⟩:=h;refine az Tryz.func278 [.tmp 2] ?_;generalize hT:ByteArray.mk _=tab;have hz:tab.size=256:=by rw [← hT];rfl
 have hg:∀ k,k<256→(tab.get! k).toNat=il k:=by rw [← hT];decide +kernel
 clear hT;by_cases c1:x≥4294967296
 ·have g1:decide (x≥4294967296)=true:=decide_eq_true c1;by_cases c2:x / 4294967296≥65536
  ·have g2:decide (x / 4294967296≥65536)=true:=decide_eq_true c2;by_cases c3:x / 4294967296 / 65536≥256
   ·have g3:decide (x / 4294967296 / 65536≥256)=true:=decide_eq_true c3;have hl:(il x.toNat:Int)=il (x / 4294967296 / 65536 / 256).toNat+56:=by
     rw [mg (x:=x) (k:=32) (v:=4294967296) (by decide) c1];rw [mg (x:=x / 4294967296) (k:=16) (v:=65536) (by decide) c2];rw [mg (x:=x / 4294967296 / 65536) (k:=8) (v:=256) (by decide) c3];omega
    have hf:=oF hz hg (x:=x) (y:=x / 4294967296 / 65536 / 256) (k:=56) (by omega) (by omega) (by omega) hl;repeat' (first|refine aj (And.intro g1 (And.intro g2 g3)) ?_|refine aC ?_)
    exact hf.2
   ·have g3:decide (x / 4294967296 / 65536≥256)=false:=decide_eq_false c3;have hl:(il x.toNat:Int)=il (x / 4294967296 / 65536).toNat+48:=by
     rw [mg (x:=x) (k:=32) (v:=4294967296) (by decide) c1];rw [mg (x:=x / 4294967296) (k:=16) (v:=65536) (by decide) c2];omega
    have hf:=oF hz hg (x:=x) (y:=x / 4294967296 / 65536) (k:=48) (by omega) (by omega) (by omega) hl;repeat' (first|refine aj (And.intro g1 (And.intro g2 g3)) ?_|refine aC ?_)
    exact hf.2
  ·have g2:decide (x / 4294967296≥65536)=false:=decide_eq_false c2;by_cases c3:x / 4294967296≥256
   ·have g3:decide (x / 4294967296≥256)=true:=decide_eq_true c3;have hl:(il x.toNat:Int)=il (x / 4294967296 / 256).toNat+40:=by
     rw [mg (x:=x) (k:=32) (v:=4294967296) (by decide) c1];rw [mg (x:=x / 4294967296) (k:=8) (v:=256) (by decide) c3];omega
    have hf:=oF hz hg (x:=x) (y:=x / 4294967296 / 256) (k:=40) (by omega) (by omega) (by omega) hl;repeat' (first|refine aj (And.intro g1 (And.intro g2 g3)) ?_|refine aC ?_)
    exact hf.2
   ·have g3:decide (x / 4294967296≥256)=false:=decide_eq_false c3;have hl:(il x.toNat:Int)=il (x / 4294967296).toNat+32:=by
     rw [mg (x:=x) (k:=32) (v:=4294967296) (by decide) c1];omega
    have hf:=oF hz hg (x:=x) (y:=x / 4294967296) (k:=32) (by omega) (by omega) (by omega) hl;repeat' (first|refine aj (And.intro g1 (And.intro g2 g3)) ?_|refine aC ?_)
    exact hf.2
 ·have g1:decide (x≥4294967296)=false:=decide_eq_false c1;by_cases c2:x≥65536
  ·have g2:decide (x≥65536)=true:=decide_eq_true c2;by_cases c3:x / 65536≥256
   ·have g3:decide (x / 65536≥256)=true:=decide_eq_true c3;have hl:(il x.toNat:Int)=il (x / 65536 / 256).toNat+24:=by
     rw [mg (x:=x) (k:=16) (v:=65536) (by decide) c2];rw [mg (x:=x / 65536) (k:=8) (v:=256) (by decide) c3];omega
    have hf:=oF hz hg (x:=x) (y:=x / 65536 / 256) (k:=24) (by omega) (by omega) (by omega) hl;repeat' (first|refine aj (And.intro g1 (And.intro g2 g3)) ?_|refine aC ?_)
    exact hf.2
   ·have g3:decide (x / 65536≥256)=false:=decide_eq_false c3;have hl:(il x.toNat:Int)=il (x / 65536).toNat+16:=by
     rw [mg (x:=x) (k:=16) (v:=65536) (by decide) c2];omega
    have hf:=oF hz hg (x:=x) (y:=x / 65536) (k:=16) (by omega) (by omega) (by omega) hl;repeat' (first|refine aj (And.intro g1 (And.intro g2 g3)) ?_|refine aC ?_)
    exact hf.2
  ·have g2:decide (x≥65536)=false:=decide_eq_false c2;by_cases c3:x≥256
   ·have g3:decide (x≥256)=true:=decide_eq_true c3;have hl:(il x.toNat:Int)=il (x / 256).toNat+8:=by
     rw [mg (x:=x) (k:=8) (v:=256) (by decide) c3];omega
    have hf:=oF hz hg (x:=x) (y:=x / 256) (k:=8) (by omega) (by omega) (by omega) hl;repeat' (first|refine aj (And.intro g1 (And.intro g2 g3)) ?_|refine aC ?_)
    exact hf.2
   ·have g3:decide (x≥256)=false:=decide_eq_false c3;have hl:(il x.toNat:Int)=il (x).toNat+0:=by omega
    have hf:=oF hz hg (x:=x) (y:=x) (k:=0) (by omega) (by omega) (by omega) hl;repeat' (first|refine aj (And.intro g1 (And.intro g2 g3)) ?_|refine aC ?_)
    exact hf.2
theorem Nl {x:Int} (h:Q64 x):il x.toNat≤64:=by
 obtain ⟨h0,h1⟩:=h;rcases Nat.eq_zero_or_pos x.toNat with q|q
 ·rw [q];decide
 ·obtain ⟨b0,b1,b2⟩:=tr q;refine Nat.not_lt.1 fun c => ?_;have:2 ^ 64≤2 ^ (il x.toNat - 1):=Nat.pow_le_pow_right (by decide) (by omega);omega
theorem VP (x:Int) (h:Q64 x):aB Sg 276 [cY x] (fun r=>r = .b (I (64 - il x.toNat))):=by
 have hl:=Ug x h;have hle:=Nl h;refine az Tryz.func276 [.tmp 2] ?_;repeat' (first|with_reducible exact cz|refine an (fun K hK => ?_)|refine aa (hl) ?_|refine aw ?_|(refine aq hK ?_;try clear hK K))
end
end Go.Proofs.YtdjmpacladhijaaGreatDoor
