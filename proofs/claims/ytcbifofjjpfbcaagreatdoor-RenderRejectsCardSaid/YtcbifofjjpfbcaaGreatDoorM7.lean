/- Part of the proof: F22, F4, F14, D1, D2, W1, W3. -/
import Derived.Test.YtcbifofjjpfbcaaGreatDoorM6
set_option linter.unusedSimpArgs false
set_option linter.unusedVariables false
set_option maxHeartbeats 8000000
set_option maxRecDepth 16000
namespace Go.Proofs.YtcbifofjjpfbcaaGreatDoor
open Go Go.SL
open Go.RowKit (wrap64)
def uB (k:Nat) (p:Pixel):Int:=match k with
 | 0=>p.c0
 | 1=>p.c1
 | 2=>p.c2
 | 3=>p.a
 | _=>p.f
def cF (w h:Int) (l:List Pixel) (k:Nat):Plane:=⟨w,h,w,l.map (uB k)⟩
def gQ (w h:Int) (l:List Pixel):Image:=⟨w,h,false,⟨0,0,0,0,0⟩,cF w h l 0,cF w h l 1,cF w h l 2,cF w h l 3,cF w h l 4⟩
def iY:Plane:=⟨0,0,0,[]⟩
def fB:Image:=⟨0,0,false,⟨0,0,0,0,0⟩,iY,iY,iY,iY,iY⟩
def cZ (w h:Int) (n:Nat):Bool:=cK w h && decide ((n:Int)=w * h)
def dd (w h:Int) (l:List Pixel):Image:=if cZ w h l.length=true then gQ w h l else fB
theorem dB {w h:Int} (hf:cK w h=true):1≤w∧1≤h∧1≤w * h∧w * h≤16777216∧w≤16777216∧h≤16777216:=by
 simp only [cK,decide_eq_true_eq] at hf;obtain ⟨h1,h2,h3,h4⟩:=hf;have h5:w * h≤w * (16777216 / w):=Int.mul_le_mul_of_nonneg_left h4 (by omega);have h6:w * (16777216 / w)≤16777216:=Int.mul_ediv_self_le (by omega);have h7:1 * 1≤w * h:=Int.mul_le_mul h1 h2 (by omega) (by omega);have h8:16777216 / w≤16777216:=Int.ediv_le_self _ (by omega);omega
def cS (l:List Pixel) (q i k:Nat):Nat→Nat→PV:=fun a _=>PU (if a<i∨a=i∧q<k then uB q (l.getD a default) else 0)
def iq (w h:Int) (x q n:Nat):List CV:=if q<x then [.p (PI w), .p (PI h), .p (PI w), .own (2+q) n] else [.p (PI 0), .p (PI 0), .p (PI 0), .p EI]
def lO (w h:Int) (n x:Nat):List CV:=[.p (PI w), .p (PI h), .p (PB false), .p (PU 0), .p (PU 0), .p (PU 0), .p (PU 0), .p (PU 0)] ++ iq w h x 0 n ++ iq w h x 1 n ++ iq w h x 2 n ++ iq w h x 3 n ++ iq w h x 4 n
def lS (w h:Int) (n x:Nat) (l:List Pixel):List (Nat × Bx):=[(0, .fix ((aI fB).map CV.p)),(1, .fix (lO w h n x))] ++ (if 0<x then [(2, .arr 34 1 n (cS l 0 0 0))] else []) ++ (if 1<x then [(3, .arr 34 1 n (cS l 1 0 0))] else []) ++ (if 2<x then [(4, .arr 34 1 n (cS l 2 0 0))] else []) ++ (if 3<x then [(5, .arr 34 1 n (cS l 3 0 0))] else []) ++ (if 4<x then [(6, .arr 34 1 n (cS l 4 0 0))] else [])
theorem jH {l:List Pixel} {q a j:Nat}:cS l q 0 0 a j=PU 0:=by rw [cS,if_neg (by omega)]
theorem dg {l:List Pixel} {q i k:Nat} (h:q≠k):cS l q i k=cS l q i (k+1):=by
 funext a j;unfold cS;by_cases c:a<i∨a=i∧q<k
 ·rw [if_pos c,if_pos (by omega)]
 ·rw [if_neg c,if_neg (by omega)]
theorem qq {l:List Pixel} {q i a j:Nat}:(if a=i then PU (uB q (l.getD i default)) else cS l q i q a j)=cS l q i (q+1) a j:=by
 unfold cS;by_cases c:a=i
 ·rw [if_pos c,if_pos (by omega),c]
 ·rw [if_neg c];by_cases d:a<i
  ·rw [if_pos (by omega),if_pos (by omega)]
  ·rw [if_neg (by omega),if_neg (by omega)]
theorem oA {l:List Pixel} {q i:Nat} (h:q<3):cS l q i 3=cS l q (i+1) 0:=by
 funext a j;unfold cS;by_cases c:a<i∨a=i∧q<3
 ·rw [if_pos c,if_pos (by omega)]
 ·rw [if_neg c,if_neg (by omega)]
theorem ur {l:List Pixel} {q i a j:Nat} (h:3≤q):(if a=i then PU (uB q (l.getD i default)) else cS l q i 3 a j)=cS l q (i+1) 0 a j:=by
 unfold cS;by_cases c:a=i
 ·rw [if_pos c,if_pos (by omega),c]
 ·rw [if_neg c];by_cases d:a<i
  ·rw [if_pos (by omega),if_pos (by omega)]
  ·rw [if_neg (by omega),if_neg (by omega)]
theorem Mf {w h:Int} {l:List Pixel} {q:Nat}:PV.le (.lst 1 l.length (cS l q l.length 0)) (.lst 1 (cF w h l q).s.length (bK uC (cF w h l q).s)):=by
 have e:(cF w h l q).s.length=l.length:=by simp [cF]
 rw [e];refine gX fun a ha j hj => ?_;have:j=0:=by omega
 subst this;have e2:(cF w h l q).s.getD a default=uB q (l.getD a default):=by simp only [cF,List.getD_eq_getElem?_getD,List.getElem?_map,List.getElem?_eq_getElem ha,Option.map_some,Option.getD_some]
 rw [cS,if_pos (by omega),bK,e2];rfl
theorem kh (w h : Int) (l : List Pixel) (hl : l.length ≤ 4611686018427387904) :
  aA Sg 37 [I w,I h, .c (.p (pX l))] (fun r=>r = .tup [ag (aI (dd w h l)),B (cZ w h l.length)]):=by
 refine dY ?_;refine aD Tryz.func37 [.cell 6 43, .tmp 7] ?_
 repeat' (first|refine ax ?_|refine an (fun K hK => ?_)|refine aa (iZ _ _) ?_|(refine aK (fun hb => ?_) (fun hb => ?_) <;> try exact aE)|(refine aq hK ?_;try clear hK K))
 ·have hok:cZ w h l.length=false:=by
   cases hf:cK w h with
   | false=>rw [cZ,hf];rfl
   | true =>
    have hb2:=dB hf;rw [hf,fY (n:=w * h) (by omega) (by omega)] at hb;rw [cZ,hf,decide_eq_false (by simpa using hb)];rfl
  rw [hok,dd,if_neg (by rw [hok];simp)];refine dq ⟨gj ?_,cX trivial,trivial⟩;simp only [List.map_cons,List.map_nil,dF,fx];and_intros;all_goals first|exact .inl rfl|exact .inl trivial|exact .inr ed|trivial|skip
 refine aH (X:=Nat) (fun x=>aT [(0, .b (I w)),(1, .b (I h)),(2, .b (.c (.p (pX l)))),(6, .b (.c (.ptr 0 0))),(8, .b (.c (.ptr 1 0))),(9, .b (I x))] (lS w h l.length x l) (2+x)) (fun x=>x≤5) (fun x=>5 - x) 0 ?_ ?_ ?_
 ·omega
 ·simp only [lS,lO,iq];refine au [(1,some 1)] ?_ ?_;and_intros;all_goals try exact aj
  all_goals exact ed
 ·intro x hx;have hw:IntKind.i64.wrap (w * h)=w * h:=by
   have:=dB hb.1;exact fY (by omega) (by omega)
  have hb2:=dB hb.1;rw [hw] at hb;have hx':x=0∨x=1∨x=2∨x=3∨x=4∨x=5:=by omega
  rcases hx' with rfl|rfl|rfl|rfl|rfl|rfl
  ·simp only [lS,lO,iq]
   repeat' (first|refine aC ?_|(refine aK (fun hb => ?_) (fun hb => ?_) <;> try exact aE))
   rw [ae];refine ak 1 ?_ (by omega) (by omega);refine au [(1,some 1),(2,some 2)] ?_ ?_;and_intros;all_goals try exact aj
   refine .inr fun a ha j hj => ?_;have:j=0:=by omega
   subst this;rw [jH];exact PV.le_refl _
  ·simp only [lS,lO,iq]
   repeat' (first|refine aC ?_|(refine aK (fun hb => ?_) (fun hb => ?_) <;> try exact aE))
   rw [ae];refine ak 2 ?_ (by omega) (by omega);refine au [(1,some 1),(2,some 2),(3,some 3)] ?_ ?_;and_intros;all_goals try exact aj
   refine .inr fun a ha j hj => ?_;have:j=0:=by omega
   subst this;rw [jH];exact PV.le_refl _
  ·simp only [lS,lO,iq]
   repeat' (first|refine aC ?_|(refine aK (fun hb => ?_) (fun hb => ?_) <;> try exact aE))
   rw [ae];refine ak 3 ?_ (by omega) (by omega);refine au [(1,some 1),(2,some 2),(3,some 3),(4,some 4)] ?_ ?_;and_intros;all_goals try exact aj
   refine .inr fun a ha j hj => ?_;have:j=0:=by omega
   subst this;rw [jH];exact PV.le_refl _
  ·simp only [lS,lO,iq]
   repeat' (first|refine aC ?_|(refine aK (fun hb => ?_) (fun hb => ?_) <;> try exact aE))
   rw [ae];refine ak 4 ?_ (by omega) (by omega);refine au [(1,some 1),(2,some 2),(3,some 3),(4,some 4),(5,some 5)] ?_ ?_;and_intros;all_goals try exact aj
   refine .inr fun a ha j hj => ?_;have:j=0:=by omega
   subst this;rw [jH];exact PV.le_refl _
  ·simp only [lS,lO,iq]
   repeat' (first|refine aC ?_|(refine aK (fun hb => ?_) (fun hb => ?_) <;> try exact aE))
   rw [ae];refine ak 5 ?_ (by omega) (by omega);refine au [(1,some 1),(2,some 2),(3,some 3),(4,some 4),(5,some 5),(6,some 6)] ?_ ?_;and_intros;all_goals try exact aj
   refine .inr fun a ha j hj => ?_;have:j=0:=by omega
   subst this;rw [jH];exact PV.le_refl _
  simp only [lS,lO,iq]
  repeat' (first|refine aC ?_|(refine aK (fun hb => ?_) (fun hb => ?_) <;> try exact aE))
  refine aH (X:=Nat) (fun i=>aT [(0, .b (I w)),(1, .b (I h)),(2, .b (.c (.p (pX l)))),(6, .b (.c (.ptr 0 0))),(8, .b (.c (.ptr 1 0))),(10, .b (I i))] [(0, .fix ((aI fB).map CV.p)),(1, .fix ([.p (PI w), .p (PI h), .p (PB false), .p (PU 0), .p (PU 0), .p (PU 0), .p (PU 0), .p (PU 0), .p (PI w), .p (PI h), .p (PI w), .own 2 l.length, .p (PI w), .p (PI h), .p (PI w), .own 3 l.length, .p (PI w), .p (PI h), .p (PI w), .own 4 l.length, .p (PI w), .p (PI h), .p (PI w), .own 5 l.length, .p (PI w), .p (PI h), .p (PI w), .own 6 l.length])),(2, .arr 34 1 l.length (cS l 0 i 0)),(3, .arr 34 1 l.length (cS l 1 i 0)),(4, .arr 34 1 l.length (cS l 2 i 0)),(5, .arr 34 1 l.length (cS l 3 i 0)),(6, .arr 34 1 l.length (cS l 4 i 0))] 7) (fun i=>i≤l.length) (fun i=>l.length - i) 0 ?_ ?_ ?_
  ·omega
  ·refine au [(1,some 1),(2,some 2),(3,some 3),(4,some 4),(5,some 5),(6,some 6)] ?_ ?_;and_intros;all_goals try exact aj
  ·intro i hi
   repeat' (first|refine aC ?_|(refine aK (fun hb => ?_) (fun hb => ?_) <;> try exact aE))
   ·refine aH (X:=Nat) (fun k=>aT [(0, .b (I w)),(1, .b (I h)),(2, .b (.c (.p (pX l)))),(6, .b (.c (.ptr 0 0))),(8, .b (.c (.ptr 1 0))),(10, .b (I i)),(11, .b (I k))] [(0, .fix ((aI fB).map CV.p)),(1, .fix ([.p (PI w), .p (PI h), .p (PB false), .p (PU 0), .p (PU 0), .p (PU 0), .p (PU 0), .p (PU 0), .p (PI w), .p (PI h), .p (PI w), .own 2 l.length, .p (PI w), .p (PI h), .p (PI w), .own 3 l.length, .p (PI w), .p (PI h), .p (PI w), .own 4 l.length, .p (PI w), .p (PI h), .p (PI w), .own 5 l.length, .p (PI w), .p (PI h), .p (PI w), .own 6 l.length])),(2, .arr 34 1 l.length (cS l 0 i k)),(3, .arr 34 1 l.length (cS l 1 i k)),(4, .arr 34 1 l.length (cS l 2 i k)),(5, .arr 34 1 l.length (cS l 3 i k)),(6, .arr 34 1 l.length (cS l 4 i k))] 7) (fun k=>k≤3) (fun k=>3 - k) 0 ?_ ?_ ?_
    ·omega
    ·refine au [(1,some 1),(2,some 2),(3,some 3),(4,some 4),(5,some 5),(6,some 6)] ?_ ?_;and_intros;all_goals try exact aj
    ·intro k hk;have hk':k=0∨k=1∨k=2∨k=3:=by omega
     rcases hk' with rfl|rfl|rfl|rfl
     ·repeat' (first|refine bU ?_|(refine an (fun K hK => ?_);and_intros;all_goals first|(refine hK _ ?_;clear hK K)|try exact ai)|(refine aK (fun hb => ?_) (fun hb => ?_);all_goals try exact aE))
      rw [ae];refine ak 1 ?_ (by omega) (by omega);refine au [(1,some 1),(2,some 2),(3,some 3),(4,some 4),(5,some 5),(6,some 6)] ?_ ?_;and_intros;all_goals try exact aj
      ·refine .inr fun a ha j hj => ?_;have:j=0:=by omega
       subst this;rw [← qq];simp only [Int.toNat_natCast];by_cases h:a=i
       ·rw [if_pos h,if_pos h];split
        ·exact PV.le_refl _
        ·rename_i hn;exact absurd ⟨Nat.le_refl _,by decide +kernel⟩ hn
       ·rw [if_neg h,if_neg h];exact PV.le_refl _
      ·exact .inl (dg (by decide))
      ·exact .inl (dg (by decide))
      ·exact .inl (dg (by decide))
      ·exact .inl (dg (by decide))
     ·repeat' (first|refine bU ?_|(refine an (fun K hK => ?_);and_intros;all_goals first|(refine hK _ ?_;clear hK K)|try exact ai)|(refine aK (fun hb => ?_) (fun hb => ?_);all_goals try exact aE))
      rw [ae];refine ak 2 ?_ (by omega) (by omega);refine au [(1,some 1),(2,some 2),(3,some 3),(4,some 4),(5,some 5),(6,some 6)] ?_ ?_;and_intros;all_goals try exact aj
      ·exact .inl (dg (by decide))
      ·refine .inr fun a ha j hj => ?_;have:j=0:=by omega
       subst this;rw [← qq];simp only [Int.toNat_natCast];by_cases h:a=i
       ·rw [if_pos h,if_pos h];split
        ·exact PV.le_refl _
        ·rename_i hn;exact absurd ⟨Nat.le_refl _,by decide +kernel⟩ hn
       ·rw [if_neg h,if_neg h];exact PV.le_refl _
      ·exact .inl (dg (by decide))
      ·exact .inl (dg (by decide))
      ·exact .inl (dg (by decide))
     ·repeat' (first|refine bU ?_|(refine an (fun K hK => ?_);and_intros;all_goals first|(refine hK _ ?_;clear hK K)|try exact ai)|(refine aK (fun hb => ?_) (fun hb => ?_);all_goals try exact aE))
      rw [ae];refine ak 3 ?_ (by omega) (by omega);refine au [(1,some 1),(2,some 2),(3,some 3),(4,some 4),(5,some 5),(6,some 6)] ?_ ?_;and_intros;all_goals try exact aj
      ·exact .inl (dg (by decide))
      ·exact .inl (dg (by decide))
      ·refine .inr fun a ha j hj => ?_;have:j=0:=by omega
       subst this;rw [← qq];simp only [Int.toNat_natCast];by_cases h:a=i
       ·rw [if_pos h,if_pos h];split
        ·exact PV.le_refl _
        ·rename_i hn;exact absurd ⟨Nat.le_refl _,by decide +kernel⟩ hn
       ·rw [if_neg h,if_neg h];exact PV.le_refl _
      ·exact .inl (dg (by decide))
      ·exact .inl (dg (by decide))
     ·repeat' (first|((with_reducible refine Tw (id:=15) [(87,2),(74,1),(85,3)] ?_ (fun K hK => ?_));exact dK;refine dz ?_)|refine ax ?_|refine an (fun K hK => ?_)|(refine aK (fun hb => ?_) (fun hb => ?_) <;> try exact aE)|(refine aq hK ?_;try clear hK K)|(refine Bi hK ?_;try clear hK K))
      rw [ae];refine ak (i+1) ?_ (by omega) (by omega);refine au [(1,some 1),(2,some 2),(3,some 3),(4,some 4),(5,some 5),(6,some 6)] ?_ ?_;and_intros;all_goals try exact aj
      ·exact .inl (oA (by decide))
      ·exact .inl (oA (by decide))
      ·exact .inl (oA (by decide))
      ·refine .inr fun a ha j hj => ?_;have:j=0:=by omega
       subst this;rw [← ur (by decide)];simp only [Int.toNat_natCast];by_cases h:a=i
       ·rw [if_pos h,if_pos h];exact PV.le_refl _
       ·rw [if_neg h,if_neg h];exact PV.le_refl _
      ·refine .inr fun a ha j hj => ?_;have:j=0:=by omega
       subst this;rw [← ur (by decide)];simp only [Int.toNat_natCast];by_cases h:a=i
       ·rw [if_pos h,if_pos h];exact PV.le_refl _
       ·rw [if_neg h,if_neg h];exact PV.le_refl _
   ·have hok:cZ w h l.length=true:=by rw [cZ,(by assumption:cK w h=true∧_).1,decide_eq_true (by omega)];rfl
    rw [hok,dd,if_pos hok];have hi2:i=l.length:=by omega
    rw [hi2];refine dq ⟨gj ?_,cX trivial,trivial⟩;simp only [List.map_cons,List.map_nil,dF,fx];and_intros;all_goals first|exact .inl rfl|exact .inl trivial|exact .inr ed|trivial|skip
    all_goals exact .inr Mf
def qY (r:Row) (m:Int) (i:Nat):Pixel :=
 let k:=if 0<r.l.length then i % r.l.length else i
 vq (if k<r.l.length then r.l.getD k default else ⟨0,0,0,0,0⟩) m
def rX (r:Row) (m:Int) (i:Nat):Pixel :=
 if r.mood % 6=0 then ⟨0,0,0,0,0⟩
 else if r.mood % 6=1 then { qY r m i with a:=m,f:=m }
 else if r.mood % 6=2 then qY r m 0 else qY r m i
def cV (r:Row) (n:Nat) (m:Int):List Pixel:=(List.range n).map (rX r m)
structure RowOk (r:Row):Prop where
 mood:i64 r.mood
 l:∀ i,i<r.l.length→N5ok (r.l.getD i default)
 len:r.l.length≤4611686018427387904
set_option maxHeartbeats 4000000 in
theorem Da (r : Row) (n m : Int) (hr : RowOk r) (hn : 0 ≤ n) (hn2 : n ≤ 1000000) (hm : u16 m) :
  aA Sg 61 [ag (NY r),I n,U m] (fun x=>x = .b (.c (.p (pX (cV r n.toNat m))))):=by
 obtain ⟨⟨a1,a2⟩,hl,hlen⟩:=hr;refine aD Tryz.func61 [.tmp 6] ?_;repeat' (refine aC ?_)
 refine aH (X:=Nat) (fun i=>aT [(1, .b (I n)),(2, .b (U m)),(3, .b (.c (.ptr 0 0))),(7, .b (.c (.own 1 i))),(8, .b (I i))]
  [(0, .fix ((NY r).map CV.p)),(1, .arr 37 5 i (bK aS (cV r i m)))] 2) (fun i=>(i:Int)≤n) (fun i=>n.toNat - i) 0 ?_ ?_ ?_
 ·omega
 ·refine au [(1,none)] ?_ ?_;and_intros;all_goals try exact aj
 ·intro i hi;have hk:(if (r.l.length:Int)>0 then (i:Int) % r.l.length else i)=((if 0<r.l.length then i % r.l.length else i:Nat):Int):=by split <;> split <;> omega
  repeat' (first|refine ax ?_|refine an (fun K hK => ?_)|(apply bn;(case hf=>rfl);(case hc=>exact bM);(all_goals first|(intro hb;(try simp only [gL] at hb))|skip))|exact aG|(refine aK (fun hb => ?_) (fun hb => ?_) <;> try exact aE)|(refine aq hK ?_;try clear hK K))
  ·refine uX ?_ ?_ bG (El (if (if 0<r.l.length then i % r.l.length else i)<r.l.length then r.l.getD (if 0<r.l.length then i % r.l.length else i) default else ⟨0,0,0,0,0⟩) m ?_ hm);try simp (maxSteps:=999999)(disch:=omega) only [go_sem]
   try (refine hK _ ?_;clear hK K)
   rotate_left
   ·simp only [hk,Int.toNat_natCast,Int.ofNat_lt];generalize (if 0<r.l.length then i % r.l.length else i)=k;split <;> rfl
   ·generalize (if 0<r.l.length then i % r.l.length else i)=k;split
    ·exact hl _ (by assumption)
    ·exact ⟨⟨by decide,by decide⟩,⟨by decide,by decide⟩,⟨by decide,by decide⟩,⟨by decide,by decide⟩,⟨by decide,by decide⟩⟩
   rw [← qY];repeat' (first|refine ax ?_|refine an (fun K hK => ?_)|refine aa (bD _ _ (by omega) (by omega)) ?_|(apply ba;(case hf=>rfl);(case hc=>exact bM);(all_goals first|(intro hb;(try simp only [gL] at hb))|skip))|exact aG|(refine aq hK ?_;try clear hK K))
   rw [ae];refine ak (i+1) ?_ (by omega) (by omega);refine au [(1,some 5)] ?_ ?_;and_intros;all_goals try exact aj
   have hlen:(cV r i m).length=i:=by simp [cV]
   have hx:cV r (i+1) m=cV r i m ++ [rX r m i]:=by simp [cV,List.range_succ]
   have key:=fun g hg=>cL (enc:=aS) (xs:=cV r i m) (x:=rX r m i) (s:=5) (g:=g) hg;simp only [hlen,← hx] at key;refine .inr (key _ fun j hj => ?_);have h5:j=0∨j=1∨j=2∨j=3∨j=4:=by omega
   have hp : rX r m i = if r.mood % 6 = 0 then ⟨0, 0, 0, 0, 0⟩ else if r.mood % 6 = 1 then { qY r m i with a := m, f := m }
     else if r.mood % 6=2 then (if (i:Int)>0 then (cV r i m).getD 0 default else qY r m i) else qY r m i:=by
    by_cases h2:r.mood % 6=2
    ·have h0:¬ r.mood % 6=0:=by omega
     have h1:¬ r.mood % 6=1:=by omega
     by_cases hi0:(i:Int)>0
     ·have:(cV r i m).getD 0 default=rX r m 0:=by
       have hi1:0<i:=by omega
       simp [cV,hi1]
      rw [if_neg h0,if_neg h1,if_pos h2,if_pos hi0,this];simp only [rX,if_neg h0,if_neg h1,if_pos h2]
     ·have:i=0:=by omega
      subst this;rw [if_neg h0,if_neg h1,if_pos h2,if_neg hi0];simp only [rX,if_neg h0,if_neg h1,if_pos h2]
    ·simp only [rX,if_neg h2]
   rw [hp];by_cases m0:r.mood % 6=0
   ·simp only [if_pos m0];rcases h5 with rfl|rfl|rfl|rfl|rfl <;> rfl
   ·by_cases m1:r.mood % 6=1
    ·simp only [if_neg m0,if_pos m1];rcases h5 with rfl|rfl|rfl|rfl|rfl <;> rfl
    ·by_cases m2:r.mood % 6=2
     ·by_cases hi0:(i:Int)>0
      ·simp only [if_neg m0,if_neg m1,if_pos m2,if_pos hi0];rcases h5 with rfl|rfl|rfl|rfl|rfl <;> rfl
      ·simp only [if_neg m0,if_neg m1,if_pos m2,if_neg hi0];rcases h5 with rfl|rfl|rfl|rfl|rfl <;> rfl
     ·simp only [if_neg m0,if_neg m1,if_neg m2];rcases h5 with rfl|rfl|rfl|rfl|rfl <;> rfl
  ·have:i=n.toNat:=by omega
   subst this;have hl:(cV r n.toNat m).length=n.toNat:=by simp [cV]
   rw [hl]
def kH (x:List Int) (n:Int) (i:Nat):Bool:=decide (0≤x.getD i 0∧x.getD i 0<n) && !(x.take i).contains (x.getD i 0)
def dC (l:List Int) (n:Int):List Int:=if l.length=0 then lr n.toNat else l
def eP (l:List Int) (n:Int):Bool:=decide (0≤n∧n≤16777216∧(l.length=0∨l.length=n)) && (List.range n.toNat).all (kH (dC l n) n)
def mj (l:List Int) (n:Int):List Int:=if eP l n=true then dC l n else []
theorem yC {n i:Nat} (h:i<n):(lr n).getD i 0=i:=by simp [lr,h]
theorem jF {l:List Int} {n:Int} (h0:0≤n) (h:l.length=0∨l.length=n):(dC l n).length=n.toNat:=by
 unfold dC;split
 ·exact iU _
 ·omega
theorem Dy {l:List Int} {n:Int} {i:Nat} (h0:0≤n) (hi:(i:Int)<n) (h:kH (dC l n) n i=false):eP l n=false:=by
 rw [eP,Bool.and_eq_false_imp];intro _;rw [List.all_eq_false];exact ⟨i,List.mem_range.2 (by omega),by simp [h]⟩
def DH (x:List Int) (i:Nat):Nat→Nat→PV:=fun a _=>PB ((x.take i).contains (a:Int))
theorem zK {x:List Int} {i:Nat} (hi:i<x.length) (h0:0≤x.getD i 0) (a j:Nat):(if a=(x.getD i 0).toNat then PB true else DH x i a j)=DH x (i+1) a j:=by
 have e:x.take (i+1)=x.take i ++ [x.getD i 0]:=by rw [List.take_add_one,List.getElem?_eq_getElem hi,List.getD_eq_getElem?_getD,List.getElem?_eq_getElem hi];rfl
 have h:(x.take (i+1)).contains (a:Int)=((x.take i).contains (a:Int) || decide ((a:Int)=x.getD i 0)):=by
  rw [e,Bool.eq_iff_iff];simp
 unfold DH;rw [h];by_cases ha:a=(x.getD i 0).toNat
 ·rw [if_pos ha,decide_eq_true (by omega),Bool.or_true]
 ·rw [if_neg ha,decide_eq_false (by omega),Bool.or_false]
theorem lj (l : List Int) (n : Int) (hl : l.length ≤ 4611686018427387904) :
  aA Sg 73 [.c (.p (eI l)),I n] (fun r=>r = .tup [.c (.p (eI (mj l n))),B (eP l n)]):=by
 refine dY ?_;refine aD Tryz.func73 [.tmp 4, .tmp 5] ?_
 repeat' (first|refine aC ?_|(refine aK (fun hb => ?_) (fun hb => ?_) <;> try exact aE))
 ·have:eP l n=false:=by rw [eP,decide_eq_false (by omega)];rfl
  rw [mj,this];exact dq ⟨oR ed,cX trivial,trivial⟩
 refine aH (X:=Nat) (fun i=>aT [(0, .b (.c (.p (eI l)))),(1, .b (I n)),(6, .b (.c (.own 1 n.toNat))),(7, .b (.c (.own 2 n.toNat))),(31, .b (I n)),(32, .b (I i))]
  [(1, .arr 3 1 n.toNat (fun a _=>PI (if a<i then (dC l n).getD a 0 else 0))),(2, .arr 4 1 n.toNat (DH (dC l n) i))] 3) (fun i=>(i:Int)≤n∧∀ k,k<i→kH (dC l n) n k=true) (fun i=>n.toNat - i) 0 ?_ ?_ ?_
 ·exact ⟨by omega,fun k hk=>by omega⟩
 ·refine au [(1,some 0),(2,some 1)] ?_ ?_;and_intros;all_goals try exact aj
  ·rw [Int.toNat_of_nonneg (by omega)];exact .inl rfl
  ·refine .inr fun a ha j hj => ?_;have:j=0:=by omega
   subst this;exact PV.le_refl _
  ·refine .inr fun a ha j hj => ?_;have:j=0:=by omega
   subst this;exact PV.le_refl _
 ·rintro i ⟨hi,hok⟩;have hx:i<n.toNat→(0≤n∧(l.length=0∨l.length=n))→(if 0<(l.length:Int) then l.getD (i:Int).toNat default else (i:Int))=(dC l n).getD i 0:=fun h1 h2=>by
   rw [dC,Int.toNat_natCast];by_cases h0:l.length=0
   ·rw [if_neg (by omega),if_pos h0,yC h1]
   ·rw [if_pos (by omega),if_neg h0];rfl
  repeat' (first|refine bU ?_|(refine an (fun K hK => ?_);and_intros;all_goals first|(refine hK _ ?_;clear hK K)|try exact ai)|(apply bn;(case hf=>rfl);(case hc=>exact bM);(all_goals first|(intro hb;(try simp only [gL] at hb))|skip))|exact aG|(refine aK (fun hb => ?_) (fun hb => ?_);all_goals try exact aE)|(refine ct ?_;(try clear hB KB);(try clear hK K)))
  ·rw [hx (by omega) (by omega)] at hb;have:eP l n=false:=by
    refine Dy (i:=i) (by omega) (by omega) ?_;rw [kH];by_cases h1:0≤(dC l n).getD i 0∧(dC l n).getD i 0<n
    ·rcases hb with h|h
     ·omega
     ·rw [Int.toNat_of_nonneg h1.1] at h;rw [h];simp
    ·rw [decide_eq_false h1];rfl
   rw [mj,this];exact dq ⟨oR ed,cX trivial,trivial⟩
  ·rw [hx (by omega) (by omega)] at hb;rw [ae];refine ak (i+1) ?_ ⟨by omega,fun k hk => ?_⟩ (by omega)
   ·have hlen:=jF (l:=l) (n:=n) (by omega) (by omega);refine au [(1,some 1),(2,some 2)] ?_ ?_;and_intros;all_goals try exact aj
    ·refine .inr fun a ha j hj => ?_;have:j=0:=by omega
     subst this;have e:∀ p:Prop,[Decidable p]→(if p then PI (l.getD (i:Int).toNat default) else PI (i:Int))=PI (if p then l.getD (i:Int).toNat default else (i:Int)):=fun p _=>by split <;> rfl
     by_cases h:a=i
     ·subst h;simp only [Int.toNat_natCast,gt_iff_lt] at hx ⊢;have e2:(if a<a+1 then (dC l n).getD a 0 else 0)=(if 0<(l.length:Int) then l.getD a default else (a:Int)):=by rw [hx (by omega) (by omega),if_pos (by omega)]
      rw [e2];by_cases q:0<(l.length:Int)
      ·simp only [if_pos q];exact PV.le_refl _
      ·simp only [if_neg q];exact PV.le_refl _
     ·simp only [Int.toNat_natCast,gt_iff_lt,if_neg h]
      rw [show (if a<i+1 then (dC l n).getD a 0 else 0)=(if a<i then (dC l n).getD a 0 else 0) by
       by_cases h2:a<i
       ·rw [if_pos h2,if_pos (by omega)]
       ·rw [if_neg h2,if_neg (by omega)]]
      split <;> exact PV.le_refl _
    ·refine .inr fun a ha j hj => ?_;have:j=0:=by omega
     subst this;simp only [gt_iff_lt,hx (by omega) (by omega)];rw [← zK (by omega) hb.1.1];by_cases h:a=((dC l n).getD i 0).toNat
     ·rw [if_pos h,if_pos h];exact PV.le_refl _
     ·rw [if_neg h,if_neg h];exact PV.le_refl _
   ·by_cases h:k=i
    ·subst h;rw [Int.toNat_of_nonneg hb.1.1] at hb;rw [kH,decide_eq_true hb.1,hb.2];rfl
    ·exact hok k (by omega)
  ·have e:eP l n=true:=by
    rw [eP,decide_eq_true (by omega),Bool.true_and,List.all_eq_true];exact fun k hk=>hok k (by have:=List.mem_range.1 hk;omega)
   have hlen:=jF (l:=l) (n:=n) (by omega) (by omega);rw [mj,if_pos e,e,hlen];refine dq ⟨oR (gX fun a ha j hj => ?_),cX trivial,trivial⟩;have:j=0:=by omega
   subst this;rw [if_pos (by omega)];rfl
theorem yj (l : List Int) (n : Int) (hl : l.length ≤ 4611686018427387904) :
  aA Sg 101 [.c (.p (eI l)),I n] (fun r=>r = .tup [.c (.p (eI (mj l n))),B (eP l n)]):=by
 refine dY ?_;refine aD Tryz.func101 [.tmp 4, .tmp 5] ?_
 repeat' (first|refine aC ?_|(refine aK (fun hb => ?_) (fun hb => ?_) <;> try exact aE))
 ·have:eP l n=false:=by rw [eP,decide_eq_false (by omega)];rfl
  rw [mj,this];exact dq ⟨oR ed,cX trivial,trivial⟩
 refine aH (X:=Nat) (fun i=>aT [(0, .b (.c (.p (eI l)))),(1, .b (I n)),(6, .b (.c (.own 2 n.toNat))),(7, .b (.c (.own 1 i))),(8, .b (I i))]
  [(1, .arr 3 1 i (bK He ((dC l n).take i))),(2, .arr 4 1 n.toNat (DH (dC l n) i))] 3) (fun i=>(i:Int)≤n∧∀ k,k<i→kH (dC l n) n k=true) (fun i=>n.toNat - i) 0 ?_ ?_ ?_
 ·exact ⟨by omega,fun k hk=>by omega⟩
 ·refine au [(1,none),(2,some 0)] ?_ ?_;and_intros;all_goals try exact aj
  refine .inr fun a ha j hj => ?_;have:j=0:=by omega
  subst this;exact PV.le_refl _
 ·rintro i ⟨hi,hok⟩;have hx:i<n.toNat→(0≤n∧(l.length=0∨l.length=n))→(if 0<(l.length:Int) then l.getD (i:Int).toNat default else (i:Int))=(dC l n).getD i 0:=fun h1 h2=>by
   rw [dC,Int.toNat_natCast];by_cases h0:l.length=0
   ·rw [if_neg (by omega),if_pos h0,yC h1]
   ·rw [if_pos (by omega),if_neg h0];rfl
  repeat' (first|refine bU ?_|(refine an (fun K hK => ?_);and_intros;all_goals first|(refine hK _ ?_;clear hK K)|try exact ai)|(apply bn;(case hf=>rfl);(case hc=>exact bM);(all_goals first|(intro hb;(try simp only [gL] at hb))|skip))|exact aG|(refine aK (fun hb => ?_) (fun hb => ?_);all_goals try exact aE)|(refine ct ?_;(try clear hB KB);(try clear hK K)))
  ·rw [hx (by omega) (by omega)] at hb;have:eP l n=false:=by
    refine Dy (i:=i) (by omega) (by omega) ?_;rw [kH];by_cases h1:0≤(dC l n).getD i 0∧(dC l n).getD i 0<n
    ·rcases hb with h|h
     ·omega
     ·rw [Int.toNat_of_nonneg h1.1] at h;rw [h];simp
    ·rw [decide_eq_false h1];rfl
   rw [mj,this];exact dq ⟨oR ed,cX trivial,trivial⟩
  ·rw [hx (by omega) (by omega)] at hb;have hlen:=jF (l:=l) (n:=n) (by omega) (by omega);rw [ae];refine ak (i+1) ?_ ⟨by omega,fun k hk => ?_⟩ (by omega)
   ·have e:(dC l n).take (i+1)=(dC l n).take i ++ [(dC l n).getD i 0]:=by rw [List.take_add_one,List.getElem?_eq_getElem (by omega),List.getD_eq_getElem?_getD,List.getElem?_eq_getElem (by omega)];rfl
    have hlt:((dC l n).take i).length=i:=by rw [List.length_take];omega
    refine au [(1,some 4),(2,some 2)] ?_ ?_;and_intros;all_goals try exact aj
    ·have key:=fun g hg=>cL (enc:=He) (xs:=(dC l n).take i) (x:=(dC l n).getD i 0) (s:=1) (g:=g) hg;simp only [hlt,← e] at key;refine .inr (key _ fun j hj => ?_);have:j=0:=by omega
     subst this;simp only [gt_iff_lt,hx (by omega) (by omega)];rfl
    ·refine .inr fun a ha j hj => ?_;have:j=0:=by omega
     subst this;simp only [gt_iff_lt,hx (by omega) (by omega)];rw [← zK (by omega) hb.1.1];by_cases h:a=((dC l n).getD i 0).toNat
     ·rw [if_pos h,if_pos h];exact PV.le_refl _
     ·rw [if_neg h,if_neg h];exact PV.le_refl _
   ·by_cases h:k=i
    ·subst h;rw [Int.toNat_of_nonneg hb.1.1] at hb;rw [kH,decide_eq_true hb.1,hb.2];rfl
    ·exact hok k (by omega)
  ·have e:eP l n=true:=by
    rw [eP,decide_eq_true (by omega),Bool.true_and,List.all_eq_true];exact fun k hk=>hok k (by have:=List.mem_range.1 hk;omega)
   have hlen:=jF (l:=l) (n:=n) (by omega) (by omega);have hi2:i=n.toNat:=by omega
   rw [mj,if_pos e,e,List.take_of_length_le (by omega),hlen,hi2];exact dq ⟨cX trivial,cX trivial,trivial⟩
def dt:Rect:=⟨0,0,0,0⟩
def fF (r q:Rect):Rect:=if aP r=true∨aP q=true then dt else gv ⟨max r.x0 q.x0,max r.y0 q.y0,min r.x1 q.x1,min r.y1 q.y1⟩
def jg (o r:Rect):Rect:=if aP r=true then o else if aP o=true then r else ⟨min o.x0 r.x0,min o.y0 r.y0,max o.x1 r.x1,max o.y1 r.y1⟩
def dZ (l:List Rect):Rect:=l.foldl jg dt
theorem vw:aP dt=true:=by decide
theorem yW (l:List Rect) (x:Rect):dZ (l ++ [x])=jg (dZ l) x:=by unfold dZ;rw [List.foldl_append];rfl
theorem kC {r : Rect} : aP r = false ↔ (-1073741824 ≤ r.x0 ∧ r.x0 ≤ 1073741824 ∧ -1073741824 ≤ r.y0 ∧ r.y0 ≤ 1073741824 ∧ -1073741824 ≤ r.x1 ∧ r.x1 ≤ 1073741824 ∧ -1073741824 ≤ r.y1 ∧ r.y1 ≤ 1073741824) ∧
  r.x0<r.x1∧r.y0<r.y1:=by
 simp only [aP,mf,Bool.or_eq_false_iff,Bool.not_eq_eq_eq_not,Bool.not_false,decide_eq_true_eq,decide_eq_false_iff_not];omega
def tP (l:List Rect) (r:Rect):Prop:=r ∈ l∧aP r=false
structure HullIs (l:List Rect) (h:Rect):Prop where
 none:(∀ r,¬ tP l r)→h=dt
 ne:(∃ r,tP l r)→aP h=false
 x0:(∃ r,tP l r)→(∀ r,tP l r→h.x0≤r.x0)∧∃ r,tP l r∧h.x0=r.x0
 y0:(∃ r,tP l r)→(∀ r,tP l r→h.y0≤r.y0)∧∃ r,tP l r∧h.y0=r.y0
 x1:(∃ r,tP l r)→(∀ r,tP l r→r.x1≤h.x1)∧∃ r,tP l r∧h.x1=r.x1
 y1:(∃ r,tP l r)→(∀ r,tP l r→r.y1≤h.y1)∧∃ r,tP l r∧h.y1=r.y1
theorem gJ {l:List Rect} {x r:Rect}:tP (l ++ [x]) r↔tP l r∨(r=x∧aP x=false):=by
 unfold tP;rw [List.mem_append,List.mem_singleton];refine ⟨fun ⟨h1,h2⟩ => ?_,fun h => ?_⟩
 ·rcases h1 with h1|rfl
  ·exact .inl ⟨h1,h2⟩
  ·exact .inr ⟨rfl,h2⟩
 ·rcases h with ⟨h1,h2⟩|⟨rfl,h2⟩
  ·exact ⟨.inl h1,h2⟩
  ·exact ⟨.inr rfl,h2⟩
theorem HA {l:List Rect} {h x:Rect} (H:HullIs l h):HullIs (l ++ [x]) (jg h x):=by
 by_cases hx:aP x=true
 ·have e:∀ r,tP (l ++ [x]) r↔tP l r:=fun r=>by rw [gJ];simp [hx]
  have e2:(∃ r,tP (l ++ [x]) r)↔∃ r,tP l r:=exists_congr e;have eh:jg h x=h:=by rw [jg,if_pos hx]
  rw [eh];refine ⟨fun q=>H.none fun r hr=>q r ((e r).2 hr),fun q=>H.ne (e2.1 q),fun q => ?_,fun q => ?_,fun q => ?_,fun q => ?_⟩
  ·obtain ⟨a,b,c,d⟩:=H.x0 (e2.1 q);exact ⟨fun r hr=>a r ((e r).1 hr),b,(e b).2 c,d⟩
  ·obtain ⟨a,b,c,d⟩:=H.y0 (e2.1 q);exact ⟨fun r hr=>a r ((e r).1 hr),b,(e b).2 c,d⟩
  ·obtain ⟨a,b,c,d⟩:=H.x1 (e2.1 q);exact ⟨fun r hr=>a r ((e r).1 hr),b,(e b).2 c,d⟩
  ·obtain ⟨a,b,c,d⟩:=H.y1 (e2.1 q);exact ⟨fun r hr=>a r ((e r).1 hr),b,(e b).2 c,d⟩
 ·have hx':aP x=false:=by simpa using hx
  have hin:tP (l ++ [x]) x:=gJ.2 (.inr ⟨rfl,hx'⟩);by_cases hl:∃ r,tP l r
  ·have hne:=H.ne hl;have eh:jg h x=⟨min h.x0 x.x0,min h.y0 x.y0,max h.x1 x.x1,max h.y1 x.y1⟩:=by rw [jg,if_neg hx,if_neg (by rw [hne];simp)]
   rw [eh];obtain ⟨a0,b0,c0,d0⟩:=H.x0 hl;obtain ⟨a1,b1,c1,d1⟩:=H.y0 hl;obtain ⟨a2,b2,c2,d2⟩:=H.x1 hl;obtain ⟨a3,b3,c3,d3⟩:=H.y1 hl;refine ⟨fun q=>absurd hin (q x),fun _ => ?_,fun _=>⟨fun r hr => ?_, ?_⟩,fun _=>⟨fun r hr => ?_, ?_⟩,fun _=>⟨fun r hr => ?_, ?_⟩,fun _=>⟨fun r hr => ?_, ?_⟩⟩
   ·rw [kC] at hne hx' ⊢;dsimp only;omega
   ·rcases gJ.1 hr with hr|⟨rfl,_⟩
    ·have:=a0 r hr;dsimp only;omega
    ·dsimp only;omega
   ·rcases Int.le_total h.x0 x.x0 with q|q
    ·exact ⟨b0,gJ.2 (.inl c0),by dsimp only;omega⟩
    ·exact ⟨x,hin,by dsimp only;omega⟩
   ·rcases gJ.1 hr with hr|⟨rfl,_⟩
    ·have:=a1 r hr;dsimp only;omega
    ·dsimp only;omega
   ·rcases Int.le_total h.y0 x.y0 with q|q
    ·exact ⟨b1,gJ.2 (.inl c1),by dsimp only;omega⟩
    ·exact ⟨x,hin,by dsimp only;omega⟩
   ·rcases gJ.1 hr with hr|⟨rfl,_⟩
    ·have:=a2 r hr;dsimp only;omega
    ·dsimp only;omega
   ·rcases Int.le_total h.x1 x.x1 with q|q
    ·exact ⟨x,hin,by dsimp only;omega⟩
    ·exact ⟨b2,gJ.2 (.inl c2),by dsimp only;omega⟩
   ·rcases gJ.1 hr with hr|⟨rfl,_⟩
    ·have:=a3 r hr;dsimp only;omega
    ·dsimp only;omega
   ·rcases Int.le_total h.y1 x.y1 with q|q
    ·exact ⟨x,hin,by dsimp only;omega⟩
    ·exact ⟨b3,gJ.2 (.inl c3),by dsimp only;omega⟩
  ·have hz:h=dt:=H.none fun r hr=>hl ⟨r,hr⟩;have eh:jg h x=x:=by rw [jg,if_neg hx,hz,if_pos vw]
   rw [eh];have only:∀ r,tP (l ++ [x]) r→r=x:=fun r hr=>by
    rcases gJ.1 hr with hr|⟨rfl,_⟩
    ·exact absurd ⟨r,hr⟩ hl
    ·rfl
   exact ⟨fun q=>absurd hin (q x),fun _=>hx',fun _=>⟨fun r hr=>by rw [only r hr];exact Int.le_refl _,x,hin,rfl⟩,fun _=>⟨fun r hr=>by rw [only r hr];exact Int.le_refl _,x,hin,rfl⟩,
    fun _=>⟨fun r hr=>by rw [only r hr];exact Int.le_refl _,x,hin,rfl⟩,fun _=>⟨fun r hr=>by rw [only r hr];exact Int.le_refl _,x,hin,rfl⟩⟩
theorem yL:∀ (l l0:List Rect) (h:Rect),HullIs l0 h→HullIs (l0 ++ l) (l.foldl jg h)
 | [],l0,h,H=>by simpa using H
 | x :: l,l0,h,H=>by
  have:=yL l (l0 ++ [x]) (jg h x) (HA H);rw [List.append_assoc] at this;exact this
theorem EJ (l:List Rect):HullIs l (dZ l):=by
 have:=yL l [] dt ⟨fun _=>rfl,fun ⟨r,hr,_⟩=>by simp at hr,fun ⟨r,hr,_⟩=>by simp at hr,fun ⟨r,hr,_⟩=>by simp at hr,fun ⟨r,hr,_⟩=>by simp at hr,fun ⟨r,hr,_⟩=>by simp at hr⟩;exact this
theorem PD {l:List Rect} {r:Rect} (h:r ∈ l) (hr:aP r=false):aP (dZ l)=false∧(dZ l).x0≤r.x0∧(dZ l).y0≤r.y0∧r.x1≤(dZ l).x1∧r.y1≤(dZ l).y1:=by
 have A:=EJ l;have hi:tP l r:=⟨h,hr⟩
 exact ⟨A.ne ⟨r,hi⟩,(A.x0 ⟨r,hi⟩).1 r hi,(A.y0 ⟨r,hi⟩).1 r hi,(A.x1 ⟨r,hi⟩).1 r hi,(A.y1 ⟨r,hi⟩).1 r hi⟩
theorem CF (l:List Rect):(dZ l=dt)∨aP (dZ l)=false:=by
 by_cases hl:∃ r,tP l r
 ·exact .inr ((EJ l).ne hl)
 ·exact .inl ((EJ l).none fun r hr=>hl ⟨r,hr⟩)
section
def upd {α:Type} (f:Nat→α) (k:Nat) (v:α):Nat→α:=fun j=>if j=k then v else f j
theorem cB {α:Type} (f:Nat→α) (k:Nat) (v:α):upd f k v k=v:=if_pos rfl
theorem di {α:Type} (f:Nat→α) {k j:Nat} (v:α) (h:j≠k):upd f k v j=f j:=if_neg h
def aB (ops:List Op) (i:Nat):Op:=ops.getD i default
def bZ (ops:List Op):Nat→List Nat
 | 0=>[]
 | i+1=>if (aB ops i).kind=2 then i :: bZ ops i else if (aB ops i).kind=3 then (bZ ops i).tail else bZ ops i
def uA (ops:List Op):Nat→Nat→Nat
 | 0=>fun _=>0
 | i+1=>if (aB ops i).kind=3 then upd (upd (uA ops i) i i) ((bZ ops i).headD 0) i else upd (uA ops i) i i
def aN (ops:List Op):Nat→Nat:=uA ops ops.length
structure Wf (ops:List Op):Prop where
 kinds:∀ i,i<ops.length→(aB ops i).kind=1∨(aB ops i).kind=2∨(aB ops i).kind=3
 pops:∀ i,i<ops.length→(aB ops i).kind=3→bZ ops i≠[]
 fin:bZ ops ops.length=[]
section
variable {ops:List Op}
theorem dR {i:Nat} (h:(aB ops i).kind=2):bZ ops (i+1)=i :: bZ ops i:=by grind [bZ]
theorem fy {i:Nat} (h:(aB ops i).kind=3):bZ ops (i+1)=(bZ ops i).tail:=by grind [bZ]
theorem dM {i:Nat} (h:(aB ops i).kind=1):bZ ops (i+1)=bZ ops i:=by grind [bZ]
theorem FW {i p:Nat} (h:p ∈ bZ ops (i+1)):p=i∨p ∈ bZ ops i:=by
 rw [bZ] at h;split at h
 ·grind
 split at h
 ·exact .inr (List.mem_of_mem_tail h)
 grind
theorem fg:∀ {i p:Nat},p ∈ bZ ops i→p<i
 | 0,p,h=>by grind [bZ]
 | i+1,p,h=>by
  rcases FW h with rfl|h
  ·omega
  ·have:=fg h;omega
theorem il:∀ {i p:Nat},p ∈ bZ ops i→(aB ops p).kind=2
 | 0,p,h=>by grind [bZ]
 | i+1,p,h=>by
  rw [bZ] at h;split at h
  ·rename_i hk;rcases List.mem_cons.1 h with rfl|h
   ·exact hk
   ·exact il h
  split at h
  ·exact il (List.mem_of_mem_tail h)
  ·exact il h
theorem kE:∀ i,(bZ ops i).Nodup
 | 0=>by simp [bZ]
 | i+1=>by
  rw [bZ];split
  ·exact List.nodup_cons.2 ⟨fun h=>Nat.lt_irrefl _ (fg h),kE i⟩
  split
  ·exact (kE i).sublist (List.tail_sublist _)
  ·exact kE i
theorem nP:∀ i,(bZ ops i).Pairwise (fun a b=>b<a)
 | 0=>by simp [bZ]
 | i+1=>by
  rw [bZ];split
  ·exact List.pairwise_cons.2 ⟨fun q hq=>fg hq,nP i⟩
  split
  ·exact (nP i).sublist (List.tail_sublist _)
  ·exact nP i
theorem Dz {i p:Nat} {t:List Nat} (hs:bZ ops i=p :: t):∀ q ∈ t,q<p:=by
 have:=nP (ops:=ops) i;simp_all
theorem Di (W:Wf ops) {i p:Nat} (hp:p<i) (hn:p ∉ bZ ops i):∀ m,i≤m→p ∉ bZ ops m:=by
 intro m hm
 induction m with
 | zero=>omega
 | succ m ih =>
  grind [bZ,FW]
theorem sj {l:List Nat} (h:l≠[]):l.headD 0 ∈ l:=by
 cases l with
 | nil=>grind
 | cons a l=>simp
theorem Mk (W:Wf ops) {i p:Nat} (hp:p<i) (hn:p ∉ bZ ops i):∀ m,i≤m→m≤ops.length→uA ops m p=uA ops i p:=by
 intro m hm hl
 induction m with
 | zero=>omega
 | succ m ih =>
  by_cases he:i=m+1
  ·rw [← he]
  ·have ih:=ih (by omega) (by omega);have hk:=Di W hp hn m (by omega);rw [uA];split
   ·rename_i h3;have:=sj (W.pops m (by omega) h3);grind [upd,di]
   grind [upd,di]
theorem uS (W:Wf ops) {i p:Nat} (hp:p<i) (hn:p ∉ bZ ops i) (hl:i≤ops.length):aN ops p=uA ops i p:=Mk W hp hn _ hl (Nat.le_refl _)
theorem iH (W:Wf ops) {i:Nat} (hi:i<ops.length) (hk:(aB ops i).kind=1):aN ops i=i:=by rw [uS W (Nat.lt_succ_self i) (by rw [dM hk];exact fun h=>Nat.lt_irrefl _ (fg h)) hi,uA,if_neg (by omega),cB]
theorem ig (W:Wf ops) {i p:Nat} {t:List Nat} (hi:i<ops.length) (hk:(aB ops i).kind=3) (hs:bZ ops i=p :: t):aN ops p=i:=by
 have hn:=kE (ops:=ops) i;rw [hs] at hn;have hp:p<i:=fg (ops:=ops) (by grind);rw [uS W (i:=i+1) (by omega) (by grind [bZ,fy]) hi,uA,if_pos hk,hs];exact cB _ _ _
theorem zB (W:Wf ops) {i:Nat} (hi:i<ops.length) (hk:(aB ops i).kind=3):aN ops i=i:=by
 have hne:=W.pops i hi hk;have hlt:=fg (sj hne);rw [uS W (Nat.lt_succ_self i) (by rw [fy hk];exact fun h=>Nat.lt_irrefl _ (fg (List.mem_of_mem_tail h))) hi,uA,if_pos hk,di _ _ (by omega),cB]
theorem nX (W:Wf ops) {p:Nat}:∀ (d i:Nat),i+d=ops.length→p ∈ bZ ops i→∃ j t,i≤j∧j<ops.length∧(aB ops j).kind=3∧bZ ops j=p :: t
 | 0,i,hd,h=>by
  have:i=ops.length:=by omega
  rw [this,W.fin] at h;simp at h
 | d+1,i,hd,h=>by
  by_cases h2:p ∈ bZ ops (i+1)
  ·obtain ⟨j,t,h1,h3⟩:=nX W d (i+1) (by omega) h2;grind
  ·rcases W.kinds i (by omega) with k|k|k
   ·grind [bZ,dM]
   ·grind [bZ,dR]
   ·rw [fy k] at h2;cases hs:bZ ops i with
    | nil=>grind
    | cons q t =>
     grind
theorem yr (W:Wf ops) {i p:Nat} (hi:i≤ops.length) (h:p ∈ bZ ops i):i≤aN ops p∧aN ops p<ops.length:=by
 obtain ⟨j,t,h1,h2,h3,h4⟩:=nX W (ops.length - i) i (by omega) h;grind [ig]
theorem Fy (W:Wf ops):∀ (i:Nat),i≤ops.length→∀ j,j<i→uA ops i j<i
 | 0,_,j,hj=>absurd hj (Nat.not_lt_zero _)
 | i+1,hi,j,hj=>by
  have ih:=Fy W i (by omega);have h1:upd (uA ops i) i i j<i+1:=by
   by_cases he:j=i
   ·rw [he,cB];omega
   ·grind [upd,di]
  rw [uA];grind [upd,bZ,cB,di]
theorem mG (W:Wf ops) {i p:Nat} (hi:i≤ops.length) (hp:p<i):p ∈ bZ ops i↔(aB ops p).kind=2∧i≤aN ops p:=by
 refine ⟨fun h=>⟨il h,(yr W hi h).1⟩,fun ⟨h1,h2⟩ => ?_⟩;by_cases h:p ∈ bZ ops i
 ·exact h
 ·rw [uS W hp h hi] at h2;have:=Fy W i hi p hp;omega
theorem iu (W:Wf ops) {i:Nat} (hi:i<ops.length):aN ops i<ops.length:=Fy W _ (Nat.le_refl _) i hi
theorem jt (W:Wf ops) {p:Nat} (hp:p<ops.length) (hk:(aB ops p).kind=2):p<aN ops p:=by
 have:=(yr W (i:=p+1) hp (by rw [dR hk];exact List.mem_cons_self ..)).1;omega
end
def du (o:Int):Bool:=decide (o=3∨o=4∨o=5∨o=9∨o=10∨o=12)
def jD (v:Int):Bool:=decide (v < -1099511627776∨1099511627776<v)
def eC (s:Script) (i x y:Int):Rect :=
 if i<0∨s.images.length≤i then dt
 else if (jD x || jD y || jD (s.images.getD i.toNat default).w || jD (s.images.getD i.toNat default).h)=true then dt
 else fF ⟨x,y,x+(s.images.getD i.toNat default).w,y+(s.images.getD i.toNat default).h⟩ s.canvas
def bB (s:Script) (o:Op):Rect:=if o.kind=1 then eC s o.image o.x o.y else dt
def cr (s:Script) (o:Op):Rect:=if o.mask=0 then fF s.canvas s.canvas else eC s (o.mask - 1) o.maskX o.maskY
def gZ (s:Script) (o:Op) (src:Rect):Rect:=if du o.operator=false then s.canvas else if o.opacity=0 then dt else fF src (cr s o)
def rv (h:List Rect) (r:Rect):List Rect:=dZ [h.headD dt,r] :: h.tail
def dW (s:Script):Nat→(Nat→Rect) × List Rect
 | 0=>(fun _=>dt,[dt])
 | i+1 =>
  if (aB s.ops i).kind=2 then ((dW s i).1,dt :: (dW s i).2)
  else if (aB s.ops i).kind=1 then
   (upd (dW s i).1 i (gZ s (aB s.ops i) (bB s (aB s.ops i))),rv (dW s i).2 (gZ s (aB s.ops i) (bB s (aB s.ops i))))
  else
   (upd (upd (dW s i).1 i (gZ s (aB s.ops ((bZ s.ops i).headD 0)) ((dW s i).2.headD dt))) ((bZ s.ops i).headD 0) (gZ s (aB s.ops ((bZ s.ops i).headD 0)) ((dW s i).2.headD dt)),
    rv (dW s i).2.tail (gZ s (aB s.ops ((bZ s.ops i).headD 0)) ((dW s i).2.headD dt)))
def bp (s:Script):Nat→Rect:=(dW s s.ops.length).1
theorem JA (l:List Rect) (x:Rect):dZ [dZ l,x]=dZ (l ++ [x]):=by grind [dZ,jg,yW,dt,vw,CF]
def Nw (e:Nat→Nat):Nat→Nat→List Nat→Prop
 | a,b,[]=>a=b
 | a,b,k :: l=>a=k∧Nw e (e k+1) b l
theorem xF {e:Nat→Nat} {b:Nat}:∀ {l:List Nat} {a:Nat},Nw e a b l→Nw e a (e b+1) (l ++ [b])
 | [],a,h=>⟨h,rfl⟩
 | k :: l,a,⟨h1,h2⟩=>⟨h1,xF h2⟩
section
variable {s:Script}
theorem Be (W:Wf s.ops) {i p:Nat} (hp:p<i) (hn:p ∉ bZ s.ops i):∀ m,i≤m→m≤s.ops.length→(dW s m).1 p=(dW s i).1 p:=by
 intro m hm hl
 induction m with
 | zero=>omega
 | succ m ih =>
  by_cases he:i=m+1
  ·rw [← he]
  ·have ih:=ih (by omega) (by omega);have hk:=Di W hp hn m (by omega);rw [dW];split
   ·exact ih
   split
   ·grind [upd,di]
   ·rename_i h2 h1;have h3:(aB s.ops m).kind=3:=by rcases W.kinds m (by omega) with k|k|k <;> omega
    have:=sj (W.pops m (by omega) h3);grind [upd,di]
theorem xg (W:Wf s.ops) {i:Nat} (hi:i<s.ops.length) (hk:(aB s.ops i).kind=1):bp s i=gZ s (aB s.ops i) (bB s (aB s.ops i)):=by
 rw [bp,Be W (Nat.lt_succ_self i) (by rw [dM hk];exact fun h=>Nat.lt_irrefl _ (fg h)) _ hi (Nat.le_refl _),dW,if_neg (by omega),if_pos hk];grind [cB]
theorem wN (W : Wf s.ops) {i p : Nat} {t : List Nat} (hi : i < s.ops.length) (hk : (aB s.ops i).kind = 3) (hs : bZ s.ops i = p :: t) :
  bp s i=gZ s (aB s.ops p) ((dW s i).2.headD dt)∧bp s p=gZ s (aB s.ops p) ((dW s i).2.headD dt):=by
 have hn:=kE (ops:=s.ops) i;rw [hs] at hn;have hp:p<i:=fg (ops:=s.ops) (by grind);refine ⟨?_, ?_⟩
 ·rw [bp,Be W (Nat.lt_succ_self i) (by rw [fy hk];exact fun h=>Nat.lt_irrefl _ (fg (List.mem_of_mem_tail h))) _ hi (Nat.le_refl _),dW,if_neg (by omega),if_neg (by omega),hs];grind [upd,di,cB]
 ·rw [bp,Be W (i:=i+1) (by omega) (by grind [bZ,fy]) _ hi (Nat.le_refl _),dW,if_neg (by omega),if_neg (by omega),hs];grind [upd,cB]
def NH (s:Script):Nat→List Nat→List Rect→Prop
 | i,[],h :: []=>∃ l,Nw (aN s.ops) 0 i l∧(∀ k ∈ l,k<i∧(aB s.ops k).kind≠3)∧h=dZ (l.map (bp s))
 | i,p :: st,h :: hs=>(∃ l,Nw (aN s.ops) (p+1) i l∧(∀ k ∈ l,(p<k∧k<i)∧(aB s.ops k).kind≠3)∧h=dZ (l.map (bp s)))∧NH s p st hs
 | _,_,_=>False
theorem Cz {i : Nat} {st : List Nat} {h : List Rect} (hk : (aB s.ops i).kind ≠ 3) (hl : ∀ p ∈ st, p < i) (hle : i ≤ aN s.ops i) (H : NH s i st h) :
  NH s (aN s.ops i+1) st (rv h (bp s i)):=by
 have hm:∀ l:List Nat,dZ [dZ (l.map (bp s)),bp s i]=dZ ((l ++ [i]).map (bp s)):=fun l=>by grind [JA]
 cases st with
 | nil =>
  cases h with
  | nil=>exact H.elim
  | cons a h =>
   cases h with
   | cons=>exact H.elim
   | nil =>
    obtain ⟨l,h1,h2,rfl⟩:=H;refine ⟨l ++ [i],xF h1,fun k hkm => ?_,hm l⟩;grind
 | cons p st =>
  cases h with
  | nil=>exact H.elim
  | cons a h =>
   obtain ⟨⟨l,h1,h2,rfl⟩,H2⟩:=H;refine ⟨⟨l ++ [i],xF h1,fun k hkm => ?_,hm l⟩,H2⟩;grind
theorem WK (W:Wf s.ops):∀ i,i≤s.ops.length→NH s i (bZ s.ops i) (dW s i).2
 | 0,_=>⟨[],rfl,fun k hk=>by simp at hk,rfl⟩
 | i+1,hi=>by
  have ih:=WK W i (by omega);have hlt:∀ p ∈ bZ s.ops i,p<i:=fun p hp=>fg hp;rcases W.kinds i (by omega) with k|k|k
  ·have e:=iH W (by omega) k;have:=Cz (by omega) hlt (by omega) ih;grind [bZ,dW,dM,xg]
  ·rw [dR k,dW,if_pos k];exact ⟨⟨[],rfl,fun k hk=>by simp at hk,rfl⟩,ih⟩
  ·rw [fy k,dW,if_neg (by omega),if_neg (by omega)];cases hs:bZ s.ops i with
   | nil=>exact absurd hs (W.pops i (by omega) k)
   | cons p t =>
    have hb:=(wN W (by omega) k hs).2;have e:=ig W (by omega) k hs;have hp:(aB s.ops p).kind=2:=il (i:=i) (by grind);rw [hs] at ih hlt;cases hh:(dW s i).2 with
    | nil=>rw [hh] at ih;exact ih.elim
    | cons a h =>
     rw [hh] at ih hb;have hn:=kE (ops:=s.ops) i;have hlt2:∀ q ∈ t,q<p:=fun q hq=>by exact Dz hs q hq
     have hpi:p<i:=hlt p (List.mem_cons_self ..);have:=Cz (by omega) hlt2 (by omega) ih.2;grind
theorem BJ (W : Wf s.ops) {p : Nat} (hp : p < s.ops.length) (hk : (aB s.ops p).kind = 2) :
  ∃ l,Nw (aN s.ops) (p+1) (aN s.ops p) l∧(∀ k ∈ l,(p<k∧k<aN s.ops p)∧(aB s.ops k).kind≠3)∧bp s p=gZ s (aB s.ops p) (dZ (l.map (bp s))):=by
 obtain ⟨j,t,h1,h2,h3,h4⟩:=nX W (s.ops.length - (p+1)) (p+1) (by omega) (by rw [dR hk];exact List.mem_cons_self ..);have e:=ig W h2 h3 h4;have H:=WK W j (by omega);have hb:=(wN W h2 h3 h4).2;rw [h4] at H;rw [e];cases hh:(dW s j).2 with
 | nil=>rw [hh] at H;exact H.elim
 | cons a h =>
  rw [hh] at H hb;obtain ⟨⟨l,q1,q2,rfl⟩,_⟩:=H;grind
theorem Bo (W:Wf s.ops) {i:Nat} (hi:i<s.ops.length) (hk:(aB s.ops i).kind=3):bp s i=bp s ((bZ s.ops i).headD 0):=by
 cases hs:bZ s.ops i with
 | nil=>exact absurd hs (W.pops i hi hk)
 | cons p t =>
  obtain ⟨h1,h2⟩:=wN W hi hk hs;grind
end
end
theorem GO {d q n n0:Int} (hd:0<d) (e:d * q+n=n0) (h0:0≤n) (h1:n≤d) (ho:d % 2=1):bV n0 d=if n≥(d+1) / 2 then q+1 else q:=by
 split
 ·refine tr hd ?_ ?_
  ·rw [Int.mul_add,Int.mul_one];omega
  ·rw [Int.mul_add,Int.mul_one];omega
 ·refine tr hd ?_ ?_
  ·omega
  ·omega
structure IsSqrt (s A:Int):Prop where
 s0:0≤s
 le:s * s≤A
 lt:A<(s+1) * (s+1)
theorem IsSqrt.iff {s A n:Int} (h:IsSqrt s A) (hn:0≤n):n * n≤A↔n≤s:=by
 refine ⟨fun q => ?_,fun q => ?_⟩
 ·refine Int.not_lt.1 fun c => ?_;have:=lG (a:=s+1) (b:=n) (by have:=h.s0;omega) (by omega);have:=h.lt;omega
 ·exact Int.le_trans (lG hn q) h.le
theorem CZ {x:Ex} {s:Int} (h:ExOk x) (hs:IsSqrt s (x.q * x.q * x.r)):cE x=(x.p+s) / x.d:=by
 obtain ⟨h1,h2,h3,h4⟩:=iG h;have hd:=h.d0;have key:∀ n,0≤n→(nU x 1 n=true↔n * x.d≤x.p+s):=fun n hn=>by
  simp only [nU,decide_eq_true_eq,Int.one_mul];have hs0:=hs.s0;rcases Int.le_total (n * x.d) x.p with q|q
  ·exact ⟨fun _=>by omega,fun _ => .inl q⟩
  ·rw [hs.iff (show 0≤n * x.d - x.p by omega)];omega
 have e1:=(key _ h3).1 h1;have e2:¬ (cE x+1) * x.d≤x.p+s:=fun q=>by
  have:=(key _ (show 0≤cE x+1 by omega)).2 q;rw [h2] at this;cases this
 generalize cE x=f at *
 have a1:f≤(x.p+s) / x.d:=(Int.le_ediv_iff_mul_le (by omega)).2 e1;have a2:(x.p+s) / x.d<f+1:=(Int.ediv_lt_iff_lt_mul (by omega)).2 (by omega);omega
theorem TK {x : Ex} {f k : Int} (hk : (2 * f + 1) * x.d - 2 * x.p = k) :
  (nU x 2 (2 * f+1)=true↔k≤0∨0<k∧(if k % 2=0 then k / 2 * (k / 2)≤x.q * x.q * x.r else k / 2 * (k / 2)+k / 2<x.q * x.q * x.r)):=by
 have e4:2 * x.q * (2 * x.q) * x.r=4 * (x.q * x.q * x.r):=by grind
 simp only [nU,decide_eq_true_eq];rw [e4,hk];generalize x.q * x.q * x.r=A;rcases Decidable.em (0<k) with c|c
 ·have hm:=Int.mul_ediv_add_emod k 2;generalize k / 2=m at *
  have hkk:k * k=4 * (m * m)+4 * (m * (k % 2))+k % 2 * (k % 2):=by
   have:k=2 * m+k % 2:=by omega
   generalize k % 2=o at *
   rw [this];grind
  have ho:k % 2=0∨k % 2=1:=by omega
  rcases ho with o|o
  ·rw [if_pos o];rw [o] at hkk;constructor
   ·rintro (q|q)
    ·omega
    ·exact .inr ⟨c,by omega⟩
   ·rintro (q|q)
    ·omega
    ·exact .inr (by have:=q.2;omega)
  ·rw [if_neg (by omega)];rw [o] at hkk;constructor
   ·rintro (q|q)
    ·omega
    ·exact .inr ⟨c,by omega⟩
   ·rintro (q|q)
    ·omega
    ·exact .inr (by have:=q.2;omega)
 ·exact ⟨fun _ => .inl (by omega),fun _ => .inl (by omega)⟩
theorem JN {A:Int} (h0:0≤A) (h1:A<2 ^ 64 * 2 ^ 64):IsSqrt (vo (fun n=>decide (n * n≤A)) 64 0) A:=by
 have hm:∀ a b:Int,0≤a→a≤b→b * b≤A→a * a≤A:=fun a b ha hab h=>Int.le_trans (lG ha hab) h;have key:∀ (i:Nat) (n:Int),0≤n→n * n≤A→A<(n+2 ^ i) * (n+2 ^ i)→IsSqrt (vo (fun n=>decide (n * n≤A)) i n) A:=by
  intro i
  induction i with
  | zero=>exact fun n hn a b=>⟨hn,a,by simpa [vo] using b⟩
  | succ i ih =>
   intro n hn a b;have e:(2:Int) ^ (i+1)=2 ^ i+2 ^ i:=by rw [Int.pow_succ];omega
   have hp:(0:Int)<2 ^ i:=Int.pow_pos (by decide);rw [e] at b;rw [show vo (fun n=>decide (n * n≤A)) (i+1) n=vo (fun n=>decide (n * n≤A)) i (if decide ((n+2 ^ i) * (n+2 ^ i)≤A)=true then n+2 ^ i else n) from rfl];split
   ·rename_i h;rw [decide_eq_true_eq] at h;exact ih _ (by omega) h (by rw [show n+2 ^ i+2 ^ i=n+(2 ^ i+2 ^ i) by omega];exact b)
   ·rename_i h;rw [decide_eq_true_eq] at h;exact ih _ hn a (by omega)
 exact key 64 0 (by omega) (by omega) (by simpa using h1)
section
structure DigI (u d y1 y0 q r:Int):Prop where
 q0:0≤q
 r0:0≤r
 e:q * y1+r=u
 lt:u * 4294967296+d<(q+1) * (y1 * 4294967296+y0)
structure DigP (u d y1 y0:Int):Prop where
 u0:0≤u
 uy:u<y1 * 4294967296+y0
 d0:0≤d
 d1:d<4294967296
 a0:2147483648≤y1
 a1:y1<4294967296
 b0:0≤y0
 b1:y0<4294967296
section
variable {u d y1 y0 q r:Int}
theorem uZ {q:Int}:q * (y1 * 4294967296+y0)=q * y1 * 4294967296+q * y0:=by rw [Int.mul_add,Int.mul_assoc]
theorem zs (P:DigP u d y1 y0):DigI u d y1 y0 (u / y1) (u - u / y1 * y1):=by
 obtain ⟨u0,uy,d0,d1,a0,a1,b0,b1⟩:=P;have hq:0≤u / y1:=Int.ediv_nonneg u0 (by omega);have h1:=Int.mul_ediv_add_emod u y1;have h2:=Int.emod_nonneg u (show y1≠0 by omega);have h3:=Int.emod_lt_of_pos u (show 0<y1 by omega);rw [Int.mul_comm] at h1;generalize u / y1=q at *
 refine ⟨hq,by omega,by omega, ?_⟩;rw [uZ];have h4:0≤(q+1) * y0:=Int.mul_nonneg (by omega) b0;have h5:(q+1) * y1=q * y1+y1:=by rw [Int.add_mul,Int.one_mul]
 omega
theorem rJ (P:DigP u d y1 y0) (I:DigI u d y1 y0 q r) (h:4294967296≤q∨4294967296 * r+d<q * y0):DigI u d y1 y0 (q - 1) (r+y1):=by
 obtain ⟨u0,uy,d0,d1,a0,a1,b0,b1⟩:=P;obtain ⟨q0,r0,e,lt⟩:=I;have hq:1≤q:=by
  rcases h with h|h
  ·omega
  ·refine Int.not_lt.1 fun c => ?_;have:q=0:=by omega
   subst this;rw [Int.zero_mul] at h;omega
 have e2:(q - 1) * y1=q * y1 - y1:=by rw [Int.sub_mul,Int.one_mul]
 refine ⟨by omega,by omega,by omega, ?_⟩;rw [show q - 1+1=q by omega,uZ];rcases h with h|h
 ·have h1:4294967296 * (y1 * 4294967296+y0)≤q * (y1 * 4294967296+y0):=Int.mul_le_mul_of_nonneg_right h (by omega);rw [uZ (q:=q)] at h1;omega
 ·omega
theorem pq (P:DigP u d y1 y0) (I:DigI u d y1 y0 q r) (h:q * y0≤4294967296 * r+d):q=(u * 4294967296+d) / (y1 * 4294967296+y0)∧q<4294967296∧u * 4294967296+d - q * (y1 * 4294967296+y0)=(u * 4294967296+d) % (y1 * 4294967296+y0):=by
 obtain ⟨u0,uy,d0,d1,a0,a1,b0,b1⟩:=P;obtain ⟨q0,r0,e,lt⟩:=I;have h1:q * (y1 * 4294967296+y0)≤u * 4294967296+d:=by rw [uZ];omega
 have hy:0<y1 * 4294967296+y0:=by omega
 have e1:q=(u * 4294967296+d) / (y1 * 4294967296+y0):=by
  have a:q≤(u * 4294967296+d) / (y1 * 4294967296+y0):=(Int.le_ediv_iff_mul_le hy).2 h1;have b:(u * 4294967296+d) / (y1 * 4294967296+y0)<q+1:=(Int.ediv_lt_iff_lt_mul hy).2 lt;omega
 refine ⟨e1, ?_, ?_⟩
 ·refine Int.not_le.1 fun c => ?_;have h2:4294967296 * (y1 * 4294967296+y0)≤q * (y1 * 4294967296+y0):=Int.mul_le_mul_of_nonneg_right c (by omega);omega
 ·have:=Int.mul_ediv_add_emod (u * 4294967296+d) (y1 * 4294967296+y0);rw [← e1,Int.mul_comm] at this;omega
theorem pz (P:DigP u d y1 y0) (I:DigI u d y1 y0 q r) (h:4294967296≤r):q * y0≤4294967296 * r+d:=by
 obtain ⟨u0,uy,d0,d1,a0,a1,b0,b1⟩:=P;obtain ⟨q0,r0,e,lt⟩:=I;have hq:q≤4294967296:=by
  refine Int.not_lt.1 fun c => ?_;have h2:4294967297 * y1≤q * y1:=Int.mul_le_mul_of_nonneg_right c (by omega);omega
 have h3:q * y0≤4294967296 * 4294967295:=Int.mul_le_mul hq (by omega) b0 (by omega);omega
theorem AI (P:DigP u d y1 y0) (I:DigI u d y1 y0 q r):q≤8589934592:=by
 obtain ⟨u0,uy,d0,d1,a0,a1,b0,b1⟩:=P;obtain ⟨q0,r0,e,lt⟩:=I;refine Int.not_lt.1 fun c => ?_;have h2:q * 2147483648≤q * y1:=Int.mul_le_mul_of_nonneg_left a0 q0;omega
end
theorem IM {a y k:Int} (hk:0<k) (hy:0<y):a * k / (y * k)=a / y∧a * k % (y * k)=a % y * k:=by
 have h:=Int.mul_ediv_add_emod a y;have h2:=Int.emod_nonneg a (show y≠0 by omega);have h3:=Int.emod_lt_of_pos a hy;refine ⟨Int.mul_ediv_mul_of_pos_left a y hk, ?_⟩;rw [Int.mul_comm a,Int.mul_comm y,Int.mul_emod_mul_of_pos _ _ hk,Int.mul_comm]
theorem Fg {t a b y q1 q0 r1 : Int} (hy : 0 < y) (h1 : q1 = (t * 4294967296 + a) / y) (hr : r1 = (t * 4294967296 + a) % y) (h0 : q0 = (r1 * 4294967296 + b) / y) (hb : 0 ≤ b ∧ b < 4294967296) :
  q1 * 4294967296+q0=(t * 18446744073709551616+(a * 4294967296+b)) / y∧(r1 * 4294967296+b) % y=(t * 18446744073709551616+(a * 4294967296+b)) % y:=by
 have e1:=Int.mul_ediv_add_emod (t * 4294967296+a) y;have e2:=Int.mul_ediv_add_emod (r1 * 4294967296+b) y;have m0:=Int.emod_nonneg (r1 * 4294967296+b) (show y≠0 by omega);have m1:=Int.emod_lt_of_pos (r1 * 4294967296+b) hy;rw [← h1,← hr] at e1;rw [← h0] at e2;have e3:t * 18446744073709551616+(a * 4294967296+b)=y * (q1 * 4294967296+q0)+(r1 * 4294967296+b) % y:=by
  have:y * (q1 * 4294967296+q0)=y * q1 * 4294967296+y * q0:=by rw [Int.mul_add,Int.mul_assoc]
  omega
 generalize (r1 * 4294967296+b) % y=m at *
 rw [e3];constructor
 ·rw [Int.mul_add_ediv_left _ _ (by omega),Int.ediv_eq_zero_of_lt m0 m1,Int.add_zero]
 ·rw [Int.mul_add_emod_self_left,Int.emod_eq_of_lt m0 m1]
end
end Go.Proofs.YtcbifofjjpfbcaaGreatDoor
