/- Part of the proof: F22, F3. -/
import Derived.Test.YtdjmpacladhijaaGreatDoorM5
set_option linter.unusedSimpArgs false
set_option linter.unusedVariables false
set_option maxHeartbeats 8000000
set_option maxRecDepth 16000
namespace Go.Proofs.YtdjmpacladhijaaGreatDoor
open Go Go.SL
open Go.RowKit (wrap64)
def yN (k:Nat) (p:Pixel):Int:=match k with
 | 0=>p.c0
 | 1=>p.c1
 | 2=>p.c2
 | 3=>p.a
 | _=>p.f
def dF (w h:Int) (l:List Pixel) (k:Nat):Plane:=⟨w,h,w,l.map (yN k)⟩
def gN (w h:Int) (l:List Pixel):Image:=⟨w,h,false,⟨0,0,0,0,0⟩,dF w h l 0,dF w h l 1,dF w h l 2,dF w h l 3,dF w h l 4⟩
def kK:Plane:=⟨0,0,0,[]⟩
def ft:Image:=⟨0,0,false,⟨0,0,0,0,0⟩,kK,kK,kK,kK,kK⟩
def dg (w h:Int) (n:Nat):Bool:=dD w h && decide ((n:Int)=w * h)
def bR (w h:Int) (l:List Pixel):Image:=if dg w h l.length=true then gN w h l else ft
theorem fU {w h:Int} (hf:dD w h=true):1≤w∧1≤h∧1≤w * h∧w * h≤16777216∧w≤16777216∧h≤16777216:=by
 simp only [dD,decide_eq_true_eq] at hf;obtain ⟨h1,h2,h3,h4⟩:=hf;have h5:w * h≤w * (16777216 / w):=Int.mul_le_mul_of_nonneg_left h4 (by omega);have h6:w * (16777216 / w)≤16777216:=Int.mul_ediv_self_le (by omega);have h7:1 * 1≤w * h:=Int.mul_le_mul h1 h2 (by omega) (by omega);have h8:16777216 / w≤16777216:=Int.ediv_le_self _ (by omega);omega
def bS (l:List Pixel) (q i k:Nat):Nat→Nat→PV:=fun a _=>PU (if a<i∨a=i∧q<k then yN q (l.getD a default) else 0)
def jL (w h:Int) (x q n:Nat):List CV:=if q<x then [.p (PI w), .p (PI h), .p (PI w), .own (2+q) n] else [.p (PI 0), .p (PI 0), .p (PI 0), .p Jl]
def nW (w h:Int) (n x:Nat):List CV:=[.p (PI w), .p (PI h), .p (PB false), .p (PU 0), .p (PU 0), .p (PU 0), .p (PU 0), .p (PU 0)] ++ jL w h x 0 n ++ jL w h x 1 n ++ jL w h x 2 n ++ jL w h x 3 n ++ jL w h x 4 n
def og (w h:Int) (n x:Nat) (l:List Pixel):List (Nat × Bx):=[(0, .fix ((aF ft).map CV.p)),(1, .fix (nW w h n x))] ++ (if 0<x then [(2, .arr 31 1 n (bS l 0 0 0))] else []) ++ (if 1<x then [(3, .arr 31 1 n (bS l 1 0 0))] else []) ++ (if 2<x then [(4, .arr 31 1 n (bS l 2 0 0))] else []) ++ (if 3<x then [(5, .arr 31 1 n (bS l 3 0 0))] else []) ++ (if 4<x then [(6, .arr 31 1 n (bS l 4 0 0))] else [])
theorem lU {l:List Pixel} {q a j:Nat}:bS l q 0 0 a j=PU 0:=by grind [bS]
theorem eA {l:List Pixel} {q i k:Nat} (h:q≠k):bS l q i k=bS l q i (k+1):=by grind [bS]
theorem uz {l:List Pixel} {q i a j:Nat}:(if a=i then PU (yN q (l.getD i default)) else bS l q i q a j)=bS l q i (q+1) a j:=by grind [bS]
theorem ru {l:List Pixel} {q i:Nat} (h:q<3):bS l q i 3=bS l q (i+1) 0:=by grind [bS]
theorem yc {l:List Pixel} {q i a j:Nat} (h:3≤q):(if a=i then PU (yN q (l.getD i default)) else bS l q i 3 a j)=bS l q (i+1) 0 a j:=by grind [bS]
theorem Qq {w h:Int} {l:List Pixel} {q:Nat}:PV.le (.lst 1 l.length (bS l q l.length 0)) (.lst 1 (dF w h l q).s.length (aQ VQ (dF w h l q).s)):=by
 have e:(dF w h l q).s.length=l.length:=by simp [dF]
 rw [e];refine gX fun a ha j hj => ?_;have:j=0:=by omega
 subst this;have e2:(dF w h l q).s.getD a default=yN q (l.getD a default):=by simp only [dF,List.getD_eq_getElem?_getD,List.getElem?_map,List.getElem?_eq_getElem ha,Option.map_some,Option.getD_some]
 rw [bS,if_pos (by omega),aQ,e2];rfl
theorem kQ (w h : Int) (l : List Pixel) (hl : l.length ≤ 4611686018427387904) :
  aB Sg 11 [I w,I h, .c (.p (lM l))] (fun r=>r = .tup [ag (aF (bR w h l)),B (dg w h l.length)]):=by
 refine bo ?_;refine az Tryz.func11 [.cell 6 49, .tmp 7] ?_
 repeat' (first|refine aw ?_|refine an (fun K hK => ?_)|refine aa (jb _ _) ?_|(refine aH (fun hb => ?_) (fun hb => ?_) <;> try exact ax)|(refine aq hK ?_;try clear hK K))
 ·have hok:dg w h l.length=false:=by
   cases hf:dD w h with
   | false=>grind [dg]
   | true =>
    grind [fU,dg,eK]
  rw [hok,bR,if_neg (by grind)];refine cJ ⟨dG ?_,cD trivial,trivial⟩;simp only [List.map_cons,List.map_nil,bM,cA];and_intros;all_goals first|exact .inl rfl|exact .inl trivial|exact .inr bP|trivial|skip
 refine aK (X:=Nat) (fun x=>aP [(0, .b (I w)),(1, .b (I h)),(2, .b (.c (.p (lM l)))),(6, .b (.c (.ptr 0 0))),(8, .b (.c (.ptr 1 0))),(9, .b (I x))] (og w h l.length x l) (2+x)) (fun x=>x≤5) (fun x=>5 - x) 0 ?_ ?_ ?_
 ·omega
 ·simp only [og,nW,jL];refine ar [(1,some 1)] ?_ ?_;and_intros;all_goals try exact ak
  all_goals exact bP
 ·intro x hx;have hw:IntKind.i64.wrap (w * h)=w * h:=by
   have:=fU hb.1;exact eK (by omega) (by omega)
  have hb2:=fU hb.1;rw [hw] at hb;have hx':x=0∨x=1∨x=2∨x=3∨x=4∨x=5:=by omega
  rcases hx' with rfl|rfl|rfl|rfl|rfl|rfl
  ·simp only [og,nW,jL]
   repeat' (first|refine aC ?_|(refine aH (fun hb => ?_) (fun hb => ?_) <;> try exact ax))
   rw [ae];refine ao 1 ?_ (by omega) (by omega);refine ar [(1,some 1),(2,some 2)] ?_ ?_;and_intros;all_goals try exact ak
   grind [bS,PV.le,lU,PV.le_refl]
  ·simp only [og,nW,jL]
   repeat' (first|refine aC ?_|(refine aH (fun hb => ?_) (fun hb => ?_) <;> try exact ax))
   rw [ae];refine ao 2 ?_ (by omega) (by omega);refine ar [(1,some 1),(2,some 2),(3,some 3)] ?_ ?_;and_intros;all_goals try exact ak
   grind [bS,PV.le,lU,PV.le_refl]
  ·simp only [og,nW,jL]
   repeat' (first|refine aC ?_|(refine aH (fun hb => ?_) (fun hb => ?_) <;> try exact ax))
   rw [ae];refine ao 3 ?_ (by omega) (by omega);refine ar [(1,some 1),(2,some 2),(3,some 3),(4,some 4)] ?_ ?_;and_intros;all_goals try exact ak
   grind [bS,PV.le,lU,PV.le_refl]
  ·simp only [og,nW,jL]
   repeat' (first|refine aC ?_|(refine aH (fun hb => ?_) (fun hb => ?_) <;> try exact ax))
   rw [ae];refine ao 4 ?_ (by omega) (by omega);refine ar [(1,some 1),(2,some 2),(3,some 3),(4,some 4),(5,some 5)] ?_ ?_;and_intros;all_goals try exact ak
   grind [bS,PV.le,lU,PV.le_refl]
  ·simp only [og,nW,jL]
   repeat' (first|refine aC ?_|(refine aH (fun hb => ?_) (fun hb => ?_) <;> try exact ax))
   rw [ae];refine ao 5 ?_ (by omega) (by omega);refine ar [(1,some 1),(2,some 2),(3,some 3),(4,some 4),(5,some 5),(6,some 6)] ?_ ?_;and_intros;all_goals try exact ak
   grind [bS,PV.le,lU,PV.le_refl]
  simp only [og,nW,jL]
  repeat' (first|refine aC ?_|(refine aH (fun hb => ?_) (fun hb => ?_) <;> try exact ax))
  refine aK (X:=Nat) (fun i=>aP [(0, .b (I w)),(1, .b (I h)),(2, .b (.c (.p (lM l)))),(6, .b (.c (.ptr 0 0))),(8, .b (.c (.ptr 1 0))),(10, .b (I i))] [(0, .fix ((aF ft).map CV.p)),(1, .fix ([.p (PI w), .p (PI h), .p (PB false), .p (PU 0), .p (PU 0), .p (PU 0), .p (PU 0), .p (PU 0), .p (PI w), .p (PI h), .p (PI w), .own 2 l.length, .p (PI w), .p (PI h), .p (PI w), .own 3 l.length, .p (PI w), .p (PI h), .p (PI w), .own 4 l.length, .p (PI w), .p (PI h), .p (PI w), .own 5 l.length, .p (PI w), .p (PI h), .p (PI w), .own 6 l.length])),(2, .arr 31 1 l.length (bS l 0 i 0)),(3, .arr 31 1 l.length (bS l 1 i 0)),(4, .arr 31 1 l.length (bS l 2 i 0)),(5, .arr 31 1 l.length (bS l 3 i 0)),(6, .arr 31 1 l.length (bS l 4 i 0))] 7) (fun i=>i≤l.length) (fun i=>l.length - i) 0 ?_ ?_ ?_
  ·omega
  ·refine ar [(1,some 1),(2,some 2),(3,some 3),(4,some 4),(5,some 5),(6,some 6)] ?_ ?_;and_intros;all_goals try exact ak
  ·intro i hi
   repeat' (first|refine aC ?_|(refine aH (fun hb => ?_) (fun hb => ?_) <;> try exact ax))
   ·refine aK (X:=Nat) (fun k=>aP [(0, .b (I w)),(1, .b (I h)),(2, .b (.c (.p (lM l)))),(6, .b (.c (.ptr 0 0))),(8, .b (.c (.ptr 1 0))),(10, .b (I i)),(11, .b (I k))] [(0, .fix ((aF ft).map CV.p)),(1, .fix ([.p (PI w), .p (PI h), .p (PB false), .p (PU 0), .p (PU 0), .p (PU 0), .p (PU 0), .p (PU 0), .p (PI w), .p (PI h), .p (PI w), .own 2 l.length, .p (PI w), .p (PI h), .p (PI w), .own 3 l.length, .p (PI w), .p (PI h), .p (PI w), .own 4 l.length, .p (PI w), .p (PI h), .p (PI w), .own 5 l.length, .p (PI w), .p (PI h), .p (PI w), .own 6 l.length])),(2, .arr 31 1 l.length (bS l 0 i k)),(3, .arr 31 1 l.length (bS l 1 i k)),(4, .arr 31 1 l.length (bS l 2 i k)),(5, .arr 31 1 l.length (bS l 3 i k)),(6, .arr 31 1 l.length (bS l 4 i k))] 7) (fun k=>k≤3) (fun k=>3 - k) 0 ?_ ?_ ?_
    ·omega
    ·refine ar [(1,some 1),(2,some 2),(3,some 3),(4,some 4),(5,some 5),(6,some 6)] ?_ ?_;and_intros;all_goals try exact ak
    ·intro k hk;have hk':k=0∨k=1∨k=2∨k=3:=by omega
     rcases hk' with rfl|rfl|rfl|rfl
     ·repeat' (first|refine bL ?_|(refine an (fun K hK => ?_);and_intros;all_goals first|(refine hK _ ?_;clear hK K)|try exact ai)|(refine aH (fun hb => ?_) (fun hb => ?_);all_goals try exact ax))
      rw [ae];refine ao 1 ?_ (by omega) (by omega);refine ar [(1,some 1),(2,some 2),(3,some 3),(4,some 4),(5,some 5),(6,some 6)] ?_ ?_;and_intros;all_goals try exact ak
      ·refine .inr fun a ha j hj => ?_;have:j=0:=by omega
       subst this;rw [← uz];simp only [Int.toNat_natCast];by_cases h:a=i
       ·rw [if_pos h,if_pos h];split
        ·exact PV.le_refl _
        ·rename_i hn;exact absurd ⟨Nat.le_refl _,by decide +kernel⟩ hn
       grind [PV.le,PV.le_refl]
      ·grind [bS,eA]
      ·grind [bS,eA]
      ·grind [bS,eA]
      grind [bS,eA]
     ·repeat' (first|refine bL ?_|(refine an (fun K hK => ?_);and_intros;all_goals first|(refine hK _ ?_;clear hK K)|try exact ai)|(refine aH (fun hb => ?_) (fun hb => ?_);all_goals try exact ax))
      rw [ae];refine ao 2 ?_ (by omega) (by omega);refine ar [(1,some 1),(2,some 2),(3,some 3),(4,some 4),(5,some 5),(6,some 6)] ?_ ?_;and_intros;all_goals try exact ak
      ·grind [bS,eA]
      ·refine .inr fun a ha j hj => ?_;have:j=0:=by omega
       subst this;rw [← uz];simp only [Int.toNat_natCast];by_cases h:a=i
       ·rw [if_pos h,if_pos h];split
        ·exact PV.le_refl _
        ·rename_i hn;exact absurd ⟨Nat.le_refl _,by decide +kernel⟩ hn
       grind [PV.le,PV.le_refl]
      ·grind [bS,eA]
      ·grind [bS,eA]
      grind [bS,eA]
     ·repeat' (first|refine bL ?_|(refine an (fun K hK => ?_);and_intros;all_goals first|(refine hK _ ?_;clear hK K)|try exact ai)|(refine aH (fun hb => ?_) (fun hb => ?_);all_goals try exact ax))
      rw [ae];refine ao 3 ?_ (by omega) (by omega);refine ar [(1,some 1),(2,some 2),(3,some 3),(4,some 4),(5,some 5),(6,some 6)] ?_ ?_;and_intros;all_goals try exact ak
      ·grind [bS,eA]
      ·grind [bS,eA]
      ·refine .inr fun a ha j hj => ?_;have:j=0:=by omega
       subst this;rw [← uz];simp only [Int.toNat_natCast];by_cases h:a=i
       ·rw [if_pos h,if_pos h];split
        ·exact PV.le_refl _
        ·rename_i hn;exact absurd ⟨Nat.le_refl _,by decide +kernel⟩ hn
       grind [PV.le,PV.le_refl]
      ·grind [bS,eA]
      grind [bS,eA]
     ·repeat' (first|((with_reducible refine IG (id:=15) [(87,2),(74,1),(85,3)] ?_ (fun K hK => ?_));exact bZ;refine bV ?_)|refine aw ?_|refine an (fun K hK => ?_)|(refine aH (fun hb => ?_) (fun hb => ?_) <;> try exact ax)|(refine aq hK ?_;try clear hK K)|(refine pz hK ?_;try clear hK K))
      rw [ae];refine ao (i+1) ?_ (by omega) (by omega);refine ar [(1,some 1),(2,some 2),(3,some 3),(4,some 4),(5,some 5),(6,some 6)] ?_ ?_;and_intros;all_goals try exact ak
      ·grind [bS,ru]
      ·grind [bS,ru]
      ·grind [bS,ru]
      ·refine .inr fun a ha j hj => ?_;have:j=0:=by omega
       subst this;rw [← yc (by decide)];simp only [Int.toNat_natCast];by_cases h:a=i
       ·rw [if_pos h,if_pos h];exact PV.le_refl _
       grind [PV.le,PV.le_refl]
      ·refine .inr fun a ha j hj => ?_;have:j=0:=by omega
       subst this;rw [← yc (by decide)];simp only [Int.toNat_natCast];by_cases h:a=i
       ·rw [if_pos h,if_pos h];exact PV.le_refl _
       grind [PV.le,PV.le_refl]
   ·have hok:dg w h l.length=true:=by rw [dg,(by assumption:dD w h=true∧_).1,decide_eq_true (by omega)];rfl
    rw [hok,bR,if_pos hok];have hi2:i=l.length:=by omega
    rw [hi2];refine cJ ⟨dG ?_,cD trivial,trivial⟩;simp only [List.map_cons,List.map_nil,bM,cA];and_intros;all_goals first|exact .inl rfl|exact .inl trivial|exact .inr bP|trivial|skip
    all_goals exact .inr Qq
def tM (r:Raw) (push:Bool) (images:Int) (cx cy:Int) (free:Bool) (m:Int):Op :=
 { kind:=if push then 2 else 1,image:=if push then 0 else r.image % images,x:=if push then 0 else lG r.x cx,y:=if push then 0 else lG r.y cy,mask:=if r.mask % 4=0 then 1+r.mask.tdiv 4 % images else 0,maskX:=if r.mask % 4=0 then lG r.maskX cx else 0,maskY:=if r.mask % 4=0 then lG r.maskY cy else 0,opacity:=if r.opacity % 2=0 then dZ (r.opacity.tdiv 2) m else m,operator:=if free=true∧r.operator % 2=0 then 1+r.operator.tdiv 2 % 12 else 4,mode:=if r.mode % 2=0 then 1+r.mode.tdiv 2 % 12 else 1,isolated:=push && (r.flags % 2 == 0),knockout:=push && (r.flags.tdiv 2 % 3 == 0) }
structure RawOk (r:Raw):Prop where
 kind:i64 r.kind
 image:i64 r.image
 x:i64 r.x
 y:i64 r.y
 mask:i64 r.mask
 maskX:i64 r.maskX
 maskY:i64 r.maskY
 opacity:i64 r.opacity
 operator:i64 r.operator
 mode:i64 r.mode
 flags:i64 r.flags
theorem iU (n c:Int):c - 4≤lG n c∧lG n c≤c+4:=by unfold lG;split <;> omega
set_option maxHeartbeats 4000000 in
theorem Xd (r : Raw) (push : Bool) (images : Int) (c : Rect) (free : Bool) (m : Int) (hr : RawOk r) (hi1 : 1 ≤ images) (hi2 : images ≤ 1000000) (hc1 : -2000000000 ≤ c.x0) (hc2 : c.x0 ≤ 2000000000) (hc3 : -2000000000 ≤ c.y0) (hc4 : c.y0 ≤ 2000000000) (hm : u16 m) :
  aB Sg 38 [ag (ZD r),B push,I images,ag (aS c),B free,U m] (fun x=>x = .b (ag (cC (tM r push images c.x0 c.y0 free m)))):=by
 obtain ⟨⟨a1,a2⟩,⟨b1,b2⟩,⟨c1,c2⟩,⟨d1,d2⟩,⟨e1,e2⟩,⟨f1,f2⟩,⟨g1,g2⟩,⟨h1,h2⟩,⟨i1,i2⟩,⟨j1,j2⟩,⟨k1,k2⟩⟩:=hr;have q1:=iU r.x c.x0;have q2:=iU r.y c.y0;have q3:=iU r.maskX c.x0;have q4:=iU r.maskY c.y0;have q5:=iu (r.opacity.tdiv 2) m hm.1;have q6:=Int.emod_nonneg (r.mask.tdiv 4) (show images≠0 by omega);have q7:=Int.emod_lt_of_pos (r.mask.tdiv 4) (show 0<images by omega);have w1:=Ar (r.opacity.tdiv 2);rw [If h1 h2 (by omega)] at w1;obtain ⟨hm1,hm2⟩:=hm;refine az Tryz.func38 [.cell 12 33] ?_;repeat' (first|refine aw ?_|refine an (fun K hK => ?_)|refine aa (bD _ _ (by omega) (by omega)) ?_|refine aA (fun hg=>bD _ _ (by omega) (by omega)) ?_|refine aa (xX _ _ ⟨by omega,by omega⟩ ⟨by omega,by omega⟩) ?_|refine aa (Ii _ _ ⟨by omega,by omega⟩ (by omega) (by omega)) ?_|(apply dC;(case hf=>rfl);(case hc=>exact du);(all_goals first|(intro hb;(try simp only [nR] at hb))|skip))|exact bd|(refine aq hK ?_;try clear hK K))
 cases push <;> cases free <;> simp [tM]
end Go.Proofs.YtdjmpacladhijaaGreatDoor
