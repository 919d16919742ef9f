/- Part of the proof: F22, F4, D1, D2, FB, W1, W3. -/
import Derived.Test.YtmfblbbemekkoaaGreatDoorK6
set_option linter.unusedSimpArgs false
set_option linter.unusedVariables false
set_option maxHeartbeats 8000000
set_option maxRecDepth 16000
namespace Go.Proofs.YtmfblbbemekkoaaGreatDoor
open Go Go.SL
open Go.RowKit (wrap64)
def BK (k:Nat) (p:Pixel):Int:=match k with
 | 0=>p.c0
 | 1=>p.c1
 | 2=>p.c2
 | 3=>p.a
 | _=>p.f
def bE (w h:Int) (l:List Pixel) (k:Nat):Plane:=⟨w,h,w,l.map (BK k)⟩
def cY (w h:Int) (l:List Pixel):Image:=⟨w,h,false,⟨0,0,0,0,0⟩,bE w h l 0,bE w h l 1,bE w h l 2,bE w h l 3,bE w h l 4⟩
def fF:Plane:=⟨0,0,0,[]⟩
def pP:Image:=⟨0,0,false,⟨0,0,0,0,0⟩,fF,fF,fF,fF,fF⟩
def dO (w h:Int) (n:Nat):Bool:=bU w h && decide ((n:Int)=w * h)
def kM (w h:Int) (l:List Pixel):Image:=if dO w h l.length=true then cY w h l else pP
theorem cS {w h:Int} (hf:bU w h=true):1≤w∧1≤h∧1≤w * h∧w * h≤16777216∧w≤16777216∧h≤16777216:=by
 simp only [bU,decide_eq_true_eq] at hf
 obtain ⟨h1,h2,h3,h4⟩:=hf
 have h5:w * h≤w * (16777216 / w):=Int.mul_le_mul_of_nonneg_left h4 (by omega)
 have h6:w * (16777216 / w)≤16777216:=Int.mul_ediv_self_le (by omega)
 have h7:1 * 1≤w * h:=Int.mul_le_mul h1 h2 (by omega) (by omega)
 have h8:16777216 / w≤16777216:=Int.ediv_le_self _ (by omega)
 omega
def bJ (l:List Pixel) (q i k:Nat):Nat→Nat→PV:=fun a _=>PU (if a<i∨a=i∧q<k then BK q (l.getD a default) else 0)
def ep (w h:Int) (x q n:Nat):List CV:=if q<x then [.p (PI w), .p (PI h), .p (PI w), .own (2+q) n] else [.p (PI 0), .p (PI 0), .p (PI 0), .p Ec]
def iI (w h:Int) (n x:Nat):List CV:=[.p (PI w), .p (PI h), .p (PB false), .p (PU 0), .p (PU 0), .p (PU 0), .p (PU 0), .p (PU 0)] ++ ep w h x 0 n ++ ep w h x 1 n ++ ep w h x 2 n ++ ep w h x 3 n ++ ep w h x 4 n
def iM (w h:Int) (n x:Nat) (l:List Pixel):List (Nat × Bx):=[(0, .fix ((aY pP).map CV.p)),(1, .fix (iI w h n x))] ++ (if 0<x then [(2, .arr 27 1 n (bJ l 0 0 0))] else []) ++ (if 1<x then [(3, .arr 27 1 n (bJ l 1 0 0))] else []) ++ (if 2<x then [(4, .arr 27 1 n (bJ l 2 0 0))] else []) ++ (if 3<x then [(5, .arr 27 1 n (bJ l 3 0 0))] else []) ++ (if 4<x then [(6, .arr 27 1 n (bJ l 4 0 0))] else [])
theorem fL {l:List Pixel} {q a j:Nat}:bJ l q 0 0 a j=PU 0:=by
 rw [bJ,if_neg (by omega)]
theorem ca {l:List Pixel} {q i k:Nat} (h:q≠k):bJ l q i k=bJ l q i (k+1):=by
 funext a j
 unfold bJ
 by_cases c:a<i∨a=i∧q<k
 ·rw [if_pos c,if_pos (by omega)]
 ·rw [if_neg c,if_neg (by omega)]
theorem mA {l:List Pixel} {q i a j:Nat}:(if a=i then PU (BK q (l.getD i default)) else bJ l q i q a j)=bJ l q i (q+1) a j:=by
 unfold bJ
 by_cases c:a=i
 ·rw [if_pos c,if_pos (by omega),c]
 ·rw [if_neg c]
  by_cases d:a<i
  ·rw [if_pos (by omega),if_pos (by omega)]
  ·rw [if_neg (by omega),if_neg (by omega)]
theorem kS {l:List Pixel} {q i:Nat} (h:q<3):bJ l q i 3=bJ l q (i+1) 0:=by
 funext a j
 unfold bJ
 by_cases c:a<i∨a=i∧q<3
 ·rw [if_pos c,if_pos (by omega)]
 ·rw [if_neg c,if_neg (by omega)]
theorem pb {l:List Pixel} {q i a j:Nat} (h:3≤q):(if a=i then PU (BK q (l.getD i default)) else bJ l q i 3 a j)=bJ l q (i+1) 0 a j:=by
 unfold bJ
 by_cases c:a=i
 ·rw [if_pos c,if_pos (by omega),c]
 ·rw [if_neg c]
  by_cases d:a<i
  ·rw [if_pos (by omega),if_pos (by omega)]
  ·rw [if_neg (by omega),if_neg (by omega)]
theorem Dg {w h:Int} {l:List Pixel} {q:Nat}:PV.le (.lst 1 l.length (bJ l q l.length 0)) (.lst 1 (bE w h l q).s.length (bd JT (bE w h l q).s)):=by
 have e:(bE w h l q).s.length=l.length:=by simp [bE]
 rw [e]
 refine mC fun a ha j hj => ?_
 have:j=0:=by omega
 subst this
 have e2:(bE w h l q).s.getD a default=BK q (l.getD a default):=by
  simp only [bE,List.getD_eq_getElem?_getD,List.getElem?_map,List.getElem?_eq_getElem ha,Option.map_some,Option.getD_some]
 rw [bJ,if_pos (by omega),bd,e2]
 rfl
theorem mK (w h : Int) (l : List Pixel) (hl : l.length ≤ 4611686018427387904) :
  aD Sg 36 [I w,I h, .c (.p (wc l))] (fun r=>r = .tup [ag (aY (kM w h l)),B (dO w h l.length)]):=by
 refine lv ?_
 refine aC Tryz.func36 [.cell 6 47, .tmp 7] ?_
 repeat' (first|refine ak ?_|((first|refine ai (fun K hK => ?_)|refine ae (jT _ _) ?_);and_intros;all_goals first|(refine hK _ ?_;clear hK K)|try exact aa)|(refine bc (fun hb => ?_) (fun hb => ?_);all_goals try exact aJ)|(refine an ?_;(try clear hB KB);(try clear hK K)))
 ·have hok:dO w h l.length=false:=by
   cases hf:bU w h with
   | false=>rw [dO,hf];rfl
   | true =>
    have hb2:=cS hf
    rw [hf,ef (n:=w * h) (by omega) (by omega)] at hb
    rw [dO,hf,decide_eq_false (by simpa using hb)];rfl
  rw [hok,kM,if_neg (by rw [hok];simp)]
  refine lg ⟨uY ?_,nL trivial,trivial⟩
  simp only [List.map_cons,List.map_nil,lk,pW]
  and_intros
  all_goals first|exact .inl rfl|exact .inl trivial|exact .inr iY|trivial|skip
 refine aS (X:=Nat) (fun x=>aZ [(0, .b (I w)),(1, .b (I h)),(2, .b (.c (.p (wc l)))),(6, .b (.c (.ptr 0 0))),(8, .b (.c (.ptr 1 0))),(9, .b (I x))] (iM w h l.length x l) (2+x)) (fun x=>x≤5) (fun x=>5 - x) 0 ?_ ?_ ?_
 ·omega
 ·simp only [iM,iI,ep]
  refine ay [(1,some 1)] ?_ ?_
  and_intros
  all_goals first|exact ao|skip
  all_goals exact iY
 ·intro x hx
  have hw:IntKind.i64.wrap (w * h)=w * h:=by
   have:=cS hb.1
   exact ef (by omega) (by omega)
  have hb2:=cS hb.1
  rw [hw] at hb
  have hx':x=0∨x=1∨x=2∨x=3∨x=4∨x=5:=by omega
  rcases hx' with rfl|rfl|rfl|rfl|rfl|rfl
  ·simp only [iM,iI,ep]
   repeat' (first|refine ak ?_|(refine ai (fun K hK => ?_);and_intros;all_goals first|(refine hK _ ?_;clear hK K)|try exact aa)|(refine bc (fun hb => ?_) (fun hb => ?_);all_goals try exact aJ))
   rw [ah]
   refine au 1 ?_ (by omega) (by omega)
   refine ay [(1,some 1),(2,some 2)] ?_ ?_
   and_intros
   all_goals first|exact ao|skip
   refine .inr fun a ha j hj => ?_
   have:j=0:=by omega
   subst this
   rw [fL];exact PV.le_refl _
  ·simp only [iM,iI,ep]
   repeat' (first|refine ak ?_|(refine ai (fun K hK => ?_);and_intros;all_goals first|(refine hK _ ?_;clear hK K)|try exact aa)|(refine bc (fun hb => ?_) (fun hb => ?_);all_goals try exact aJ))
   rw [ah]
   refine au 2 ?_ (by omega) (by omega)
   refine ay [(1,some 1),(2,some 2),(3,some 3)] ?_ ?_
   and_intros
   all_goals first|exact ao|skip
   refine .inr fun a ha j hj => ?_
   have:j=0:=by omega
   subst this
   rw [fL];exact PV.le_refl _
  ·simp only [iM,iI,ep]
   repeat' (first|refine ak ?_|(refine ai (fun K hK => ?_);and_intros;all_goals first|(refine hK _ ?_;clear hK K)|try exact aa)|(refine bc (fun hb => ?_) (fun hb => ?_);all_goals try exact aJ))
   rw [ah]
   refine au 3 ?_ (by omega) (by omega)
   refine ay [(1,some 1),(2,some 2),(3,some 3),(4,some 4)] ?_ ?_
   and_intros
   all_goals first|exact ao|skip
   refine .inr fun a ha j hj => ?_
   have:j=0:=by omega
   subst this
   rw [fL];exact PV.le_refl _
  ·simp only [iM,iI,ep]
   repeat' (first|refine ak ?_|(refine ai (fun K hK => ?_);and_intros;all_goals first|(refine hK _ ?_;clear hK K)|try exact aa)|(refine bc (fun hb => ?_) (fun hb => ?_);all_goals try exact aJ))
   rw [ah]
   refine au 4 ?_ (by omega) (by omega)
   refine ay [(1,some 1),(2,some 2),(3,some 3),(4,some 4),(5,some 5)] ?_ ?_
   and_intros
   all_goals first|exact ao|skip
   refine .inr fun a ha j hj => ?_
   have:j=0:=by omega
   subst this
   rw [fL];exact PV.le_refl _
  ·simp only [iM,iI,ep]
   repeat' (first|refine ak ?_|(refine ai (fun K hK => ?_);and_intros;all_goals first|(refine hK _ ?_;clear hK K)|try exact aa)|(refine bc (fun hb => ?_) (fun hb => ?_);all_goals try exact aJ))
   rw [ah]
   refine au 5 ?_ (by omega) (by omega)
   refine ay [(1,some 1),(2,some 2),(3,some 3),(4,some 4),(5,some 5),(6,some 6)] ?_ ?_
   and_intros
   all_goals first|exact ao|skip
   refine .inr fun a ha j hj => ?_
   have:j=0:=by omega
   subst this
   rw [fL];exact PV.le_refl _
  simp only [iM,iI,ep]
  repeat' (first|refine ak ?_|(refine ai (fun K hK => ?_);and_intros;all_goals first|(refine hK _ ?_;clear hK K)|try exact aa)|(refine bc (fun hb => ?_) (fun hb => ?_);all_goals try exact aJ))
  refine aS (X:=Nat) (fun i=>aZ [(0, .b (I w)),(1, .b (I h)),(2, .b (.c (.p (wc l)))),(6, .b (.c (.ptr 0 0))),(8, .b (.c (.ptr 1 0))),(10, .b (I i))] [(0, .fix ((aY pP).map CV.p)),(1, .fix ([.p (PI w), .p (PI h), .p (PB false), .p (PU 0), .p (PU 0), .p (PU 0), .p (PU 0), .p (PU 0), .p (PI w), .p (PI h), .p (PI w), .own 2 l.length, .p (PI w), .p (PI h), .p (PI w), .own 3 l.length, .p (PI w), .p (PI h), .p (PI w), .own 4 l.length, .p (PI w), .p (PI h), .p (PI w), .own 5 l.length, .p (PI w), .p (PI h), .p (PI w), .own 6 l.length])),(2, .arr 27 1 l.length (bJ l 0 i 0)),(3, .arr 27 1 l.length (bJ l 1 i 0)),(4, .arr 27 1 l.length (bJ l 2 i 0)),(5, .arr 27 1 l.length (bJ l 3 i 0)),(6, .arr 27 1 l.length (bJ l 4 i 0))] 7) (fun i=>i≤l.length) (fun i=>l.length - i) 0 ?_ ?_ ?_
  ·omega
  ·refine ay [(1,some 1),(2,some 2),(3,some 3),(4,some 4),(5,some 5),(6,some 6)] ?_ ?_
   and_intros
   all_goals first|exact ao|skip
  ·intro i hi
   repeat' (first|refine ak ?_|(refine ai (fun K hK => ?_);and_intros;all_goals first|(refine hK _ ?_;clear hK K)|try exact aa)|(refine bc (fun hb => ?_) (fun hb => ?_);all_goals try exact aJ)|(refine an ?_;(try clear hB KB);(try clear hK K)))
   ·refine aS (X:=Nat) (fun k=>aZ [(0, .b (I w)),(1, .b (I h)),(2, .b (.c (.p (wc l)))),(6, .b (.c (.ptr 0 0))),(8, .b (.c (.ptr 1 0))),(10, .b (I i)),(11, .b (I k))] [(0, .fix ((aY pP).map CV.p)),(1, .fix ([.p (PI w), .p (PI h), .p (PB false), .p (PU 0), .p (PU 0), .p (PU 0), .p (PU 0), .p (PU 0), .p (PI w), .p (PI h), .p (PI w), .own 2 l.length, .p (PI w), .p (PI h), .p (PI w), .own 3 l.length, .p (PI w), .p (PI h), .p (PI w), .own 4 l.length, .p (PI w), .p (PI h), .p (PI w), .own 5 l.length, .p (PI w), .p (PI h), .p (PI w), .own 6 l.length])),(2, .arr 27 1 l.length (bJ l 0 i k)),(3, .arr 27 1 l.length (bJ l 1 i k)),(4, .arr 27 1 l.length (bJ l 2 i k)),(5, .arr 27 1 l.length (bJ l 3 i k)),(6, .arr 27 1 l.length (bJ l 4 i k))] 7) (fun k=>k≤3) (fun k=>3 - k) 0 ?_ ?_ ?_
    ·omega
    ·refine ay [(1,some 1),(2,some 2),(3,some 3),(4,some 4),(5,some 5),(6,some 6)] ?_ ?_
     and_intros
     all_goals first|exact ao|skip
    ·intro k hk
     have hk':k=0∨k=1∨k=2∨k=3:=by omega
     rcases hk' with rfl|rfl|rfl|rfl
     ·repeat' (first|refine ak ?_|(refine ai (fun K hK => ?_);and_intros;all_goals first|(refine hK _ ?_;clear hK K)|try exact aa)|(refine bc (fun hb => ?_) (fun hb => ?_);all_goals try exact aJ))
      rw [ah]
      refine au 1 ?_ (by omega) (by omega)
      refine ay [(1,some 1),(2,some 2),(3,some 3),(4,some 4),(5,some 5),(6,some 6)] ?_ ?_
      and_intros
      all_goals first|exact ao|skip
      ·refine .inr fun a ha j hj => ?_
       have:j=0:=by omega
       subst this
       rw [← mA]
       simp only [Int.toNat_natCast]
       by_cases h:a=i
       ·rw [if_pos h,if_pos h]
        split
        ·exact PV.le_refl _
        ·rename_i hn
         exact absurd ⟨Nat.le_refl _,by decide +kernel⟩ hn
       ·rw [if_neg h,if_neg h];exact PV.le_refl _
      ·exact .inl (ca (by decide))
      ·exact .inl (ca (by decide))
      ·exact .inl (ca (by decide))
      ·exact .inl (ca (by decide))
     ·repeat' (first|refine ak ?_|(refine ai (fun K hK => ?_);and_intros;all_goals first|(refine hK _ ?_;clear hK K)|try exact aa)|(refine bc (fun hb => ?_) (fun hb => ?_);all_goals try exact aJ))
      rw [ah]
      refine au 2 ?_ (by omega) (by omega)
      refine ay [(1,some 1),(2,some 2),(3,some 3),(4,some 4),(5,some 5),(6,some 6)] ?_ ?_
      and_intros
      all_goals first|exact ao|skip
      ·exact .inl (ca (by decide))
      ·refine .inr fun a ha j hj => ?_
       have:j=0:=by omega
       subst this
       rw [← mA]
       simp only [Int.toNat_natCast]
       by_cases h:a=i
       ·rw [if_pos h,if_pos h]
        split
        ·exact PV.le_refl _
        ·rename_i hn
         exact absurd ⟨Nat.le_refl _,by decide +kernel⟩ hn
       ·rw [if_neg h,if_neg h];exact PV.le_refl _
      ·exact .inl (ca (by decide))
      ·exact .inl (ca (by decide))
      ·exact .inl (ca (by decide))
     ·repeat' (first|refine ak ?_|(refine ai (fun K hK => ?_);and_intros;all_goals first|(refine hK _ ?_;clear hK K)|try exact aa)|(refine bc (fun hb => ?_) (fun hb => ?_);all_goals try exact aJ))
      rw [ah]
      refine au 3 ?_ (by omega) (by omega)
      refine ay [(1,some 1),(2,some 2),(3,some 3),(4,some 4),(5,some 5),(6,some 6)] ?_ ?_
      and_intros
      all_goals first|exact ao|skip
      ·exact .inl (ca (by decide))
      ·exact .inl (ca (by decide))
      ·refine .inr fun a ha j hj => ?_
       have:j=0:=by omega
       subst this
       rw [← mA]
       simp only [Int.toNat_natCast]
       by_cases h:a=i
       ·rw [if_pos h,if_pos h]
        split
        ·exact PV.le_refl _
        ·rename_i hn
         exact absurd ⟨Nat.le_refl _,by decide +kernel⟩ hn
       ·rw [if_neg h,if_neg h];exact PV.le_refl _
      ·exact .inl (ca (by decide))
      ·exact .inl (ca (by decide))
     ·repeat' (first|(((with_reducible refine gK (id:=15) [(87,2),(74,1),(85,3)] (by decide +kernel) (by decide +kernel) ?_ (fun K hK => ?_));(first|(refine And.intro (fun iw hiw => ?_) ?_;(focus ((try simp (maxSteps:=999999)(disch:=omega) only [go_sem] at hiw ⊢);(repeat (refine Eq.trans (if_neg ?_) ?_;(focus omega)));exact hw iw (by omega)));(focus (first|exact Nat.zero_le _|(simp (maxSteps:=999999)(disch:=omega) only [go_sem];done)|(simp (maxSteps:=999999)(disch:=omega) only [go_sem];omega))))|exact eS));(try simp (maxSteps:=999999)(disch:=omega) only [go_sem]);and_intros;(all_goals first|(refine hK _ (by simp (maxSteps:=999999)(disch:=omega) only [go_sem]) ?_;clear hK K)|exact aa|skip))|refine ak ?_|(refine ai (fun K hK => ?_);and_intros;all_goals first|(refine hK _ ?_;clear hK K)|try exact aa)|(refine bc (fun hb => ?_) (fun hb => ?_);all_goals try exact aJ))
      rw [ah]
      refine au (i+1) ?_ (by omega) (by omega)
      refine ay [(1,some 1),(2,some 2),(3,some 3),(4,some 4),(5,some 5),(6,some 6)] ?_ ?_
      and_intros
      all_goals first|exact ao|skip
      ·exact .inl (kS (by decide))
      ·exact .inl (kS (by decide))
      ·exact .inl (kS (by decide))
      ·refine .inr fun a ha j hj => ?_
       have:j=0:=by omega
       subst this
       rw [← pb (by decide)]
       simp only [Int.toNat_natCast]
       by_cases h:a=i
       ·rw [if_pos h,if_pos h];exact PV.le_refl _
       ·rw [if_neg h,if_neg h];exact PV.le_refl _
      ·refine .inr fun a ha j hj => ?_
       have:j=0:=by omega
       subst this
       rw [← pb (by decide)]
       simp only [Int.toNat_natCast]
       by_cases h:a=i
       ·rw [if_pos h,if_pos h];exact PV.le_refl _
       ·rw [if_neg h,if_neg h];exact PV.le_refl _
   ·have hok:dO w h l.length=true:=by
     rw [dO,(by assumption:bU w h=true∧_).1,decide_eq_true (by omega)];rfl
    rw [hok,kM,if_pos hok]
    have hi2:i=l.length:=by omega
    rw [hi2]
    refine lg ⟨uY ?_,nL trivial,trivial⟩
    simp only [List.map_cons,List.map_nil,lk,pW]
    and_intros
    all_goals first|exact .inl rfl|exact .inl trivial|exact .inr iY|trivial|skip
    all_goals exact .inr Dg
end Go.Proofs.YtmfblbbemekkoaaGreatDoor
set_option maxRecDepth 16000
namespace Go.Proofs.YtmfblbbemekkoaaGreatDoor
open Go Go.SL
open Go.RowKit (wrap64)
def jj (r:Row) (m:Int) (i:Nat):Pixel :=
 let k:=if 0<r.l.length then i % r.l.length else i
 qF (if k<r.l.length then r.l.getD k default else ⟨0,0,0,0,0⟩) m
def jr (r:Row) (m:Int) (i:Nat):Pixel :=
 if r.mood % 6=0 then ⟨0,0,0,0,0⟩
 else if r.mood % 6=1 then { jj r m i with a:=m,f:=m }
 else if r.mood % 6=2 then jj r m 0 else jj r m i
def aL (r:Row) (n:Nat) (m:Int):List Pixel:=(List.range n).map (jr r m)
structure RowOk (r:Row):Prop where
 mood:i64 r.mood
 l:∀ i,i<r.l.length→N5ok (r.l.getD i default)
 len:r.l.length≤4611686018427387904
set_option maxHeartbeats 4000000 in
theorem wo (r : Row) (n m : Int) (hr : RowOk r) (hn : 0 ≤ n) (hn2 : n ≤ 1000000) (hm : u16 m) :
  aD Sg 34 [ag (yN r),I n,U m] (fun x=>x = .b (.c (.p (wc (aL r n.toNat m))))):=by
 obtain ⟨⟨a1,a2⟩,hl,hlen⟩:=hr
 refine aC Tryz.func34 [.tmp 6] ?_
 repeat' (first|refine ak ?_|(refine ai (fun K hK => ?_);and_intros;all_goals first|(refine hK _ ?_;clear hK K)|try exact aa))
 refine aS (X:=Nat) (fun i=>aZ [(1, .b (I n)),(2, .b (U m)),(3, .b (.c (.ptr 0 0))),(7, .b (.c (.own 1 i))),(8, .b (I i))]
  [(0, .fix ((yN r).map CV.p)),(1, .arr 41 5 i (bd aH (aL r i m)))] 2) (fun i=>(i:Int)≤n) (fun i=>n.toNat - i) 0 ?_ ?_ ?_
 ·omega
 ·refine ay [(1,none)] ?_ ?_
  and_intros
  all_goals first|exact ao|skip
 ·intro i hi
  have hk:(if (r.l.length:Int)>0 then (i:Int) % r.l.length else i)=((if 0<r.l.length then i % r.l.length else i:Nat):Int):=by
   split <;> split <;> omega
  repeat' (first|refine ak ?_|(refine ai (fun K hK => ?_);and_intros;all_goals first|(refine hK _ ?_;clear hK K)|try exact aa)|(apply eE;(case hf=>rfl);(case hc=>exact eC);(all_goals first|(intro hb;(try simp only [qK] at hb))|skip))|exact bO|(refine bc (fun hb => ?_) (fun hb => ?_);all_goals try exact aJ)|(refine an ?_;(try clear hB KB);(try clear hK K)))
  ·refine pG ?_ ?_ (by simp (maxSteps:=999999)(disch:=omega) only [go_sem]) (qH (if (if 0<r.l.length then i % r.l.length else i)<r.l.length then r.l.getD (if 0<r.l.length then i % r.l.length else i) default else ⟨0,0,0,0,0⟩) m ?_ hm)
   try simp (maxSteps:=999999)(disch:=omega) only [go_sem]
   try (refine hK _ ?_;clear hK K)
   rotate_left
   ·simp only [hk,Int.toNat_natCast,Int.ofNat_lt]
    generalize (if 0<r.l.length then i % r.l.length else i)=k
    split <;> rfl
   ·generalize (if 0<r.l.length then i % r.l.length else i)=k
    split
    ·exact hl _ (by assumption)
    ·exact ⟨⟨by decide,by decide⟩,⟨by decide,by decide⟩,⟨by decide,by decide⟩,⟨by decide,by decide⟩,⟨by decide,by decide⟩⟩
   rw [← jj]
   repeat' (first|refine ak ?_|((first|refine ai (fun K hK => ?_)|refine ae (cl _ _ (by omega) (by omega)) ?_);and_intros;all_goals first|(refine hK _ ?_;clear hK K)|try exact aa)|(apply kn;(case hf=>rfl);(case hc=>exact eC);(all_goals first|(intro hb;(try simp only [qK] at hb))|skip))|exact bO)
   rw [ah]
   refine au (i+1) ?_ (by omega) (by omega)
   refine ay [(1,some 5)] ?_ ?_
   and_intros
   all_goals first|exact ao|skip
   have hlen:(aL r i m).length=i:=by simp [aL]
   have hx:aL r (i+1) m=aL r i m ++ [jr r m i]:=by simp [aL,List.range_succ]
   have key:=fun g hg=>dC (enc:=aH) (xs:=aL r i m) (x:=jr r m i) (s:=5) (g:=g) hg
   simp only [hlen,← hx] at key
   refine .inr (key _ fun j hj => ?_)
   have h5:j=0∨j=1∨j=2∨j=3∨j=4:=by omega
   have hp : jr r m i = if r.mood % 6 = 0 then ⟨0, 0, 0, 0, 0⟩ else if r.mood % 6 = 1 then { jj r m i with a := m, f := m }
     else if r.mood % 6=2 then (if (i:Int)>0 then (aL r i m).getD 0 default else jj r m i) else jj r m i:=by
    by_cases h2:r.mood % 6=2
    ·have h0:¬ r.mood % 6=0:=by omega
     have h1:¬ r.mood % 6=1:=by omega
     by_cases hi0:(i:Int)>0
     ·have:(aL r i m).getD 0 default=jr r m 0:=by
       have hi1:0<i:=by omega
       simp [aL,hi1]
      rw [if_neg h0,if_neg h1,if_pos h2,if_pos hi0,this]
      simp only [jr,if_neg h0,if_neg h1,if_pos h2]
     ·have:i=0:=by omega
      subst this
      rw [if_neg h0,if_neg h1,if_pos h2,if_neg hi0]
      simp only [jr,if_neg h0,if_neg h1,if_pos h2]
    ·simp only [jr,if_neg h2]
   rw [hp]
   by_cases m0:r.mood % 6=0
   ·simp only [if_pos m0];rcases h5 with rfl|rfl|rfl|rfl|rfl <;> rfl
   ·by_cases m1:r.mood % 6=1
    ·simp only [if_neg m0,if_pos m1];rcases h5 with rfl|rfl|rfl|rfl|rfl <;> rfl
    ·by_cases m2:r.mood % 6=2
     ·by_cases hi0:(i:Int)>0
      ·simp only [if_neg m0,if_neg m1,if_pos m2,if_pos hi0];rcases h5 with rfl|rfl|rfl|rfl|rfl <;> rfl
      ·simp only [if_neg m0,if_neg m1,if_pos m2,if_neg hi0];rcases h5 with rfl|rfl|rfl|rfl|rfl <;> rfl
     ·simp only [if_neg m0,if_neg m1,if_neg m2];rcases h5 with rfl|rfl|rfl|rfl|rfl <;> rfl
  ·have:i=n.toNat:=by omega
   subst this
   have hl:(aL r n.toNat m).length=n.toNat:=by simp [aL]
   rw [hl]
end Go.Proofs.YtmfblbbemekkoaaGreatDoor
set_option maxRecDepth 8000
namespace Go.Proofs.YtmfblbbemekkoaaGreatDoor
open Go Go.SL
def iE:Rect:=⟨0,0,0,0⟩
def Fu (r q:Rect):Rect:=if bM r=true∨bM q=true then iE else iX ⟨max r.x0 q.x0,max r.y0 q.y0,min r.x1 q.x1,min r.y1 q.y1⟩
def Nj (o r:Rect):Rect:=if bM r=true then o else if bM o=true then r else ⟨min o.x0 r.x0,min o.y0 r.y0,max o.x1 r.x1,max o.y1 r.y1⟩
def Ou (l:List Rect):Rect:=l.foldl Nj iE
end Go.Proofs.YtmfblbbemekkoaaGreatDoor
set_option maxRecDepth 8000
namespace Go.Proofs.YtmfblbbemekkoaaGreatDoor
open Go Go.SL
def upd {α:Type} (f:Nat→α) (k:Nat) (v:α):Nat→α:=fun j=>if j=k then v else f j
def aO (ops:List Op) (i:Nat):Op:=ops.getD i default
def bR (ops:List Op):Nat→List Nat
 | 0=>[]
 | i+1=>if (aO ops i).kind=2 then i :: bR ops i else if (aO ops i).kind=3 then (bR ops i).tail else bR ops i
structure Wf (ops:List Op):Prop where
 kinds:∀ i,i<ops.length→(aO ops i).kind=1∨(aO ops i).kind=2∨(aO ops i).kind=3
 pops:∀ i,i<ops.length→(aO ops i).kind=3→bR ops i≠[]
 fin:bR ops ops.length=[]
section
variable {ops:List Op}
theorem fi {i:Nat} (h:(aO ops i).kind=2):bR ops (i+1)=i :: bR ops i:=by rw [bR,if_pos h]
theorem nJ {i:Nat} (h:(aO ops i).kind=3):bR ops (i+1)=(bR ops i).tail:=by rw [bR,if_neg (by omega),if_pos h]
theorem fc {i:Nat} (h:(aO ops i).kind=1):bR ops (i+1)=bR ops i:=by rw [bR,if_neg (by omega),if_neg (by omega)]
theorem GE {i p:Nat} (h:p ∈ bR ops (i+1)):p=i∨p ∈ bR ops i:=by
 rw [bR] at h
 split at h
 ·exact List.mem_cons.1 h
 split at h
 ·exact .inr (List.mem_of_mem_tail h)
 ·exact .inr h
theorem rX:∀ {i p:Nat},p ∈ bR ops i→p<i
 | 0,p,h=>by simp [bR] at h
 | i+1,p,h=>by
  rcases GE h with rfl|h
  ·omega
  ·have:=rX h;omega
theorem gX:∀ {i p:Nat},p ∈ bR ops i→(aO ops p).kind=2
 | 0,p,h=>by simp [bR] at h
 | i+1,p,h=>by
  rw [bR] at h
  split at h
  ·rename_i hk
   rcases List.mem_cons.1 h with rfl|h
   ·exact hk
   ·exact gX h
  split at h
  ·exact gX (List.mem_of_mem_tail h)
  ·exact gX h
end
def Ev (o:Int):Bool:=decide (o=3∨o=4∨o=5∨o=9∨o=10∨o=12)
def Hs (v:Int):Bool:=decide (v < -1099511627776∨1099511627776<v)
def vg (s:Script) (i x y:Int):Rect :=
 if i<0∨s.images.length≤i then iE
 else if (Hs x || Hs y || Hs (s.images.getD i.toNat default).w || Hs (s.images.getD i.toNat default).h)=true then iE
 else Fu ⟨x,y,x+(s.images.getD i.toNat default).w,y+(s.images.getD i.toNat default).h⟩ s.canvas
def rY (s:Script) (o:Op):Rect:=if o.kind=1 then vg s o.image o.x o.y else iE
def tp (s:Script) (o:Op):Rect:=if o.mask=0 then Fu s.canvas s.canvas else vg s (o.mask - 1) o.maskX o.maskY
def xr (s:Script) (o:Op) (src:Rect):Rect:=if Ev o.operator=false then s.canvas else if o.opacity=0 then iE else Fu src (tp s o)
def Jp (h:List Rect) (r:Rect):List Rect:=Ou [h.headD iE,r] :: h.tail
def sU (s:Script):Nat→(Nat→Rect) × List Rect
 | 0=>(fun _=>iE,[iE])
 | i+1 =>
  if (aO s.ops i).kind=2 then ((sU s i).1,iE :: (sU s i).2)
  else if (aO s.ops i).kind=1 then
   (upd (sU s i).1 i (xr s (aO s.ops i) (rY s (aO s.ops i))),Jp (sU s i).2 (xr s (aO s.ops i) (rY s (aO s.ops i))))
  else
   (upd (upd (sU s i).1 i (xr s (aO s.ops ((bR s.ops i).headD 0)) ((sU s i).2.headD iE))) ((bR s.ops i).headD 0) (xr s (aO s.ops ((bR s.ops i).headD 0)) ((sU s i).2.headD iE)),
    Jp (sU s i).2.tail (xr s (aO s.ops ((bR s.ops i).headD 0)) ((sU s i).2.headD iE)))
def Ea (s:Script):Nat→Rect:=(sU s s.ops.length).1
section
variable {s:Script}
end
end Go.Proofs.YtmfblbbemekkoaaGreatDoor
set_option maxHeartbeats 4000000
set_option maxRecDepth 16000
namespace Go.Proofs.YtmfblbbemekkoaaGreatDoor
open Go Go.SL
open Go.RowKit (wrap64)
abbrev bN (x:Int):BV := .c (.p (.val (.int .u64 x)))
theorem nX {a:Int} (h0:0≤a) (h1:a<18446744073709551616):yC .u64 a 4294967295=a % 4294967296:=by
 obtain ⟨n,rfl⟩:=Int.eq_ofNat_of_zero_le h0
 have e:(BitVec.ofInt 64 (n:Int)).toNat=n:=by
  rw [BitVec.toNat_ofInt];omega
 show IntKind.u64.wrap (BitVec.ofInt 64 (n:Int) &&& BitVec.ofInt 64 4294967295).toNat=_
 rw [BitVec.toNat_and,e,show (BitVec.ofInt 64 4294967295).toNat=2 ^ 32 - 1 by decide,Nat.and_two_pow_sub_one_eq_mod,ml (by omega) (by omega)]
 omega
theorem ss {a:Int} (h0:0≤a):a.fdiv (2 ^ min 32 64)=a / 4294967296:=by
 rw [Int.fdiv_eq_ediv_of_nonneg _ (by decide)];rfl
theorem Fg {p q r s : Int} (hp : 0 ≤ p) (hp2 : p ≤ 18446744065119617025) (hq : 0 ≤ q) (hq2 : q ≤ 18446744065119617025) (hr : 0 ≤ r) (hr2 : r ≤ 18446744065119617025) (hs : 0 ≤ s) (hs2 : s ≤ 18446744065119617025) (hz : (s * 18446744073709551616 + (q + r) * 4294967296 + p) < 18446744073709551616 * 18446744073709551616) :
  IntKind.u64.wrap (IntKind.u64.wrap (IntKind.u64.wrap s+(IntKind.u64.wrap (IntKind.u64.wrap q+(IntKind.u64.wrap p) / 4294967296)) / 4294967296)+(IntKind.u64.wrap ((IntKind.u64.wrap (IntKind.u64.wrap q+(IntKind.u64.wrap p) / 4294967296)) % 4294967296+IntKind.u64.wrap r)) / 4294967296) =
   (s * 18446744073709551616+(q+r) * 4294967296+p) / 18446744073709551616:=by
 rw [ml hp (by omega),ml hq (by omega),ml hr (by omega),ml hs (by omega),ml (n:=q+p / 4294967296) (by omega) (by omega),ml (n:=(q+p / 4294967296) % 4294967296+r) (by omega) (by omega),
  ml (n:=s+(q+p / 4294967296) / 4294967296) (by omega) (by omega),ml (by omega) (by omega)]
 omega
theorem ri (a b : Int) (ha : 0 ≤ a) (ha2 : a < 18446744073709551616) (hb : 0 ≤ b) (hb2 : b < 18446744073709551616) :
  aD Sg 236 [bN a,bN b] (fun r=>r = .tup [bN (a * b / 18446744073709551616),bN (a * b % 18446744073709551616)]):=by
 refine aC Tryz.func236 [.tmp 4, .tmp 5] ?_
 repeat' (first|(refine ai (fun K hK => ?_);and_intros;all_goals first|(refine hK _ ?_;clear hK K)|try exact aa)|(refine an ?_;(try clear hB KB);(try clear hK K)))
 have hw:∀ n:Int,0≤IntKind.u64.wrap n∧IntKind.u64.wrap n<18446744073709551616:=fun n=>by
  simp only [IntKind.wrap,IntKind.bits,IntKind.signed]
  simp
  omega
 have hlo:IntKind.u64.wrap (a * b)=a * b % 18446744073709551616:=by
  simp only [IntKind.wrap,IntKind.bits,IntKind.signed]
  simp
 have ea:a=a / 4294967296 * 4294967296+a % 4294967296:=by omega
 have eb:b=b / 4294967296 * 4294967296+b % 4294967296:=by omega
 have a1:a / 4294967296≤4294967295:=by omega
 have a0:a % 4294967296≤4294967295:=by omega
 have b1:b / 4294967296≤4294967295:=by omega
 have b0:b % 4294967296≤4294967295:=by omega
 have a1':0≤a / 4294967296:=by omega
 have a0':0≤a % 4294967296:=by omega
 have b1':0≤b / 4294967296:=by omega
 have b0':0≤b % 4294967296:=by omega
 rw [hlo,ss ha,ss hb,nX ha ha2,nX hb hb2,ss (hw _).1,nX (hw _).1 (hw _).2,ss (hw _).1,ss (hw _).1]
 have key:a * b=a / 4294967296 * (b / 4294967296) * 18446744073709551616+(a / 4294967296 * (b % 4294967296)+a % 4294967296 * (b / 4294967296)) * 4294967296+a % 4294967296 * (b % 4294967296):=by
  generalize a / 4294967296=x1 at *
  generalize a % 4294967296=x0 at *
  generalize b / 4294967296=y1 at *
  generalize b % 4294967296=y0 at *
  subst ea;subst eb
  simp only [Int.add_mul,Int.mul_add,Int.mul_assoc]
  have e1:x1 * (4294967296 * (y1 * 4294967296))=x1 * (y1 * 18446744073709551616):=by
   congr 1;omega
  have e2:x1 * (4294967296 * y0)=x1 * (y0 * 4294967296):=by congr 1;omega
  omega
 have hz1:a * b≤18446744073709551615 * 18446744073709551615:=Int.mul_le_mul (by omega) (by omega) hb (by omega)
 have hz:a * b<18446744073709551616 * 18446744073709551616:=by omega
 rw [Fg (Int.mul_nonneg a0' b0') (Int.mul_le_mul a0 b0 b0' (by omega)) (Int.mul_nonneg a1' b0') (Int.mul_le_mul a1 b0 b0' (by omega)) (Int.mul_nonneg a0' b1') (Int.mul_le_mul a0 b1 b1' (by omega)) (Int.mul_nonneg a1' b1') (Int.mul_le_mul a1 b1 b1' (by omega)) (by rw [← key];exact hz),← key]
end Go.Proofs.YtmfblbbemekkoaaGreatDoor
namespace Go.Proofs.YtmfblbbemekkoaaGreatDoor
theorem zL {d q n n0:Int} (hd:0<d) (e:d * q+n=n0) (h0:0≤n) (h1:n≤d) (ho:d % 2=1):bG n0 d=if n≥(d+1) / 2 then q+1 else q:=by
 split
 ·refine oz hd ?_ ?_
  ·rw [Int.mul_add,Int.mul_one];omega
  ·rw [Int.mul_add,Int.mul_one];omega
 ·refine oz hd ?_ ?_
  ·omega
  ·omega
structure IsSqrt (s A:Int):Prop where
 s0:0≤s
 le:s * s≤A
 lt:A<(s+1) * (s+1)
theorem IsSqrt.iff {s A n:Int} (h:IsSqrt s A) (hn:0≤n):n * n≤A↔n≤s:=by
 refine ⟨fun q => ?_,fun q => ?_⟩
 ·refine Int.not_lt.1 fun c => ?_
  have:=iO (a:=s+1) (b:=n) (by have:=h.s0;omega) (by omega)
  have:=h.lt
  omega
 ·exact Int.le_trans (iO hn q) h.le
theorem vR {x:Ex} {s:Int} (h:ExOk x) (hs:IsSqrt s (x.q * x.q * x.r)):cD x=(x.p+s) / x.d:=by
 obtain ⟨h1,h2,h3,h4⟩:=fQ h
 have hd:=h.d0
 have key:∀ n,0≤n→(ox x 1 n=true↔n * x.d≤x.p+s):=fun n hn=>by
  simp only [ox,decide_eq_true_eq,Int.one_mul]
  have hs0:=hs.s0
  rcases Int.le_total (n * x.d) x.p with q|q
  ·exact ⟨fun _=>by omega,fun _ => .inl q⟩
  ·rw [hs.iff (show 0≤n * x.d - x.p by omega)]
   omega
 have e1:=(key _ h3).1 h1
 have e2:¬ (cD x+1) * x.d≤x.p+s:=fun q=>by
  have:=(key _ (show 0≤cD x+1 by omega)).2 q
  rw [h2] at this;cases this
 generalize cD x=f at *
 have a1:f≤(x.p+s) / x.d:=(Int.le_ediv_iff_mul_le (by omega)).2 e1
 have a2:(x.p+s) / x.d<f+1:=(Int.ediv_lt_iff_lt_mul (by omega)).2 (by omega)
 omega
theorem LP {x : Ex} {f k : Int} (hk : (2 * f + 1) * x.d - 2 * x.p = k) :
  (ox x 2 (2 * f+1)=true↔k≤0∨0<k∧(if k % 2=0 then k / 2 * (k / 2)≤x.q * x.q * x.r else k / 2 * (k / 2)+k / 2<x.q * x.q * x.r)):=by
 have e4:2 * x.q * (2 * x.q) * x.r=4 * (x.q * x.q * x.r):=by grind
 simp only [ox,decide_eq_true_eq]
 rw [e4,hk]
 generalize x.q * x.q * x.r=A
 rcases Decidable.em (0<k) with c|c
 ·have hm:=Int.mul_ediv_add_emod k 2
  generalize k / 2=m at *
  have hkk:k * k=4 * (m * m)+4 * (m * (k % 2))+k % 2 * (k % 2):=by
   have:k=2 * m+k % 2:=by omega
   generalize k % 2=o at *
   rw [this];grind
  have ho:k % 2=0∨k % 2=1:=by omega
  rcases ho with o|o
  ·rw [if_pos o]
   rw [o] at hkk
   constructor
   ·rintro (q|q)
    ·omega
    ·exact .inr ⟨c,by omega⟩
   ·rintro (q|q)
    ·omega
    ·exact .inr (by have:=q.2;omega)
  ·rw [if_neg (by omega)]
   rw [o] at hkk
   constructor
   ·rintro (q|q)
    ·omega
    ·exact .inr ⟨c,by omega⟩
   ·rintro (q|q)
    ·omega
    ·exact .inr (by have:=q.2;omega)
 ·exact ⟨fun _ => .inl (by omega),fun _ => .inl (by omega)⟩
theorem Do {A:Int} (h0:0≤A) (h1:A<2 ^ 64 * 2 ^ 64):IsSqrt (uq (fun n=>decide (n * n≤A)) 64 0) A:=by
 have hm:∀ a b:Int,0≤a→a≤b→b * b≤A→a * a≤A:=fun a b ha hab h=>Int.le_trans (iO ha hab) h
 have key:∀ (i:Nat) (n:Int),0≤n→n * n≤A→A<(n+2 ^ i) * (n+2 ^ i)→IsSqrt (uq (fun n=>decide (n * n≤A)) i n) A:=by
  intro i
  induction i with
  | zero=>exact fun n hn a b=>⟨hn,a,by simpa [uq] using b⟩
  | succ i ih =>
   intro n hn a b
   have e:(2:Int) ^ (i+1)=2 ^ i+2 ^ i:=by rw [Int.pow_succ];omega
   have hp:(0:Int)<2 ^ i:=Int.pow_pos (by decide)
   rw [e] at b
   rw [show uq (fun n=>decide (n * n≤A)) (i+1) n=uq (fun n=>decide (n * n≤A)) i (if decide ((n+2 ^ i) * (n+2 ^ i)≤A)=true then n+2 ^ i else n) from rfl]
   split
   ·rename_i h
    rw [decide_eq_true_eq] at h
    exact ih _ (by omega) h (by rw [show n+2 ^ i+2 ^ i=n+(2 ^ i+2 ^ i) by omega];exact b)
   ·rename_i h
    rw [decide_eq_true_eq] at h
    exact ih _ hn a (by omega)
 exact key 64 0 (by omega) (by omega) (by simpa using h1)
end Go.Proofs.YtmfblbbemekkoaaGreatDoor
namespace Go.Proofs.YtmfblbbemekkoaaGreatDoor
structure DigI (u d y1 y0 q r:Int):Prop where
 q0:0≤q
 r0:0≤r
 e:q * y1+r=u
 lt:u * 4294967296+d<(q+1) * (y1 * 4294967296+y0)
structure DigP (u d y1 y0:Int):Prop where
 u0:0≤u
 uy:u<y1 * 4294967296+y0
 d0:0≤d
 d1:d<4294967296
 a0:2147483648≤y1
 a1:y1<4294967296
 b0:0≤y0
 b1:y0<4294967296
section
variable {u d y1 y0 q r:Int}
theorem pN {q:Int}:q * (y1 * 4294967296+y0)=q * y1 * 4294967296+q * y0:=by rw [Int.mul_add,Int.mul_assoc]
theorem tQ (P:DigP u d y1 y0):DigI u d y1 y0 (u / y1) (u - u / y1 * y1):=by
 obtain ⟨u0,uy,d0,d1,a0,a1,b0,b1⟩:=P
 have hq:0≤u / y1:=Int.ediv_nonneg u0 (by omega)
 have h1:=Int.mul_ediv_add_emod u y1
 have h2:=Int.emod_nonneg u (show y1≠0 by omega)
 have h3:=Int.emod_lt_of_pos u (show 0<y1 by omega)
 rw [Int.mul_comm] at h1
 generalize u / y1=q at *
 refine ⟨hq,by omega,by omega, ?_⟩
 rw [pN]
 have h4:0≤(q+1) * y0:=Int.mul_nonneg (by omega) b0
 have h5:(q+1) * y1=q * y1+y1:=by rw [Int.add_mul,Int.one_mul]
 omega
theorem mI (P:DigP u d y1 y0) (I:DigI u d y1 y0 q r) (h:4294967296≤q∨4294967296 * r+d<q * y0):DigI u d y1 y0 (q - 1) (r+y1):=by
 obtain ⟨u0,uy,d0,d1,a0,a1,b0,b1⟩:=P
 obtain ⟨q0,r0,e,lt⟩:=I
 have hq:1≤q:=by
  rcases h with h|h
  ·omega
  ·refine Int.not_lt.1 fun c => ?_
   have:q=0:=by omega
   subst this
   rw [Int.zero_mul] at h
   omega
 have e2:(q - 1) * y1=q * y1 - y1:=by rw [Int.sub_mul,Int.one_mul]
 refine ⟨by omega,by omega,by omega, ?_⟩
 rw [show q - 1+1=q by omega,pN]
 rcases h with h|h
 ·have h1:4294967296 * (y1 * 4294967296+y0)≤q * (y1 * 4294967296+y0):=Int.mul_le_mul_of_nonneg_right h (by omega)
  rw [pN (q:=q)] at h1
  omega
 ·omega
theorem lh (P:DigP u d y1 y0) (I:DigI u d y1 y0 q r) (h:q * y0≤4294967296 * r+d):q=(u * 4294967296+d) / (y1 * 4294967296+y0)∧q<4294967296∧u * 4294967296+d - q * (y1 * 4294967296+y0)=(u * 4294967296+d) % (y1 * 4294967296+y0):=by
 obtain ⟨u0,uy,d0,d1,a0,a1,b0,b1⟩:=P
 obtain ⟨q0,r0,e,lt⟩:=I
 have h1:q * (y1 * 4294967296+y0)≤u * 4294967296+d:=by rw [pN];omega
 have hy:0<y1 * 4294967296+y0:=by omega
 have e1:q=(u * 4294967296+d) / (y1 * 4294967296+y0):=by
  have a:q≤(u * 4294967296+d) / (y1 * 4294967296+y0):=(Int.le_ediv_iff_mul_le hy).2 h1
  have b:(u * 4294967296+d) / (y1 * 4294967296+y0)<q+1:=(Int.ediv_lt_iff_lt_mul hy).2 lt
  omega
 refine ⟨e1, ?_, ?_⟩
 ·refine Int.not_le.1 fun c => ?_
  have h2:4294967296 * (y1 * 4294967296+y0)≤q * (y1 * 4294967296+y0):=Int.mul_le_mul_of_nonneg_right c (by omega)
  omega
 ·have:=Int.mul_ediv_add_emod (u * 4294967296+d) (y1 * 4294967296+y0)
  rw [← e1,Int.mul_comm] at this
  omega
theorem lR (P:DigP u d y1 y0) (I:DigI u d y1 y0 q r) (h:4294967296≤r):q * y0≤4294967296 * r+d:=by
 obtain ⟨u0,uy,d0,d1,a0,a1,b0,b1⟩:=P
 obtain ⟨q0,r0,e,lt⟩:=I
 have hq:q≤4294967296:=by
  refine Int.not_lt.1 fun c => ?_
  have h2:4294967297 * y1≤q * y1:=Int.mul_le_mul_of_nonneg_right c (by omega)
  omega
 have h3:q * y0≤4294967296 * 4294967295:=Int.mul_le_mul hq (by omega) b0 (by omega)
 omega
theorem vD (P:DigP u d y1 y0) (I:DigI u d y1 y0 q r):q≤8589934592:=by
 obtain ⟨u0,uy,d0,d1,a0,a1,b0,b1⟩:=P
 obtain ⟨q0,r0,e,lt⟩:=I
 refine Int.not_lt.1 fun c => ?_
 have h2:q * 2147483648≤q * y1:=Int.mul_le_mul_of_nonneg_left a0 q0
 omega
end
theorem AH {a y k:Int} (hk:0<k) (hy:0<y):a * k / (y * k)=a / y∧a * k % (y * k)=a % y * k:=by
 have h:=Int.mul_ediv_add_emod a y
 have h2:=Int.emod_nonneg a (show y≠0 by omega)
 have h3:=Int.emod_lt_of_pos a hy
 refine ⟨Int.mul_ediv_mul_of_pos_left a y hk, ?_⟩
 rw [Int.mul_comm a,Int.mul_comm y,Int.mul_emod_mul_of_pos _ _ hk,Int.mul_comm]
theorem zn {t a b y q1 q0 r1 : Int} (hy : 0 < y) (h1 : q1 = (t * 4294967296 + a) / y) (hr : r1 = (t * 4294967296 + a) % y) (h0 : q0 = (r1 * 4294967296 + b) / y) (hb : 0 ≤ b ∧ b < 4294967296) :
  q1 * 4294967296+q0=(t * 18446744073709551616+(a * 4294967296+b)) / y∧(r1 * 4294967296+b) % y=(t * 18446744073709551616+(a * 4294967296+b)) % y:=by
 have e1:=Int.mul_ediv_add_emod (t * 4294967296+a) y
 have e2:=Int.mul_ediv_add_emod (r1 * 4294967296+b) y
 have m0:=Int.emod_nonneg (r1 * 4294967296+b) (show y≠0 by omega)
 have m1:=Int.emod_lt_of_pos (r1 * 4294967296+b) hy
 rw [← h1,← hr] at e1
 rw [← h0] at e2
 have e3:t * 18446744073709551616+(a * 4294967296+b)=y * (q1 * 4294967296+q0)+(r1 * 4294967296+b) % y:=by
  have:y * (q1 * 4294967296+q0)=y * q1 * 4294967296+y * q0:=by rw [Int.mul_add,Int.mul_assoc]
  omega
 generalize (r1 * 4294967296+b) % y=m at *
 rw [e3]
 constructor
 ·rw [Int.mul_add_ediv_left _ _ (by omega),Int.ediv_eq_zero_of_lt m0 m1,Int.add_zero]
 ·rw [Int.mul_add_emod_self_left,Int.emod_eq_of_lt m0 m1]
end Go.Proofs.YtmfblbbemekkoaaGreatDoor
