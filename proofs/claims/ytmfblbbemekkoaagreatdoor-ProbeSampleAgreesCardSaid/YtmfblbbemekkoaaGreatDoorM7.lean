/- Part of the proof: F22, F4, F23, F3, D1, D2. -/
import Derived.Test.YtmfblbbemekkoaaGreatDoorM6
set_option linter.unusedSimpArgs false
set_option linter.unusedVariables false
set_option maxHeartbeats 8000000
set_option maxRecDepth 16000
namespace Go.Proofs.YtmfblbbemekkoaaGreatDoor
open Go Go.SL
open Go.RowKit (wrap64)
def Fc (k:Nat) (p:Pixel):Int:=match k with
 | 0=>p.c0
 | 1=>p.c1
 | 2=>p.c2
 | 3=>p.a
 | _=>p.f
def cj (w h:Int) (l:List Pixel) (k:Nat):Plane:=⟨w,h,w,l.map (Fc k)⟩
def iC (w h:Int) (l:List Pixel):Image:=⟨w,h,false,⟨0,0,0,0,0⟩,cj w h l 0,cj w h l 1,cj w h l 2,cj w h l 3,cj w h l 4⟩
def iy:Plane:=⟨0,0,0,[]⟩
def sx:Image:=⟨0,0,false,⟨0,0,0,0,0⟩,iy,iy,iy,iy,iy⟩
def gG (w h:Int) (n:Nat):Bool:=cl w h && decide ((n:Int)=w * h)
def oY (w h:Int) (l:List Pixel):Image:=if gG w h l.length=true then iC w h l else sx
theorem di {w h:Int} (hf:cl w h=true):1≤w∧1≤h∧1≤w * h∧w * h≤16777216∧w≤16777216∧h≤16777216:=by
 simp only [cl,decide_eq_true_eq] at hf
 obtain ⟨h1,h2,h3,h4⟩:=hf
 have h5:w * h≤w * (16777216 / w):=Int.mul_le_mul_of_nonneg_left h4 (by omega)
 have h6:w * (16777216 / w)≤16777216:=Int.mul_ediv_self_le (by omega)
 have h7:1 * 1≤w * h:=Int.mul_le_mul h1 h2 (by omega) (by omega)
 have h8:16777216 / w≤16777216:=Int.ediv_le_self _ (by omega)
 omega
def cr (l:List Pixel) (q i k:Nat):Nat→Nat→PV:=fun a _=>PU (if a<i∨a=i∧q<k then Fc q (l.getD a default) else 0)
def fZ (w h:Int) (x q n:Nat):List CV:=if q<x then [.p (PI w), .p (PI h), .p (PI w), .own (2+q) n] else [.p (PI 0), .p (PI 0), .p (PI 0), .p Cb]
def kg (w h:Int) (n x:Nat):List CV:=[.p (PI w), .p (PI h), .p (PB false), .p (PU 0), .p (PU 0), .p (PU 0), .p (PU 0), .p (PU 0)] ++ fZ w h x 0 n ++ fZ w h x 1 n ++ fZ w h x 2 n ++ fZ w h x 3 n ++ fZ w h x 4 n
def ke (w h:Int) (n x:Nat) (l:List Pixel):List (Nat × Bx):=[(0, .fix ((aN sx).map CV.p)),(1, .fix (kg w h n x))] ++ (if 0<x then [(2, .arr 27 1 n (cr l 0 0 0))] else []) ++ (if 1<x then [(3, .arr 27 1 n (cr l 1 0 0))] else []) ++ (if 2<x then [(4, .arr 27 1 n (cr l 2 0 0))] else []) ++ (if 3<x then [(5, .arr 27 1 n (cr l 3 0 0))] else []) ++ (if 4<x then [(6, .arr 27 1 n (cr l 4 0 0))] else [])
theorem iM {l:List Pixel} {q a j:Nat}:cr l q 0 0 a j=PU 0:=by
 rw [cr,if_neg (by omega)]
theorem cS {l:List Pixel} {q i k:Nat} (h:q≠k):cr l q i k=cr l q i (k+1):=by
 funext a j
 unfold cr
 by_cases c:a<i∨a=i∧q<k
 ·rw [if_pos c,if_pos (by omega)]
 ·rw [if_neg c,if_neg (by omega)]
theorem nO {l:List Pixel} {q i a j:Nat}:(if a=i then PU (Fc q (l.getD i default)) else cr l q i q a j)=cr l q i (q+1) a j:=by
 unfold cr
 by_cases c:a=i
 ·rw [if_pos c,if_pos (by omega),c]
 ·rw [if_neg c]
  by_cases d:a<i
  ·rw [if_pos (by omega),if_pos (by omega)]
  ·rw [if_neg (by omega),if_neg (by omega)]
theorem mF {l:List Pixel} {q i:Nat} (h:q<3):cr l q i 3=cr l q (i+1) 0:=by
 funext a j
 unfold cr
 by_cases c:a<i∨a=i∧q<3
 ·rw [if_pos c,if_pos (by omega)]
 ·rw [if_neg c,if_neg (by omega)]
theorem ry {l:List Pixel} {q i a j:Nat} (h:3≤q):(if a=i then PU (Fc q (l.getD i default)) else cr l q i 3 a j)=cr l q (i+1) 0 a j:=by
 unfold cr
 by_cases c:a=i
 ·rw [if_pos c,if_pos (by omega),c]
 ·rw [if_neg c]
  by_cases d:a<i
  ·rw [if_pos (by omega),if_pos (by omega)]
  ·rw [if_neg (by omega),if_neg (by omega)]
theorem GS {w h:Int} {l:List Pixel} {q:Nat}:PV.le (.lst 1 l.length (cr l q l.length 0)) (.lst 1 (cj w h l q).s.length (bj tG (cj w h l q).s)):=by
 have e:(cj w h l q).s.length=l.length:=by simp [cj]
 rw [e]
 refine lA fun a ha j hj => ?_
 have:j=0:=by omega
 subst this
 have e2:(cj w h l q).s.getD a default=Fc q (l.getD a default):=by
  simp only [cj,List.getD_eq_getElem?_getD,List.getElem?_map,List.getElem?_eq_getElem ha,Option.map_some,Option.getD_some]
 rw [cr,if_pos (by omega),bj,e2]
 rfl
theorem xM (w h : Int) (l : List Pixel) (hl : l.length ≤ 4611686018427387904) :
  aC Sg 36 [I w,I h, .c (.p (Bz l))] (fun r=>r = .tup [ag (aN (oY w h l)),B (gG w h l.length)]):=by
 refine ix ?_
 refine aA Tryz.func36 [.cell 6 47, .tmp 7] ?_
 repeat' (first|refine an ?_|((first|refine ai (fun K hK => ?_)|refine ae (gS _ _) ?_);and_intros;(all_goals first|(refine hK _ ?_;clear hK K)|exact aa|skip))|(refine aW (fun hb => ?_) (fun hb => ?_);all_goals try exact aG)|(refine ak ?_;(try clear hB KB);(try clear hK K)))
 ·have hok:gG w h l.length=false:=by
   cases hf:cl w h with
   | false=>rw [gG,hf];rfl
   | true =>
    have hb2:=di hf
    rw [hf,fq (n:=w * h) (by omega) (by omega)] at hb
    rw [gG,hf,decide_eq_false (by simpa using hb)];rfl
  rw [hok,oY,if_neg (by rw [hok];simp)]
  refine gh ⟨yv ?_,jr trivial,trivial⟩
  simp only [List.map_cons,List.map_nil,ns,tn]
  and_intros
  all_goals first|exact .inl rfl|exact .inl trivial|exact .inr iU|trivial|skip
 refine aO (X:=Nat) (fun x=>aQ [(0, .b (I w)),(1, .b (I h)),(2, .b (.c (.p (Bz l)))),(6, .b (.c (.ptr 0 0))),(8, .b (.c (.ptr 1 0))),(9, .b (I x))] (ke w h l.length x l) (2+x)) (fun x=>x≤5) (fun x=>5 - x) 0 ?_ ?_ ?_
 ·omega
 ·simp only [ke,kg,fZ]
  refine az [(1,some 1)] ?_ ?_
  and_intros
  all_goals first|exact ao|skip
  all_goals exact iU
 ·intro x hx
  have hw:IntKind.i64.wrap (w * h)=w * h:=by
   have:=di hb.1
   exact fq (by omega) (by omega)
  have hb2:=di hb.1
  rw [hw] at hb
  have hx':x=0∨x=1∨x=2∨x=3∨x=4∨x=5:=by omega
  rcases hx' with rfl|rfl|rfl|rfl|rfl|rfl
  ·simp only [ke,kg,fZ]
   repeat' (first|refine an ?_|(refine ai (fun K hK => ?_);and_intros;(all_goals first|(refine hK _ ?_;clear hK K)|exact aa|skip))|(refine aW (fun hb => ?_) (fun hb => ?_);all_goals try exact aG))
   rw [ah]
   refine aw 1 ?_ (by omega) (by omega)
   refine az [(1,some 1),(2,some 2)] ?_ ?_
   and_intros
   all_goals first|exact ao|skip
   refine .inr fun a ha j hj => ?_
   have:j=0:=by omega
   subst this
   rw [iM];exact PV.le_refl _
  ·simp only [ke,kg,fZ]
   repeat' (first|refine an ?_|(refine ai (fun K hK => ?_);and_intros;(all_goals first|(refine hK _ ?_;clear hK K)|exact aa|skip))|(refine aW (fun hb => ?_) (fun hb => ?_);all_goals try exact aG))
   rw [ah]
   refine aw 2 ?_ (by omega) (by omega)
   refine az [(1,some 1),(2,some 2),(3,some 3)] ?_ ?_
   and_intros
   all_goals first|exact ao|skip
   refine .inr fun a ha j hj => ?_
   have:j=0:=by omega
   subst this
   rw [iM];exact PV.le_refl _
  ·simp only [ke,kg,fZ]
   repeat' (first|refine an ?_|(refine ai (fun K hK => ?_);and_intros;(all_goals first|(refine hK _ ?_;clear hK K)|exact aa|skip))|(refine aW (fun hb => ?_) (fun hb => ?_);all_goals try exact aG))
   rw [ah]
   refine aw 3 ?_ (by omega) (by omega)
   refine az [(1,some 1),(2,some 2),(3,some 3),(4,some 4)] ?_ ?_
   and_intros
   all_goals first|exact ao|skip
   refine .inr fun a ha j hj => ?_
   have:j=0:=by omega
   subst this
   rw [iM];exact PV.le_refl _
  ·simp only [ke,kg,fZ]
   repeat' (first|refine an ?_|(refine ai (fun K hK => ?_);and_intros;(all_goals first|(refine hK _ ?_;clear hK K)|exact aa|skip))|(refine aW (fun hb => ?_) (fun hb => ?_);all_goals try exact aG))
   rw [ah]
   refine aw 4 ?_ (by omega) (by omega)
   refine az [(1,some 1),(2,some 2),(3,some 3),(4,some 4),(5,some 5)] ?_ ?_
   and_intros
   all_goals first|exact ao|skip
   refine .inr fun a ha j hj => ?_
   have:j=0:=by omega
   subst this
   rw [iM];exact PV.le_refl _
  ·simp only [ke,kg,fZ]
   repeat' (first|refine an ?_|(refine ai (fun K hK => ?_);and_intros;(all_goals first|(refine hK _ ?_;clear hK K)|exact aa|skip))|(refine aW (fun hb => ?_) (fun hb => ?_);all_goals try exact aG))
   rw [ah]
   refine aw 5 ?_ (by omega) (by omega)
   refine az [(1,some 1),(2,some 2),(3,some 3),(4,some 4),(5,some 5),(6,some 6)] ?_ ?_
   and_intros
   all_goals first|exact ao|skip
   refine .inr fun a ha j hj => ?_
   have:j=0:=by omega
   subst this
   rw [iM];exact PV.le_refl _
  simp only [ke,kg,fZ]
  repeat' (first|refine an ?_|(refine ai (fun K hK => ?_);and_intros;(all_goals first|(refine hK _ ?_;clear hK K)|exact aa|skip))|(refine aW (fun hb => ?_) (fun hb => ?_);all_goals try exact aG))
  refine aO (X:=Nat) (fun i=>aQ [(0, .b (I w)),(1, .b (I h)),(2, .b (.c (.p (Bz l)))),(6, .b (.c (.ptr 0 0))),(8, .b (.c (.ptr 1 0))),(10, .b (I i))] [(0, .fix ((aN sx).map CV.p)),(1, .fix ([.p (PI w), .p (PI h), .p (PB false), .p (PU 0), .p (PU 0), .p (PU 0), .p (PU 0), .p (PU 0), .p (PI w), .p (PI h), .p (PI w), .own 2 l.length, .p (PI w), .p (PI h), .p (PI w), .own 3 l.length, .p (PI w), .p (PI h), .p (PI w), .own 4 l.length, .p (PI w), .p (PI h), .p (PI w), .own 5 l.length, .p (PI w), .p (PI h), .p (PI w), .own 6 l.length])),(2, .arr 27 1 l.length (cr l 0 i 0)),(3, .arr 27 1 l.length (cr l 1 i 0)),(4, .arr 27 1 l.length (cr l 2 i 0)),(5, .arr 27 1 l.length (cr l 3 i 0)),(6, .arr 27 1 l.length (cr l 4 i 0))] 7) (fun i=>i≤l.length) (fun i=>l.length - i) 0 ?_ ?_ ?_
  ·omega
  ·refine az [(1,some 1),(2,some 2),(3,some 3),(4,some 4),(5,some 5),(6,some 6)] ?_ ?_
   and_intros
   all_goals first|exact ao|skip
  ·intro i hi
   repeat' (first|refine an ?_|(refine ai (fun K hK => ?_);and_intros;(all_goals first|(refine hK _ ?_;clear hK K)|exact aa|skip))|(refine aW (fun hb => ?_) (fun hb => ?_);all_goals try exact aG)|(refine ak ?_;(try clear hB KB);(try clear hK K)))
   ·refine aO (X:=Nat) (fun k=>aQ [(0, .b (I w)),(1, .b (I h)),(2, .b (.c (.p (Bz l)))),(6, .b (.c (.ptr 0 0))),(8, .b (.c (.ptr 1 0))),(10, .b (I i)),(11, .b (I k))] [(0, .fix ((aN sx).map CV.p)),(1, .fix ([.p (PI w), .p (PI h), .p (PB false), .p (PU 0), .p (PU 0), .p (PU 0), .p (PU 0), .p (PU 0), .p (PI w), .p (PI h), .p (PI w), .own 2 l.length, .p (PI w), .p (PI h), .p (PI w), .own 3 l.length, .p (PI w), .p (PI h), .p (PI w), .own 4 l.length, .p (PI w), .p (PI h), .p (PI w), .own 5 l.length, .p (PI w), .p (PI h), .p (PI w), .own 6 l.length])),(2, .arr 27 1 l.length (cr l 0 i k)),(3, .arr 27 1 l.length (cr l 1 i k)),(4, .arr 27 1 l.length (cr l 2 i k)),(5, .arr 27 1 l.length (cr l 3 i k)),(6, .arr 27 1 l.length (cr l 4 i k))] 7) (fun k=>k≤3) (fun k=>3 - k) 0 ?_ ?_ ?_
    ·omega
    ·refine az [(1,some 1),(2,some 2),(3,some 3),(4,some 4),(5,some 5),(6,some 6)] ?_ ?_
     and_intros
     all_goals first|exact ao|skip
    ·intro k hk
     have hk':k=0∨k=1∨k=2∨k=3:=by omega
     rcases hk' with rfl|rfl|rfl|rfl
     ·repeat' (first|refine an ?_|(refine ai (fun K hK => ?_);and_intros;(all_goals first|(refine hK _ ?_;clear hK K)|exact aa|skip))|(refine aW (fun hb => ?_) (fun hb => ?_);all_goals try exact aG))
      rw [ah]
      refine aw 1 ?_ (by omega) (by omega)
      refine az [(1,some 1),(2,some 2),(3,some 3),(4,some 4),(5,some 5),(6,some 6)] ?_ ?_
      and_intros
      all_goals first|exact ao|skip
      ·refine .inr fun a ha j hj => ?_
       have:j=0:=by omega
       subst this
       rw [← nO]
       simp only [Int.toNat_natCast]
       by_cases h:a=i
       ·rw [if_pos h,if_pos h]
        split
        ·exact PV.le_refl _
        ·rename_i hn
         exact absurd ⟨Nat.le_refl _,by decide +kernel⟩ hn
       ·rw [if_neg h,if_neg h];exact PV.le_refl _
      ·exact .inl (cS (by decide))
      ·exact .inl (cS (by decide))
      ·exact .inl (cS (by decide))
      ·exact .inl (cS (by decide))
     ·repeat' (first|refine an ?_|(refine ai (fun K hK => ?_);and_intros;(all_goals first|(refine hK _ ?_;clear hK K)|exact aa|skip))|(refine aW (fun hb => ?_) (fun hb => ?_);all_goals try exact aG))
      rw [ah]
      refine aw 2 ?_ (by omega) (by omega)
      refine az [(1,some 1),(2,some 2),(3,some 3),(4,some 4),(5,some 5),(6,some 6)] ?_ ?_
      and_intros
      all_goals first|exact ao|skip
      ·exact .inl (cS (by decide))
      ·refine .inr fun a ha j hj => ?_
       have:j=0:=by omega
       subst this
       rw [← nO]
       simp only [Int.toNat_natCast]
       by_cases h:a=i
       ·rw [if_pos h,if_pos h]
        split
        ·exact PV.le_refl _
        ·rename_i hn
         exact absurd ⟨Nat.le_refl _,by decide +kernel⟩ hn
       ·rw [if_neg h,if_neg h];exact PV.le_refl _
      ·exact .inl (cS (by decide))
      ·exact .inl (cS (by decide))
      ·exact .inl (cS (by decide))
     ·repeat' (first|refine an ?_|(refine ai (fun K hK => ?_);and_intros;(all_goals first|(refine hK _ ?_;clear hK K)|exact aa|skip))|(refine aW (fun hb => ?_) (fun hb => ?_);all_goals try exact aG))
      rw [ah]
      refine aw 3 ?_ (by omega) (by omega)
      refine az [(1,some 1),(2,some 2),(3,some 3),(4,some 4),(5,some 5),(6,some 6)] ?_ ?_
      and_intros
      all_goals first|exact ao|skip
      ·exact .inl (cS (by decide))
      ·exact .inl (cS (by decide))
      ·refine .inr fun a ha j hj => ?_
       have:j=0:=by omega
       subst this
       rw [← nO]
       simp only [Int.toNat_natCast]
       by_cases h:a=i
       ·rw [if_pos h,if_pos h]
        split
        ·exact PV.le_refl _
        ·rename_i hn
         exact absurd ⟨Nat.le_refl _,by decide +kernel⟩ hn
       ·rw [if_neg h,if_neg h];exact PV.le_refl _
      ·exact .inl (cS (by decide))
      ·exact .inl (cS (by decide))
     ·repeat' (first|(((with_reducible refine gz (id:=15) [(87,2),(74,1),(85,3)] (by decide +kernel) (by decide +kernel) ?_ (fun K hK => ?_));(first|(refine And.intro (fun iw hiw => ?_) ?_;(focus ((try simp (maxSteps:=999999)(disch:=omega) only [go_sem] at hiw ⊢);(repeat (refine Eq.trans (if_neg ?_) ?_;(focus omega)));exact hw iw (by omega)));(focus (first|exact Nat.zero_le _|(simp (maxSteps:=999999)(disch:=omega) only [go_sem];done)|(simp (maxSteps:=999999)(disch:=omega) only [go_sem];omega))))|exact cR));(try simp (maxSteps:=999999)(disch:=omega) only [go_sem]);and_intros;(all_goals first|(refine hK _ (by simp (maxSteps:=999999)(disch:=omega) only [go_sem]) ?_;clear hK K)|exact aa|skip))|refine an ?_|(refine ai (fun K hK => ?_);and_intros;(all_goals first|(refine hK _ ?_;clear hK K)|exact aa|skip))|(refine aW (fun hb => ?_) (fun hb => ?_);all_goals try exact aG))
      rw [ah]
      refine aw (i+1) ?_ (by omega) (by omega)
      refine az [(1,some 1),(2,some 2),(3,some 3),(4,some 4),(5,some 5),(6,some 6)] ?_ ?_
      and_intros
      all_goals first|exact ao|skip
      ·exact .inl (mF (by decide))
      ·exact .inl (mF (by decide))
      ·exact .inl (mF (by decide))
      ·refine .inr fun a ha j hj => ?_
       have:j=0:=by omega
       subst this
       rw [← ry (by decide)]
       simp only [Int.toNat_natCast]
       by_cases h:a=i
       ·rw [if_pos h,if_pos h];exact PV.le_refl _
       ·rw [if_neg h,if_neg h];exact PV.le_refl _
      ·refine .inr fun a ha j hj => ?_
       have:j=0:=by omega
       subst this
       rw [← ry (by decide)]
       simp only [Int.toNat_natCast]
       by_cases h:a=i
       ·rw [if_pos h,if_pos h];exact PV.le_refl _
       ·rw [if_neg h,if_neg h];exact PV.le_refl _
   ·have hok:gG w h l.length=true:=by
     rw [gG,(by assumption:cl w h=true∧_).1,decide_eq_true (by omega)];rfl
    rw [hok,oY,if_pos hok]
    have hi2:i=l.length:=by omega
    rw [hi2]
    refine gh ⟨yv ?_,jr trivial,trivial⟩
    simp only [List.map_cons,List.map_nil,ns,tn]
    and_intros
    all_goals first|exact .inl rfl|exact .inl trivial|exact .inr iU|trivial|skip
    all_goals exact .inr GS
end Go.Proofs.YtmfblbbemekkoaaGreatDoor
set_option maxRecDepth 16000
namespace Go.Proofs.YtmfblbbemekkoaaGreatDoor
open Go Go.SL
open Go.RowKit (wrap64)
def oG (r:Row) (m:Int) (i:Nat):Pixel :=
 let k:=if 0<r.l.length then i % r.l.length else i
 tw (if k<r.l.length then r.l.getD k default else ⟨0,0,0,0,0⟩) m
def qt (r:Row) (m:Int) (i:Nat):Pixel :=
 if r.mood % 6=0 then ⟨0,0,0,0,0⟩
 else if r.mood % 6=1 then { oG r m i with a:=m,f:=m }
 else if r.mood % 6=2 then oG r m 0 else oG r m i
def cE (r:Row) (n:Nat) (m:Int):List Pixel:=(List.range n).map (qt r m)
structure RowOk (r:Row):Prop where
 mood:i64 r.mood
 l:∀ i,i<r.l.length→N5ok (r.l.getD i default)
 len:r.l.length≤4611686018427387904
set_option maxHeartbeats 4000000 in
theorem yJ (r : Row) (n m : Int) (hr : RowOk r) (hn : 0 ≤ n) (hn2 : n ≤ 1000000) (hm : u16 m) :
  aC Sg 34 [ag (JT r),I n,U m] (fun x=>x = .b (.c (.p (Bz (cE r n.toNat m))))):=by
 obtain ⟨⟨a1,a2⟩,hl,hlen⟩:=hr
 refine aA Tryz.func34 [.tmp 6] ?_
 repeat' (first|refine an ?_|(refine ai (fun K hK => ?_);and_intros;(all_goals first|(refine hK _ ?_;clear hK K)|exact aa|skip)))
 refine aO (X:=Nat) (fun i=>aQ [(1, .b (I n)),(2, .b (U m)),(3, .b (.c (.ptr 0 0))),(7, .b (.c (.own 1 i))),(8, .b (I i))]
  [(0, .fix ((JT r).map CV.p)),(1, .arr 41 5 i (bj aF (cE r i m)))] 2) (fun i=>(i:Int)≤n) (fun i=>n.toNat - i) 0 ?_ ?_ ?_
 ·omega
 ·refine az [(1,none)] ?_ ?_
  and_intros
  all_goals first|exact ao|skip
 ·intro i hi
  have hk:(if (r.l.length:Int)>0 then (i:Int) % r.l.length else i)=((if 0<r.l.length then i % r.l.length else i:Nat):Int):=by
   split <;> split <;> omega
  repeat' (first|refine an ?_|(refine ai (fun K hK => ?_);and_intros;(all_goals first|(refine hK _ ?_;clear hK K)|exact aa|skip))|(apply fo;(case hf=>rfl);(case hc=>exact eH);(all_goals first|(intro hb;(try simp only [ov] at hb))|skip))|exact bB|(refine aW (fun hb => ?_) (fun hb => ?_);all_goals try exact aG)|(refine ak ?_;(try clear hB KB);(try clear hK K)))
  ·refine rZ ?_ ?_ (by simp (maxSteps:=999999)(disch:=omega) only [go_sem]) (BB (if (if 0<r.l.length then i % r.l.length else i)<r.l.length then r.l.getD (if 0<r.l.length then i % r.l.length else i) default else ⟨0,0,0,0,0⟩) m ?_ hm)
   try simp (maxSteps:=999999)(disch:=omega) only [go_sem]
   try (refine hK _ ?_;clear hK K)
   rotate_left
   ·simp only [hk,Int.toNat_natCast,Int.ofNat_lt]
    generalize (if 0<r.l.length then i % r.l.length else i)=k
    split <;> rfl
   ·generalize (if 0<r.l.length then i % r.l.length else i)=k
    split
    ·exact hl _ (by assumption)
    ·exact ⟨⟨by decide,by decide⟩,⟨by decide,by decide⟩,⟨by decide,by decide⟩,⟨by decide,by decide⟩,⟨by decide,by decide⟩⟩
   rw [← oG]
   repeat' (first|refine an ?_|((first|refine ai (fun K hK => ?_)|refine ae (bN _ _ (by omega) (by omega)) ?_);and_intros;(all_goals first|(refine hK _ ?_;clear hK K)|exact aa|skip))|(apply gK;(case hf=>rfl);(case hc=>exact eH);(all_goals first|(intro hb;(try simp only [ov] at hb))|skip))|exact bB)
   rw [ah]
   refine aw (i+1) ?_ (by omega) (by omega)
   refine az [(1,some 5)] ?_ ?_
   and_intros
   all_goals first|exact ao|skip
   have hlen:(cE r i m).length=i:=by simp [cE]
   have hx:cE r (i+1) m=cE r i m ++ [qt r m i]:=by simp [cE,List.range_succ]
   have key:=fun g hg=>dz (enc:=aF) (xs:=cE r i m) (x:=qt r m i) (s:=5) (g:=g) hg
   simp only [hlen,← hx] at key
   refine .inr (key _ fun j hj => ?_)
   have h5:j=0∨j=1∨j=2∨j=3∨j=4:=by omega
   have hp : qt r m i = if r.mood % 6 = 0 then ⟨0, 0, 0, 0, 0⟩ else if r.mood % 6 = 1 then { oG r m i with a := m, f := m }
     else if r.mood % 6=2 then (if (i:Int)>0 then (cE r i m).getD 0 default else oG r m i) else oG r m i:=by
    by_cases h2:r.mood % 6=2
    ·have h0:¬ r.mood % 6=0:=by omega
     have h1:¬ r.mood % 6=1:=by omega
     by_cases hi0:(i:Int)>0
     ·have:(cE r i m).getD 0 default=qt r m 0:=by
       have hi1:0<i:=by omega
       simp [cE,hi1]
      rw [if_neg h0,if_neg h1,if_pos h2,if_pos hi0,this]
      simp only [qt,if_neg h0,if_neg h1,if_pos h2]
     ·have:i=0:=by omega
      subst this
      rw [if_neg h0,if_neg h1,if_pos h2,if_neg hi0]
      simp only [qt,if_neg h0,if_neg h1,if_pos h2]
    ·simp only [qt,if_neg h2]
   rw [hp]
   by_cases m0:r.mood % 6=0
   ·simp only [if_pos m0];rcases h5 with rfl|rfl|rfl|rfl|rfl <;> rfl
   ·by_cases m1:r.mood % 6=1
    ·simp only [if_neg m0,if_pos m1];rcases h5 with rfl|rfl|rfl|rfl|rfl <;> rfl
    ·by_cases m2:r.mood % 6=2
     ·by_cases hi0:(i:Int)>0
      ·simp only [if_neg m0,if_neg m1,if_pos m2,if_pos hi0];rcases h5 with rfl|rfl|rfl|rfl|rfl <;> rfl
      ·simp only [if_neg m0,if_neg m1,if_pos m2,if_neg hi0];rcases h5 with rfl|rfl|rfl|rfl|rfl <;> rfl
     ·simp only [if_neg m0,if_neg m1,if_neg m2];rcases h5 with rfl|rfl|rfl|rfl|rfl <;> rfl
  ·have:i=n.toNat:=by omega
   subst this
   have hl:(cE r n.toNat m).length=n.toNat:=by simp [cE]
   rw [hl]
end Go.Proofs.YtmfblbbemekkoaaGreatDoor
set_option maxHeartbeats 8000000
set_option maxRecDepth 16000
namespace Go.Proofs.YtmfblbbemekkoaaGreatDoor
open Go Go.SL
open Go.RowKit (wrap64)
def gW (p:Pic) (c:Rect):Int:=if p.w.tdiv 5 % 3=0 then c.x1 - c.x0 else 1+p.w % 5
def gH (p:Pic) (c:Rect):Int:=if p.w.tdiv 5 % 3=0 then c.y1 - c.y0 else 1+p.h % 4
def jf (w h:Int) (p:Pixel):Image:=⟨w,h,true,p,iy,iy,iy,iy,iy⟩
def iv (p:Pic) (c:Rect) (m:Int):Image :=
 if p.solid % 2=0 then jf (gW p c) (gH p c) (qt p.row m 0) else iC (gW p c) (gH p c) (cE p.row (gW p c * gH p c).toNat m)
structure PicOk (p:Pic):Prop where
 w:i64 p.w
 h:i64 p.h
 solid:i64 p.solid
 row:RowOk p.row
structure Small (c:Rect):Prop where
 x0 : -10≤c.x0
 x1:c.x1≤20
 y0 : -10≤c.y0
 y1:c.y1≤20
 w:1≤c.x1 - c.x0∧c.x1 - c.x0≤5
 h:1≤c.y1 - c.y0∧c.y1 - c.y0≤4
theorem Gd {p:Pic} {c:Rect} (hc:Small c):1≤gW p c∧gW p c≤5∧1≤gH p c∧gH p c≤4∧1≤gW p c * gH p c∧gW p c * gH p c≤20:=by
 have hw:=hc.w
 have hh:=hc.h
 have h1:1≤gW p c∧gW p c≤5∧1≤gH p c∧gH p c≤4:=by
  unfold gW gH;split <;> omega
 have h2:gW p c * gH p c≤5 * 4:=Int.mul_le_mul h1.2.1 h1.2.2.2 (by omega) (by omega)
 have h3:1 * 1≤gW p c * gH p c:=Int.mul_le_mul h1.1 h1.2.2.1 (by omega) (by omega)
 omega
theorem qR {w h:Int} {n:Nat} (hw:1≤w∧w≤5) (hh:1≤h∧h≤4) (hn:n=(w * h).toNat):gG w h n=true:=by
 have hp:0≤w * h:=Int.mul_nonneg (by omega) (by omega)
 have hf:cl w h=true:=by
  rw [cl,decide_eq_true_eq]
  have:w=1∨w=2∨w=3∨w=4∨w=5:=by omega
  rcases this with rfl|rfl|rfl|rfl|rfl <;> omega
 rw [gG,hf,decide_eq_true (by omega)];rfl
theorem uU (p:Pic) (c:Rect) (m:Int) (hp:PicOk p) (hc:Small c) (hm:u16 m):aC Sg 53 [ag (FS p),ag (fg c),U m] (fun r=>r = .b (ag (aN (iv p c m)))):=by
 obtain ⟨⟨a1,a2⟩,⟨b1,b2⟩,⟨c1,c2⟩,hr⟩:=hp
 have hl:=Gd (p:=p) hc
 obtain ⟨x0,x1,y0,y1,hw,hh⟩:=hc
 have hd:=uJ (p.w.tdiv 5)
 rw [CO a1 a2 (by omega)] at hd
 refine aA Tryz.func53 [.cell 6 47] ?_
 repeat' (first|refine an ?_|((with_reducible refine aT (id:=4) (fun K hW => ?_));(try simp (maxSteps:=999999)(disch:=omega) only [go_sem]);and_intros;(all_goals first|(refine hK _ ?_;clear hK K)|exact aa|skip))|((first|refine ai (fun K hK => ?_)|refine ae (bN _ _ (by omega) (by omega)) ?_);and_intros;(all_goals first|(refine hK _ ?_;clear hK K)|exact aa|skip))|(apply fo;(case hf=>rfl);(case hc=>exact eH);(all_goals first|(intro hb;(try simp only [ov] at hb))|skip))|exact bB)
 have hlen:(cE p.row (gW p c * gH p c).toNat m).length=(gW p c * gH p c).toNat:=by simp [cE]
 refine rZ ?_ ?_ (by simp (maxSteps:=999999)(disch:=omega) only [go_sem]) (yJ p.row (gW p c * gH p c) m hr (by omega) (by omega) hm)
 try simp (maxSteps:=999999)(disch:=omega) only [go_sem]
 try (refine hK _ ?_;clear hK K)
 ·refine hW _ (aQ [(2, .b (U m)),(3, .b (.c (.ptr 0 0))),(4, .b (.c (.ptr 1 0))),(6, .b (.c (.ptr 2 0))),(7, .b (I (gW p c))),(8, .b (I (gH p c))),(9, .b (.c (.p (Bz (cE p.row (gW p c * gH p c).toNat m)))))]
   [(0, .fix ((FS p).map CV.p)),(1, .fix ((fg c).map CV.p)),(2, .fix ((List.range 28).map fun _=>CV.p .any))] 3) ?_ ?_
  ·clear hW
   refine az [(1,some 1),(2,some 2)] ?_ ?_
   and_intros
   all_goals first|exact ao|skip
  ·clear hW
   have hpl:0<(cE p.row (gW p c * gH p c).toNat m).length:=by omega
   repeat' (first|refine an ?_|((first|refine ai (fun K hK => ?_)|refine ae (bN _ _ (by omega) (by omega)) ?_|refine ae (ob _ _ _) ?_|refine ae (xM _ _ _ (by omega)) ?_);and_intros;(all_goals first|(refine hK _ ?_;clear hK K)|exact aa|skip))|(refine aW (fun hb => ?_) (fun hb => ?_);all_goals try exact aG)|(refine ak ?_;(try clear hB KB);(try clear hK K)))
   ·have e2:iv p c m=jf (gW p c) (gH p c) (qt p.row m 0):=by rw [iv,if_pos hb]
    have e:(cE p.row (gW p c * gH p c).toNat m).getD 0 default=qt p.row m 0:=by
     have:0<(gW p c * gH p c).toNat:=by omega
     simp [cE,this]
    rw [e2,e];rfl
   ·have e2:iv p c m=iC (gW p c) (gH p c) (cE p.row (gW p c * gH p c).toNat m):=by rw [iv,if_neg hb]
    rw [e2,oY,if_pos (qR (by omega) (by omega) hlen)];rfl
 ·have e:IntKind.i64.wrap (gW p c * gH p c)=gW p c * gH p c:=fq (by omega) (by omega)
  show [_,I (IntKind.i64.wrap (gW p c * gH p c)),_]=_
  rw [e];rfl
end Go.Proofs.YtmfblbbemekkoaaGreatDoor
set_option maxRecDepth 16000
namespace Go.Proofs.YtmfblbbemekkoaaGreatDoor
open Go Go.SL
open Go.RowKit (wrap64)
def kz (r:Raw) (push:Bool) (images:Int) (cx cy:Int) (free:Bool) (m:Int):Op :=
 { kind:=if push then 2 else 1,image:=if push then 0 else r.image % images,x:=if push then 0 else iz r.x cx,y:=if push then 0 else iz r.y cy,mask:=if r.mask % 4=0 then 1+r.mask.tdiv 4 % images else 0,maskX:=if r.mask % 4=0 then iz r.maskX cx else 0,maskY:=if r.mask % 4=0 then iz r.maskY cy else 0,opacity:=if r.opacity % 2=0 then cL (r.opacity.tdiv 2) m else m,operator:=if free=true∧r.operator % 2=0 then 1+r.operator.tdiv 2 % 12 else 4,mode:=if r.mode % 2=0 then 1+r.mode.tdiv 2 % 12 else 1,isolated:=push && (r.flags % 2 == 0),knockout:=push && (r.flags.tdiv 2 % 3 == 0) }
structure RawOk (r:Raw):Prop where
 kind:i64 r.kind
 image:i64 r.image
 x:i64 r.x
 y:i64 r.y
 mask:i64 r.mask
 maskX:i64 r.maskX
 maskY:i64 r.maskY
 opacity:i64 r.opacity
 operator:i64 r.operator
 mode:i64 r.mode
 flags:i64 r.flags
theorem dq (n c:Int):c - 4≤iz n c∧iz n c≤c+4:=by
 unfold iz;split <;> omega
set_option maxHeartbeats 4000000 in
theorem xT (r : Raw) (push : Bool) (images : Int) (c : Rect) (free : Bool) (m : Int) (hr : RawOk r) (hi1 : 1 ≤ images) (hi2 : images ≤ 1000000) (hc1 : -2000000000 ≤ c.x0) (hc2 : c.x0 ≤ 2000000000) (hc3 : -2000000000 ≤ c.y0) (hc4 : c.y0 ≤ 2000000000) (hm : u16 m) :
  aC Sg 18 [ag (za r),B push,I images,ag (fg c),B free,U m] (fun x=>x = .b (ag (cT (kz r push images c.x0 c.y0 free m)))):=by
 obtain ⟨⟨a1,a2⟩,⟨b1,b2⟩,⟨c1,c2⟩,⟨d1,d2⟩,⟨e1,e2⟩,⟨f1,f2⟩,⟨g1,g2⟩,⟨h1,h2⟩,⟨i1,i2⟩,⟨j1,j2⟩,⟨k1,k2⟩⟩:=hr
 have q1:=dq r.x c.x0
 have q2:=dq r.y c.y0
 have q3:=dq r.maskX c.x0
 have q4:=dq r.maskY c.y0
 have q5:=eS (r.opacity.tdiv 2) m hm.1
 have q6:=Int.emod_nonneg (r.mask.tdiv 4) (show images≠0 by omega)
 have q7:=Int.emod_lt_of_pos (r.mask.tdiv 4) (show 0<images by omega)
 have w1:=uJ (r.opacity.tdiv 2)
 rw [CO h1 h2 (by omega)] at w1
 obtain ⟨hm1,hm2⟩:=hm
 refine aA Tryz.func18 [.cell 12 29] ?_
 repeat' (first|refine an ?_|((first|refine ai (fun K hK => ?_)|refine ae (bN _ _ (by omega) (by omega)) ?_|refine aD (fun hg=>bN _ _ (by omega) (by omega)) ?_|refine ae (rz _ _ ⟨by omega,by omega⟩ ⟨by omega,by omega⟩) ?_|refine ae (zl _ _ ⟨by omega,by omega⟩ (by omega) (by omega)) ?_);and_intros;(all_goals first|(refine hK _ ?_;clear hK K)|exact aa|skip))|(apply fo;(case hf=>rfl);(case hc=>exact eH);(all_goals first|(intro hb;(try simp only [ov] at hb))|skip))|exact bB|(refine ak ?_;(try clear hB KB);(try clear hK K)))
 cases push <;> cases free <;> simp [kz]
end Go.Proofs.YtmfblbbemekkoaaGreatDoor
set_option maxRecDepth 8000
namespace Go.Proofs.YtmfblbbemekkoaaGreatDoor
open Go Go.SL
def ka:Rect:=⟨0,0,0,0⟩
def Ij (r q:Rect):Rect:=if bZ r=true∨bZ q=true then ka else gq ⟨max r.x0 q.x0,max r.y0 q.y0,min r.x1 q.x1,min r.y1 q.y1⟩
def Ri (o r:Rect):Rect:=if bZ r=true then o else if bZ o=true then r else ⟨min o.x0 r.x0,min o.y0 r.y0,max o.x1 r.x1,max o.y1 r.y1⟩
def Qk (l:List Rect):Rect:=l.foldl Ri ka
end Go.Proofs.YtmfblbbemekkoaaGreatDoor
set_option maxRecDepth 8000
namespace Go.Proofs.YtmfblbbemekkoaaGreatDoor
open Go Go.SL
def upd {α:Type} (f:Nat→α) (k:Nat) (v:α):Nat→α:=fun j=>if j=k then v else f j
def aR (ops:List Op) (i:Nat):Op:=ops.getD i default
def bD (ops:List Op):Nat→List Nat
 | 0=>[]
 | i+1=>if (aR ops i).kind=2 then i :: bD ops i else if (aR ops i).kind=3 then (bD ops i).tail else bD ops i
structure Wf (ops:List Op):Prop where
 kinds:∀ i,i<ops.length→(aR ops i).kind=1∨(aR ops i).kind=2∨(aR ops i).kind=3
 pops:∀ i,i<ops.length→(aR ops i).kind=3→bD ops i≠[]
 fin:bD ops ops.length=[]
section
variable {ops:List Op}
theorem fx {i:Nat} (h:(aR ops i).kind=2):bD ops (i+1)=i :: bD ops i:=by rw [bD,if_pos h]
theorem lC {i:Nat} (h:(aR ops i).kind=3):bD ops (i+1)=(bD ops i).tail:=by rw [bD,if_neg (by omega),if_pos h]
theorem fv {i:Nat} (h:(aR ops i).kind=1):bD ops (i+1)=bD ops i:=by rw [bD,if_neg (by omega),if_neg (by omega)]
theorem JD {i p:Nat} (h:p ∈ bD ops (i+1)):p=i∨p ∈ bD ops i:=by
 rw [bD] at h
 split at h
 ·exact List.mem_cons.1 h
 split at h
 ·exact .inr (List.mem_of_mem_tail h)
 ·exact .inr h
theorem qu:∀ {i p:Nat},p ∈ bD ops i→p<i
 | 0,p,h=>by simp [bD] at h
 | i+1,p,h=>by
  rcases JD h with rfl|h
  ·omega
  ·have:=qu h;omega
theorem iG:∀ {i p:Nat},p ∈ bD ops i→(aR ops p).kind=2
 | 0,p,h=>by simp [bD] at h
 | i+1,p,h=>by
  rw [bD] at h
  split at h
  ·rename_i hk
   rcases List.mem_cons.1 h with rfl|h
   ·exact hk
   ·exact iG h
  split at h
  ·exact iG (List.mem_of_mem_tail h)
  ·exact iG h
end
def FE (o:Int):Bool:=decide (o=3∨o=4∨o=5∨o=9∨o=10∨o=12)
def Ko (v:Int):Bool:=decide (v < -1099511627776∨1099511627776<v)
def xL (s:Script) (i x y:Int):Rect :=
 if i<0∨s.images.length≤i then ka
 else if (Ko x || Ko y || Ko (s.images.getD i.toNat default).w || Ko (s.images.getD i.toNat default).h)=true then ka
 else Ij ⟨x,y,x+(s.images.getD i.toNat default).w,y+(s.images.getD i.toNat default).h⟩ s.canvas
def sL (s:Script) (o:Op):Rect:=if o.kind=1 then xL s o.image o.x o.y else ka
def wu (s:Script) (o:Op):Rect:=if o.mask=0 then Ij s.canvas s.canvas else xL s (o.mask - 1) o.maskX o.maskY
def Ag (s:Script) (o:Op) (src:Rect):Rect:=if FE o.operator=false then s.canvas else if o.opacity=0 then ka else Ij src (wu s o)
def LW (h:List Rect) (r:Rect):List Rect:=Qk [h.headD ka,r] :: h.tail
def vr (s:Script):Nat→(Nat→Rect) × List Rect
 | 0=>(fun _=>ka,[ka])
 | i+1 =>
  if (aR s.ops i).kind=2 then ((vr s i).1,ka :: (vr s i).2)
  else if (aR s.ops i).kind=1 then
   (upd (vr s i).1 i (Ag s (aR s.ops i) (sL s (aR s.ops i))),LW (vr s i).2 (Ag s (aR s.ops i) (sL s (aR s.ops i))))
  else
   (upd (upd (vr s i).1 i (Ag s (aR s.ops ((bD s.ops i).headD 0)) ((vr s i).2.headD ka))) ((bD s.ops i).headD 0) (Ag s (aR s.ops ((bD s.ops i).headD 0)) ((vr s i).2.headD ka)),
    LW (vr s i).2.tail (Ag s (aR s.ops ((bD s.ops i).headD 0)) ((vr s i).2.headD ka)))
def FH (s:Script):Nat→Rect:=(vr s s.ops.length).1
section
variable {s:Script}
end
end Go.Proofs.YtmfblbbemekkoaaGreatDoor
