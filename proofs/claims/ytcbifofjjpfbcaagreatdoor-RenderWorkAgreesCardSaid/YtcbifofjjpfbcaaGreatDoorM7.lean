/- Part of the proof: F22, F4, F9, D1, D2. -/
import Derived.Test.YtcbifofjjpfbcaaGreatDoorM6
set_option linter.unusedSimpArgs false
set_option linter.unusedVariables false
set_option maxHeartbeats 8000000
set_option maxRecDepth 16000
namespace Go.Proofs.YtcbifofjjpfbcaaGreatDoor
open Go Go.SL
open Go.RowKit (wrap64)
def sD (k:Nat) (p:Pixel):Int:=match k with
 | 0=>p.c0
 | 1=>p.c1
 | 2=>p.c2
 | 3=>p.a
 | _=>p.f
def bO (w h:Int) (l:List Pixel) (k:Nat):Plane:=⟨w,h,w,l.map (sD k)⟩
def fD (w h:Int) (l:List Pixel):Image:=⟨w,h,false,⟨0,0,0,0,0⟩,bO w h l 0,bO w h l 1,bO w h l 2,bO w h l 3,bO w h l 4⟩
def gK:Plane:=⟨0,0,0,[]⟩
def jY:Image:=⟨0,0,false,⟨0,0,0,0,0⟩,gK,gK,gK,gK,gK⟩
def dg (w h:Int) (n:Nat):Bool:=cl w h && decide ((n:Int)=w * h)
def fh (w h:Int) (l:List Pixel):Image:=if dg w h l.length=true then fD w h l else jY
theorem ed {w h:Int} (hf:cl w h=true):1≤w∧1≤h∧1≤w * h∧w * h≤16777216∧w≤16777216∧h≤16777216:=by
 simp only [cl,decide_eq_true_eq] at hf
 obtain ⟨h1,h2,h3,h4⟩:=hf
 have h5:w * h≤w * (16777216 / w):=Int.mul_le_mul_of_nonneg_left h4 (by omega)
 have h6:w * (16777216 / w)≤16777216:=Int.mul_ediv_self_le (by omega)
 have h7:1 * 1≤w * h:=Int.mul_le_mul h1 h2 (by omega) (by omega)
 have h8:16777216 / w≤16777216:=Int.ediv_le_self _ (by omega)
 omega
def cm (l:List Pixel) (q i k:Nat):Nat→Nat→PV:=fun a _=>PU (if a<i∨a=i∧q<k then sD q (l.getD a default) else 0)
def fX (w h:Int) (x q n:Nat):List CV:=if q<x then [.p (PI w), .p (PI h), .p (PI w), .own (2+q) n] else [.p (PI 0), .p (PI 0), .p (PI 0), .p Ls]
def kh (w h:Int) (n x:Nat):List CV:=[.p (PI w), .p (PI h), .p (PB false), .p (PU 0), .p (PU 0), .p (PU 0), .p (PU 0), .p (PU 0)] ++ fX w h x 0 n ++ fX w h x 1 n ++ fX w h x 2 n ++ fX w h x 3 n ++ fX w h x 4 n
def kk (w h:Int) (n x:Nat) (l:List Pixel):List (Nat × Bx):=[(0, .fix ((bl jY).map CV.p)),(1, .fix (kh w h n x))] ++ (if 0<x then [(2, .arr 34 1 n (cm l 0 0 0))] else []) ++ (if 1<x then [(3, .arr 34 1 n (cm l 1 0 0))] else []) ++ (if 2<x then [(4, .arr 34 1 n (cm l 2 0 0))] else []) ++ (if 3<x then [(5, .arr 34 1 n (cm l 3 0 0))] else []) ++ (if 4<x then [(6, .arr 34 1 n (cm l 4 0 0))] else [])
theorem iI {l:List Pixel} {q a j:Nat}:cm l q 0 0 a j=PU 0:=by
 rw [cm,if_neg (by omega)]
theorem cM {l:List Pixel} {q i k:Nat} (h:q≠k):cm l q i k=cm l q i (k+1):=by
 funext a j
 unfold cm
 by_cases c:a<i∨a=i∧q<k
 ·rw [if_pos c,if_pos (by omega)]
 ·rw [if_neg c,if_neg (by omega)]
theorem oU {l:List Pixel} {q i a j:Nat}:(if a=i then PU (sD q (l.getD i default)) else cm l q i q a j)=cm l q i (q+1) a j:=by
 unfold cm
 by_cases c:a=i
 ·rw [if_pos c,if_pos (by omega),c]
 ·rw [if_neg c]
  by_cases d:a<i
  ·rw [if_pos (by omega),if_pos (by omega)]
  ·rw [if_neg (by omega),if_neg (by omega)]
theorem mB {l:List Pixel} {q i:Nat} (h:q<3):cm l q i 3=cm l q (i+1) 0:=by
 funext a j
 unfold cm
 by_cases c:a<i∨a=i∧q<3
 ·rw [if_pos c,if_pos (by omega)]
 ·rw [if_neg c,if_neg (by omega)]
theorem rA {l:List Pixel} {q i a j:Nat} (h:3≤q):(if a=i then PU (sD q (l.getD i default)) else cm l q i 3 a j)=cm l q (i+1) 0 a j:=by
 unfold cm
 by_cases c:a=i
 ·rw [if_pos c,if_pos (by omega),c]
 ·rw [if_neg c]
  by_cases d:a<i
  ·rw [if_pos (by omega),if_pos (by omega)]
  ·rw [if_neg (by omega),if_neg (by omega)]
theorem Ks {w h:Int} {l:List Pixel} {q:Nat}:PV.le (.lst 1 l.length (cm l q l.length 0)) (.lst 1 (bO w h l q).s.length (dG Om (bO w h l q).s)):=by
 have e:(bO w h l q).s.length=l.length:=by simp [bO]
 rw [e]
 refine gj fun a ha j hj => ?_
 have:j=0:=by omega
 subst this
 have e2:(bO w h l q).s.getD a default=sD q (l.getD a default):=by
  simp only [bO,List.getD_eq_getElem?_getD,List.getElem?_map,List.getElem?_eq_getElem ha,Option.map_some,Option.getD_some]
 rw [cm,if_pos (by omega),dG,e2]
 rfl
theorem xY (w h : Int) (l : List Pixel) (hl : l.length ≤ 4611686018427387904) :
  aF Sg 37 [I w,I h, .c (.p (sF l))] (fun r=>r = .tup [ag (bl (fh w h l)),B (dg w h l.length)]):=by
 refine fV ?_
 refine aI Tryz.func37 [.cell 6 43, .tmp 7] ?_
 repeat' (first|refine an ?_|((first|refine aj (fun K hK => ?_)|refine ae (gN _ _) ?_);and_intros;all_goals first|(refine hK _ ?_;clear hK K)|try exact aa)|(refine aH (fun hb => ?_) (fun hb => ?_);all_goals try exact ax)|(refine ai ?_;(try clear hB KB);(try clear hK K)))
 ·have hok:dg w h l.length=false:=by
   cases hf:cl w h with
   | false=>rw [dg,hf];rfl
   | true =>
    have hb2:=ed hf
    rw [hf,fA (n:=w * h) (by omega) (by omega)] at hb
    rw [dg,hf,decide_eq_false (by simpa using hb)];rfl
  rw [hok,fh,if_neg (by rw [hok];simp)]
  refine fe ⟨lS ?_,ej trivial,trivial⟩
  simp only [List.map_cons,List.map_nil,gm,jR]
  and_intros
  all_goals first|exact .inl rfl|exact .inl trivial|exact .inr fq|trivial|skip
 refine aM (X:=Nat) (fun x=>bg [(0, .b (I w)),(1, .b (I h)),(2, .b (.c (.p (sF l)))),(6, .b (.c (.ptr 0 0))),(8, .b (.c (.ptr 1 0))),(9, .b (I x))] (kk w h l.length x l) (2+x)) (fun x=>x≤5) (fun x=>5 - x) 0 ?_ ?_ ?_
 ·omega
 ·simp only [kk,kh,fX]
  refine aE [(1,some 1)] ?_ ?_
  and_intros
  all_goals first|exact aw|skip
  all_goals exact fq
 ·intro x hx
  have hw:IntKind.i64.wrap (w * h)=w * h:=by
   have:=ed hb.1
   exact fA (by omega) (by omega)
  have hb2:=ed hb.1
  rw [hw] at hb
  have hx':x=0∨x=1∨x=2∨x=3∨x=4∨x=5:=by omega
  rcases hx' with rfl|rfl|rfl|rfl|rfl|rfl
  ·simp only [kk,kh,fX]
   repeat' (first|refine an ?_|(refine aj (fun K hK => ?_);and_intros;all_goals first|(refine hK _ ?_;clear hK K)|try exact aa)|(refine aH (fun hb => ?_) (fun hb => ?_);all_goals try exact ax))
   rw [ah]
   refine au 1 ?_ (by omega) (by omega)
   refine aE [(1,some 1),(2,some 2)] ?_ ?_
   and_intros
   all_goals first|exact aw|skip
   refine .inr fun a ha j hj => ?_
   have:j=0:=by omega
   subst this
   rw [iI];exact PV.le_refl _
  ·simp only [kk,kh,fX]
   repeat' (first|refine an ?_|(refine aj (fun K hK => ?_);and_intros;all_goals first|(refine hK _ ?_;clear hK K)|try exact aa)|(refine aH (fun hb => ?_) (fun hb => ?_);all_goals try exact ax))
   rw [ah]
   refine au 2 ?_ (by omega) (by omega)
   refine aE [(1,some 1),(2,some 2),(3,some 3)] ?_ ?_
   and_intros
   all_goals first|exact aw|skip
   refine .inr fun a ha j hj => ?_
   have:j=0:=by omega
   subst this
   rw [iI];exact PV.le_refl _
  ·simp only [kk,kh,fX]
   repeat' (first|refine an ?_|(refine aj (fun K hK => ?_);and_intros;all_goals first|(refine hK _ ?_;clear hK K)|try exact aa)|(refine aH (fun hb => ?_) (fun hb => ?_);all_goals try exact ax))
   rw [ah]
   refine au 3 ?_ (by omega) (by omega)
   refine aE [(1,some 1),(2,some 2),(3,some 3),(4,some 4)] ?_ ?_
   and_intros
   all_goals first|exact aw|skip
   refine .inr fun a ha j hj => ?_
   have:j=0:=by omega
   subst this
   rw [iI];exact PV.le_refl _
  ·simp only [kk,kh,fX]
   repeat' (first|refine an ?_|(refine aj (fun K hK => ?_);and_intros;all_goals first|(refine hK _ ?_;clear hK K)|try exact aa)|(refine aH (fun hb => ?_) (fun hb => ?_);all_goals try exact ax))
   rw [ah]
   refine au 4 ?_ (by omega) (by omega)
   refine aE [(1,some 1),(2,some 2),(3,some 3),(4,some 4),(5,some 5)] ?_ ?_
   and_intros
   all_goals first|exact aw|skip
   refine .inr fun a ha j hj => ?_
   have:j=0:=by omega
   subst this
   rw [iI];exact PV.le_refl _
  ·simp only [kk,kh,fX]
   repeat' (first|refine an ?_|(refine aj (fun K hK => ?_);and_intros;all_goals first|(refine hK _ ?_;clear hK K)|try exact aa)|(refine aH (fun hb => ?_) (fun hb => ?_);all_goals try exact ax))
   rw [ah]
   refine au 5 ?_ (by omega) (by omega)
   refine aE [(1,some 1),(2,some 2),(3,some 3),(4,some 4),(5,some 5),(6,some 6)] ?_ ?_
   and_intros
   all_goals first|exact aw|skip
   refine .inr fun a ha j hj => ?_
   have:j=0:=by omega
   subst this
   rw [iI];exact PV.le_refl _
  simp only [kk,kh,fX]
  repeat' (first|refine an ?_|(refine aj (fun K hK => ?_);and_intros;all_goals first|(refine hK _ ?_;clear hK K)|try exact aa)|(refine aH (fun hb => ?_) (fun hb => ?_);all_goals try exact ax))
  refine aM (X:=Nat) (fun i=>bg [(0, .b (I w)),(1, .b (I h)),(2, .b (.c (.p (sF l)))),(6, .b (.c (.ptr 0 0))),(8, .b (.c (.ptr 1 0))),(10, .b (I i))] [(0, .fix ((bl jY).map CV.p)),(1, .fix ([.p (PI w), .p (PI h), .p (PB false), .p (PU 0), .p (PU 0), .p (PU 0), .p (PU 0), .p (PU 0), .p (PI w), .p (PI h), .p (PI w), .own 2 l.length, .p (PI w), .p (PI h), .p (PI w), .own 3 l.length, .p (PI w), .p (PI h), .p (PI w), .own 4 l.length, .p (PI w), .p (PI h), .p (PI w), .own 5 l.length, .p (PI w), .p (PI h), .p (PI w), .own 6 l.length])),(2, .arr 34 1 l.length (cm l 0 i 0)),(3, .arr 34 1 l.length (cm l 1 i 0)),(4, .arr 34 1 l.length (cm l 2 i 0)),(5, .arr 34 1 l.length (cm l 3 i 0)),(6, .arr 34 1 l.length (cm l 4 i 0))] 7) (fun i=>i≤l.length) (fun i=>l.length - i) 0 ?_ ?_ ?_
  ·omega
  ·refine aE [(1,some 1),(2,some 2),(3,some 3),(4,some 4),(5,some 5),(6,some 6)] ?_ ?_
   and_intros
   all_goals first|exact aw|skip
  ·intro i hi
   repeat' (first|refine an ?_|(refine aj (fun K hK => ?_);and_intros;all_goals first|(refine hK _ ?_;clear hK K)|try exact aa)|(refine aH (fun hb => ?_) (fun hb => ?_);all_goals try exact ax)|(refine ai ?_;(try clear hB KB);(try clear hK K)))
   ·refine aM (X:=Nat) (fun k=>bg [(0, .b (I w)),(1, .b (I h)),(2, .b (.c (.p (sF l)))),(6, .b (.c (.ptr 0 0))),(8, .b (.c (.ptr 1 0))),(10, .b (I i)),(11, .b (I k))] [(0, .fix ((bl jY).map CV.p)),(1, .fix ([.p (PI w), .p (PI h), .p (PB false), .p (PU 0), .p (PU 0), .p (PU 0), .p (PU 0), .p (PU 0), .p (PI w), .p (PI h), .p (PI w), .own 2 l.length, .p (PI w), .p (PI h), .p (PI w), .own 3 l.length, .p (PI w), .p (PI h), .p (PI w), .own 4 l.length, .p (PI w), .p (PI h), .p (PI w), .own 5 l.length, .p (PI w), .p (PI h), .p (PI w), .own 6 l.length])),(2, .arr 34 1 l.length (cm l 0 i k)),(3, .arr 34 1 l.length (cm l 1 i k)),(4, .arr 34 1 l.length (cm l 2 i k)),(5, .arr 34 1 l.length (cm l 3 i k)),(6, .arr 34 1 l.length (cm l 4 i k))] 7) (fun k=>k≤3) (fun k=>3 - k) 0 ?_ ?_ ?_
    ·omega
    ·refine aE [(1,some 1),(2,some 2),(3,some 3),(4,some 4),(5,some 5),(6,some 6)] ?_ ?_
     and_intros
     all_goals first|exact aw|skip
    ·intro k hk
     have hk':k=0∨k=1∨k=2∨k=3:=by omega
     rcases hk' with rfl|rfl|rfl|rfl
     ·repeat' (first|refine an ?_|(refine aj (fun K hK => ?_);and_intros;all_goals first|(refine hK _ ?_;clear hK K)|try exact aa)|(refine aH (fun hb => ?_) (fun hb => ?_);all_goals try exact ax))
      rw [ah]
      refine au 1 ?_ (by omega) (by omega)
      refine aE [(1,some 1),(2,some 2),(3,some 3),(4,some 4),(5,some 5),(6,some 6)] ?_ ?_
      and_intros
      all_goals first|exact aw|skip
      ·refine .inr fun a ha j hj => ?_
       have:j=0:=by omega
       subst this
       rw [← oU]
       simp only [Int.toNat_natCast]
       by_cases h:a=i
       ·rw [if_pos h,if_pos h]
        split
        ·exact PV.le_refl _
        ·rename_i hn
         exact absurd ⟨Nat.le_refl _,by decide +kernel⟩ hn
       ·rw [if_neg h,if_neg h];exact PV.le_refl _
      ·exact .inl (cM (by decide))
      ·exact .inl (cM (by decide))
      ·exact .inl (cM (by decide))
      ·exact .inl (cM (by decide))
     ·repeat' (first|refine an ?_|(refine aj (fun K hK => ?_);and_intros;all_goals first|(refine hK _ ?_;clear hK K)|try exact aa)|(refine aH (fun hb => ?_) (fun hb => ?_);all_goals try exact ax))
      rw [ah]
      refine au 2 ?_ (by omega) (by omega)
      refine aE [(1,some 1),(2,some 2),(3,some 3),(4,some 4),(5,some 5),(6,some 6)] ?_ ?_
      and_intros
      all_goals first|exact aw|skip
      ·exact .inl (cM (by decide))
      ·refine .inr fun a ha j hj => ?_
       have:j=0:=by omega
       subst this
       rw [← oU]
       simp only [Int.toNat_natCast]
       by_cases h:a=i
       ·rw [if_pos h,if_pos h]
        split
        ·exact PV.le_refl _
        ·rename_i hn
         exact absurd ⟨Nat.le_refl _,by decide +kernel⟩ hn
       ·rw [if_neg h,if_neg h];exact PV.le_refl _
      ·exact .inl (cM (by decide))
      ·exact .inl (cM (by decide))
      ·exact .inl (cM (by decide))
     ·repeat' (first|refine an ?_|(refine aj (fun K hK => ?_);and_intros;all_goals first|(refine hK _ ?_;clear hK K)|try exact aa)|(refine aH (fun hb => ?_) (fun hb => ?_);all_goals try exact ax))
      rw [ah]
      refine au 3 ?_ (by omega) (by omega)
      refine aE [(1,some 1),(2,some 2),(3,some 3),(4,some 4),(5,some 5),(6,some 6)] ?_ ?_
      and_intros
      all_goals first|exact aw|skip
      ·exact .inl (cM (by decide))
      ·exact .inl (cM (by decide))
      ·refine .inr fun a ha j hj => ?_
       have:j=0:=by omega
       subst this
       rw [← oU]
       simp only [Int.toNat_natCast]
       by_cases h:a=i
       ·rw [if_pos h,if_pos h]
        split
        ·exact PV.le_refl _
        ·rename_i hn
         exact absurd ⟨Nat.le_refl _,by decide +kernel⟩ hn
       ·rw [if_neg h,if_neg h];exact PV.le_refl _
      ·exact .inl (cM (by decide))
      ·exact .inl (cM (by decide))
     ·repeat' (first|(((with_reducible refine ch (id:=15) [(87,2),(74,1),(85,3)] (by decide +kernel) (by decide +kernel) ?_ (fun K hK => ?_));(first|(refine And.intro (fun iw hiw => ?_) ?_;(focus ((try simp (maxSteps:=999999)(disch:=omega) only [go_sem] at hiw ⊢);(repeat (refine Eq.trans (if_neg ?_) ?_;(focus omega)));(first|exact hw iw (by omega)|rfl)));(focus (first|exact Nat.zero_le _|(simp (maxSteps:=999999)(disch:=omega) only [go_sem];done)|(simp (maxSteps:=999999)(disch:=omega) only [go_sem];omega))))|exact cS));(try simp (maxSteps:=999999)(disch:=omega) only [go_sem]);and_intros;(all_goals first|(refine hK _ (by simp (maxSteps:=999999)(disch:=omega) only [go_sem]) ?_;clear hK K)|exact aa|skip))|refine an ?_|(refine aj (fun K hK => ?_);and_intros;all_goals first|(refine hK _ ?_;clear hK K)|try exact aa)|(refine aH (fun hb => ?_) (fun hb => ?_);all_goals try exact ax))
      rw [ah]
      refine au (i+1) ?_ (by omega) (by omega)
      refine aE [(1,some 1),(2,some 2),(3,some 3),(4,some 4),(5,some 5),(6,some 6)] ?_ ?_
      and_intros
      all_goals first|exact aw|skip
      ·exact .inl (mB (by decide))
      ·exact .inl (mB (by decide))
      ·exact .inl (mB (by decide))
      ·refine .inr fun a ha j hj => ?_
       have:j=0:=by omega
       subst this
       rw [← rA (by decide)]
       simp only [Int.toNat_natCast]
       by_cases h:a=i
       ·rw [if_pos h,if_pos h];exact PV.le_refl _
       ·rw [if_neg h,if_neg h];exact PV.le_refl _
      ·refine .inr fun a ha j hj => ?_
       have:j=0:=by omega
       subst this
       rw [← rA (by decide)]
       simp only [Int.toNat_natCast]
       by_cases h:a=i
       ·rw [if_pos h,if_pos h];exact PV.le_refl _
       ·rw [if_neg h,if_neg h];exact PV.le_refl _
   ·have hok:dg w h l.length=true:=by
     rw [dg,(by assumption:cl w h=true∧_).1,decide_eq_true (by omega)];rfl
    rw [hok,fh,if_pos hok]
    have hi2:i=l.length:=by omega
    rw [hi2]
    refine fe ⟨lS ?_,ej trivial,trivial⟩
    simp only [List.map_cons,List.map_nil,gm,jR]
    and_intros
    all_goals first|exact .inl rfl|exact .inl trivial|exact .inr fq|trivial|skip
    all_goals exact .inr Ks
end Go.Proofs.YtcbifofjjpfbcaaGreatDoor
set_option maxRecDepth 16000
namespace Go.Proofs.YtcbifofjjpfbcaaGreatDoor
open Go Go.SL
open Go.RowKit (wrap64)
def pS (r:Row) (m:Int) (i:Nat):Pixel :=
 let k:=if 0<r.l.length then i % r.l.length else i
 vh (if k<r.l.length then r.l.getD k default else ⟨0,0,0,0,0⟩) m
def qV (r:Row) (m:Int) (i:Nat):Pixel :=
 if r.mood % 6=0 then ⟨0,0,0,0,0⟩
 else if r.mood % 6=1 then { pS r m i with a:=m,f:=m }
 else if r.mood % 6=2 then pS r m 0 else pS r m i
def cB (r:Row) (n:Nat) (m:Int):List Pixel:=(List.range n).map (qV r m)
structure RowOk (r:Row):Prop where
 mood:i64 r.mood
 l:∀ i,i<r.l.length→N5ok (r.l.getD i default)
 len:r.l.length≤4611686018427387904
set_option maxHeartbeats 4000000 in
theorem Ah (r : Row) (n m : Int) (hr : RowOk r) (hn : 0 ≤ n) (hn2 : n ≤ 1000000) (hm : u16 m) :
  aF Sg 61 [ag (Mz r),I n,U m] (fun x=>x = .b (.c (.p (sF (cB r n.toNat m))))):=by
 obtain ⟨⟨a1,a2⟩,hl,hlen⟩:=hr
 refine aI Tryz.func61 [.tmp 6] ?_
 repeat' (first|refine an ?_|(refine aj (fun K hK => ?_);and_intros;all_goals first|(refine hK _ ?_;clear hK K)|try exact aa))
 refine aM (X:=Nat) (fun i=>bg [(1, .b (I n)),(2, .b (U m)),(3, .b (.c (.ptr 0 0))),(7, .b (.c (.own 1 i))),(8, .b (I i))]
  [(0, .fix ((Mz r).map CV.p)),(1, .arr 37 5 i (dG aW (cB r i m)))] 2) (fun i=>(i:Int)≤n) (fun i=>n.toNat - i) 0 ?_ ?_ ?_
 ·omega
 ·refine aE [(1,none)] ?_ ?_
  and_intros
  all_goals first|exact aw|skip
 ·intro i hi
  have hk:(if (r.l.length:Int)>0 then (i:Int) % r.l.length else i)=((if 0<r.l.length then i % r.l.length else i:Nat):Int):=by
   split <;> split <;> omega
  repeat' (first|refine an ?_|(refine aj (fun K hK => ?_);and_intros;all_goals first|(refine hK _ ?_;clear hK K)|try exact aa)|(apply aC;(case hf=>rfl);(case hc=>exact aS);(all_goals first|(intro hb;(try simp only [bZ] at hb))|skip))|exact ao|(refine aH (fun hb => ?_) (fun hb => ?_);all_goals try exact ax)|(refine ai ?_;(try clear hB KB);(try clear hK K)))
  ·refine yA ?_ ?_ (by simp (maxSteps:=999999)(disch:=omega) only [go_sem]) (CG (if (if 0<r.l.length then i % r.l.length else i)<r.l.length then r.l.getD (if 0<r.l.length then i % r.l.length else i) default else ⟨0,0,0,0,0⟩) m ?_ hm)
   try simp (maxSteps:=999999)(disch:=omega) only [go_sem]
   try (refine hK _ ?_;clear hK K)
   rotate_left
   ·simp only [hk,Int.toNat_natCast,Int.ofNat_lt]
    generalize (if 0<r.l.length then i % r.l.length else i)=k
    split <;> rfl
   ·generalize (if 0<r.l.length then i % r.l.length else i)=k
    split
    ·exact hl _ (by assumption)
    ·exact ⟨⟨by decide,by decide⟩,⟨by decide,by decide⟩,⟨by decide,by decide⟩,⟨by decide,by decide⟩,⟨by decide,by decide⟩⟩
   rw [← pS]
   repeat' (first|refine an ?_|((first|refine aj (fun K hK => ?_)|refine ae (cL _ _ (by omega) (by omega)) ?_);and_intros;all_goals first|(refine hK _ ?_;clear hK K)|try exact aa)|(apply ay;(case hf=>rfl);(case hc=>exact aS);(all_goals first|(intro hb;(try simp only [bZ] at hb))|skip))|exact ao)
   rw [ah]
   refine au (i+1) ?_ (by omega) (by omega)
   refine aE [(1,some 5)] ?_ ?_
   and_intros
   all_goals first|exact aw|skip
   have hlen:(cB r i m).length=i:=by simp [cB]
   have hx:cB r (i+1) m=cB r i m ++ [qV r m i]:=by simp [cB,List.range_succ]
   have key:=fun g hg=>fy (enc:=aW) (xs:=cB r i m) (x:=qV r m i) (s:=5) (g:=g) hg
   simp only [hlen,← hx] at key
   refine .inr (key _ fun j hj => ?_)
   have h5:j=0∨j=1∨j=2∨j=3∨j=4:=by omega
   have hp : qV r m i = if r.mood % 6 = 0 then ⟨0, 0, 0, 0, 0⟩ else if r.mood % 6 = 1 then { pS r m i with a := m, f := m }
     else if r.mood % 6=2 then (if (i:Int)>0 then (cB r i m).getD 0 default else pS r m i) else pS r m i:=by
    by_cases h2:r.mood % 6=2
    ·have h0:¬ r.mood % 6=0:=by omega
     have h1:¬ r.mood % 6=1:=by omega
     by_cases hi0:(i:Int)>0
     ·have:(cB r i m).getD 0 default=qV r m 0:=by
       have hi1:0<i:=by omega
       simp [cB,hi1]
      rw [if_neg h0,if_neg h1,if_pos h2,if_pos hi0,this]
      simp only [qV,if_neg h0,if_neg h1,if_pos h2]
     ·have:i=0:=by omega
      subst this
      rw [if_neg h0,if_neg h1,if_pos h2,if_neg hi0]
      simp only [qV,if_neg h0,if_neg h1,if_pos h2]
    ·simp only [qV,if_neg h2]
   rw [hp]
   by_cases m0:r.mood % 6=0
   ·simp only [if_pos m0];rcases h5 with rfl|rfl|rfl|rfl|rfl <;> rfl
   ·by_cases m1:r.mood % 6=1
    ·simp only [if_neg m0,if_pos m1];rcases h5 with rfl|rfl|rfl|rfl|rfl <;> rfl
    ·by_cases m2:r.mood % 6=2
     ·by_cases hi0:(i:Int)>0
      ·simp only [if_neg m0,if_neg m1,if_pos m2,if_pos hi0];rcases h5 with rfl|rfl|rfl|rfl|rfl <;> rfl
      ·simp only [if_neg m0,if_neg m1,if_pos m2,if_neg hi0];rcases h5 with rfl|rfl|rfl|rfl|rfl <;> rfl
     ·simp only [if_neg m0,if_neg m1,if_neg m2];rcases h5 with rfl|rfl|rfl|rfl|rfl <;> rfl
  ·have:i=n.toNat:=by omega
   subst this
   have hl:(cB r n.toNat m).length=n.toNat:=by simp [cB]
   rw [hl]
end Go.Proofs.YtcbifofjjpfbcaaGreatDoor
set_option maxHeartbeats 2000000
set_option maxRecDepth 16000
namespace Go.Proofs.YtcbifofjjpfbcaaGreatDoor
open Go Go.SL
open Go.RowKit (wrap64)
def fc (o:Op):Bool :=
 if o.kind=3 then decide (o.image=0∧o.x=0∧o.y=0∧o.mask=0∧o.maskX=0∧o.maskY=0∧o.opacity=0∧o.operator=0∧o.mode=0∧o.isolated=false∧o.knockout=false)
 else if o.kind=1∧(o.isolated=true∨o.knockout=true) then false
 else if o.kind=2∧(o.image≠0∨o.x≠0∨o.y≠0) then false
 else decide (o.mask≠0∨o.maskX=0∧o.maskY=0)
theorem Bs (o:Op):aF Sg 151 [ag (eA o)] (fun x=>x = .b (B (fc o))):=by
 refine aI Tryz.func151 [.tmp 2] ?_
 repeat' (first|refine an ?_|(refine aj (fun K hK => ?_);and_intros;all_goals first|(refine hK _ ?_;clear hK K)|try exact aa)|(refine aH (fun hb => ?_) (fun hb => ?_);all_goals try exact ax)|(refine ai ?_;(try clear hB KB);(try clear hK K)))
 ·refine dS ?_
  rw [fc,if_pos hb]
  simp only [hb,Bool.and_true,Bool.and_eq_true,beq_iff_eq,Bool.not_eq_true',decide_eq_true_eq,true_and]
 ·rw [fc,if_neg (by omega),if_pos hb]
 ·rename_i h1 h2
  rw [fc,if_neg h1,if_neg (fun h=>by have:=h2 h.1;simp [this.1,this.2] at h),if_pos (by omega)]
 ·rename_i h1 h2
  refine dS ?_
  rw [fc,if_neg h1,if_neg (fun h=>by have:=h2 h.1;simp [this.1,this.2] at h),if_neg (by omega)]
  simp only [Bool.or_eq_true,Bool.and_eq_true,beq_iff_eq,bne_iff_ne,decide_eq_true_eq,ne_eq]
theorem zb (l:List Op) (hl:l.length≤4611686018427387904):aF Sg 154 [.c (.p (qB l))] (fun x=>x = .b (B (l.isEmpty || ((l.getD (l.length - 1) default).isolated && !(l.getD (l.length - 1) default).knockout)))):=by
 refine aI Tryz.func154 [.tmp 2] ?_
 repeat' (first|refine an ?_|(refine aj (fun K hK => ?_);and_intros;all_goals first|(refine hK _ ?_;clear hK K)|try exact aa)|(refine aH (fun hb => ?_) (fun hb => ?_);all_goals try exact ax)|(refine ai ?_;(try clear hB KB);(try clear hK K)))
 ·have:l=[]:=List.eq_nil_of_length_eq_zero (by omega)
  subst this;rfl
 ·have h1:((l.length:Int) - 1).toNat=l.length - 1:=by omega
  have h2:l.isEmpty=false:=by cases l <;> simp_all
  rw [h1,h2];rfl
theorem xo (l:List Int) (hl:l.length≤4611686018427387904):aF Sg 106 [.c (.p (eZ l))] (fun x=>x = .b (B (bJ 1048576 l))):=by
 refine aI Tryz.func106 [.tmp 2] ?_
 repeat' (first|refine an ?_|(refine aj (fun K hK => ?_);and_intros;all_goals first|(refine hK _ ?_;clear hK K)|try exact aa))
 refine aM (X:=Nat) (fun i=>bg [(5, .b (.c (.p (eZ l)))),(6, .b (I l.length)),(7, .b (I i))] [] 1) (fun i=>i≤l.length∧(l.take i).all (fun v=>decide (-1048576≤v∧v≤1048576))=true) (fun i=>l.length - i) 0 ?_ ?_ ?_
 ·exact ⟨by omega,rfl⟩
 ·refine aE [] ?_ ?_
  and_intros
  all_goals first|exact aw|skip
 ·rintro i ⟨hi,ht⟩
  repeat' (first|refine an ?_|(refine aj (fun K hK => ?_);and_intros;all_goals first|(refine hK _ ?_;clear hK K)|try exact aa)|(refine aH (fun hb => ?_) (fun hb => ?_);all_goals try exact ax)|(refine ai ?_;(try clear hB KB);(try clear hK K)))
  ·have:bJ 1048576 l=false:=by
    rw [bJ,List.all_eq_false]
    refine ⟨l.getD i default, ?_, ?_⟩
    ·rw [List.getD_eq_getElem?_getD,List.getElem?_eq_getElem (by omega)];exact List.getElem_mem _
    ·simp only [decide_eq_true_eq];simp only [Int.toNat_natCast] at hb;omega
   rw [this]
  ·rw [ah]
   refine au (i+1) ?_ ⟨by omega, ?_⟩ (by omega)
   ·refine aE [] ?_ ?_
    and_intros
    all_goals first|exact aw|skip
   ·rw [List.take_add_one,List.all_append,ht,List.getElem?_eq_getElem (by omega)]
    simp only [Int.toNat_natCast,List.getD_eq_getElem?_getD,List.getElem?_eq_getElem (show i<l.length by omega),Option.getD_some] at hb
    simp only [Option.toList_some,List.all_cons,List.all_nil,Bool.and_true,Bool.true_and,decide_eq_true_eq]
    omega
  ·have:bJ 1048576 l=true:=by
    rw [bJ]
    rwa [List.take_of_length_le (by omega)] at ht
   rw [this]
end Go.Proofs.YtcbifofjjpfbcaaGreatDoor
set_option maxRecDepth 8000
namespace Go.Proofs.YtcbifofjjpfbcaaGreatDoor
open Go Go.SL
def cX:Rect:=⟨0,0,0,0⟩
def eS (r q:Rect):Rect:=if aU r=true∨aU q=true then cX else gi ⟨max r.x0 q.x0,max r.y0 q.y0,min r.x1 q.x1,min r.y1 q.y1⟩
def fS (o r:Rect):Rect:=if aU r=true then o else if aU o=true then r else ⟨min o.x0 r.x0,min o.y0 r.y0,max o.x1 r.x1,max o.y1 r.y1⟩
def dd (l:List Rect):Rect:=l.foldl fS cX
theorem vj:aU cX=true:=by decide
theorem wW (l:List Rect) (x:Rect):dd (l ++ [x])=fS (dd l) x:=by
 unfold dd;rw [List.foldl_append];rfl
theorem kZ {r : Rect} : aU r = false ↔ (-1073741824 ≤ r.x0 ∧ r.x0 ≤ 1073741824 ∧ -1073741824 ≤ r.y0 ∧ r.y0 ≤ 1073741824 ∧ -1073741824 ≤ r.x1 ∧ r.x1 ≤ 1073741824 ∧ -1073741824 ≤ r.y1 ∧ r.y1 ≤ 1073741824) ∧
  r.x0<r.x1∧r.y0<r.y1:=by
 simp only [aU,kI,Bool.or_eq_false_iff,Bool.not_eq_eq_eq_not,Bool.not_false,decide_eq_true_eq,decide_eq_false_iff_not]
 omega
def sr (l:List Rect) (r:Rect):Prop:=r ∈ l∧aU r=false
structure HullIs (l:List Rect) (h:Rect):Prop where
 none:(∀ r,¬ sr l r)→h=cX
 ne:(∃ r,sr l r)→aU h=false
 x0:(∃ r,sr l r)→(∀ r,sr l r→h.x0≤r.x0)∧∃ r,sr l r∧h.x0=r.x0
 y0:(∃ r,sr l r)→(∀ r,sr l r→h.y0≤r.y0)∧∃ r,sr l r∧h.y0=r.y0
 x1:(∃ r,sr l r)→(∀ r,sr l r→r.x1≤h.x1)∧∃ r,sr l r∧h.x1=r.x1
 y1:(∃ r,sr l r)→(∀ r,sr l r→r.y1≤h.y1)∧∃ r,sr l r∧h.y1=r.y1
theorem fg {l:List Rect} {x r:Rect}:sr (l ++ [x]) r↔sr l r∨(r=x∧aU x=false):=by
 unfold sr
 rw [List.mem_append,List.mem_singleton]
 refine ⟨fun ⟨h1,h2⟩ => ?_,fun h => ?_⟩
 ·rcases h1 with h1|rfl
  ·exact .inl ⟨h1,h2⟩
  ·exact .inr ⟨rfl,h2⟩
 ·rcases h with ⟨h1,h2⟩|⟨rfl,h2⟩
  ·exact ⟨.inl h1,h2⟩
  ·exact ⟨.inr rfl,h2⟩
theorem Gl {l:List Rect} {h x:Rect} (H:HullIs l h):HullIs (l ++ [x]) (fS h x):=by
 by_cases hx:aU x=true
 ·have e:∀ r,sr (l ++ [x]) r↔sr l r:=fun r=>by rw [fg];simp [hx]
  have e2:(∃ r,sr (l ++ [x]) r)↔∃ r,sr l r:=exists_congr e
  have eh:fS h x=h:=by rw [fS,if_pos hx]
  rw [eh]
  refine ⟨fun q=>H.none fun r hr=>q r ((e r).2 hr),fun q=>H.ne (e2.1 q),fun q => ?_,fun q => ?_,fun q => ?_,fun q => ?_⟩
  ·obtain ⟨a,b,c,d⟩:=H.x0 (e2.1 q);exact ⟨fun r hr=>a r ((e r).1 hr),b,(e b).2 c,d⟩
  ·obtain ⟨a,b,c,d⟩:=H.y0 (e2.1 q);exact ⟨fun r hr=>a r ((e r).1 hr),b,(e b).2 c,d⟩
  ·obtain ⟨a,b,c,d⟩:=H.x1 (e2.1 q);exact ⟨fun r hr=>a r ((e r).1 hr),b,(e b).2 c,d⟩
  ·obtain ⟨a,b,c,d⟩:=H.y1 (e2.1 q);exact ⟨fun r hr=>a r ((e r).1 hr),b,(e b).2 c,d⟩
 ·have hx':aU x=false:=by simpa using hx
  have hin:sr (l ++ [x]) x:=fg.2 (.inr ⟨rfl,hx'⟩)
  by_cases hl:∃ r,sr l r
  ·have hne:=H.ne hl
   have eh:fS h x=⟨min h.x0 x.x0,min h.y0 x.y0,max h.x1 x.x1,max h.y1 x.y1⟩:=by rw [fS,if_neg hx,if_neg (by rw [hne];simp)]
   rw [eh]
   obtain ⟨a0,b0,c0,d0⟩:=H.x0 hl
   obtain ⟨a1,b1,c1,d1⟩:=H.y0 hl
   obtain ⟨a2,b2,c2,d2⟩:=H.x1 hl
   obtain ⟨a3,b3,c3,d3⟩:=H.y1 hl
   refine ⟨fun q=>absurd hin (q x),fun _ => ?_,fun _=>⟨fun r hr => ?_, ?_⟩,fun _=>⟨fun r hr => ?_, ?_⟩,fun _=>⟨fun r hr => ?_, ?_⟩,fun _=>⟨fun r hr => ?_, ?_⟩⟩
   ·rw [kZ] at hne hx' ⊢
    dsimp only
    omega
   ·rcases fg.1 hr with hr|⟨rfl,_⟩
    ·have:=a0 r hr;dsimp only;omega
    ·dsimp only;omega
   ·rcases Int.le_total h.x0 x.x0 with q|q
    ·exact ⟨b0,fg.2 (.inl c0),by dsimp only;omega⟩
    ·exact ⟨x,hin,by dsimp only;omega⟩
   ·rcases fg.1 hr with hr|⟨rfl,_⟩
    ·have:=a1 r hr;dsimp only;omega
    ·dsimp only;omega
   ·rcases Int.le_total h.y0 x.y0 with q|q
    ·exact ⟨b1,fg.2 (.inl c1),by dsimp only;omega⟩
    ·exact ⟨x,hin,by dsimp only;omega⟩
   ·rcases fg.1 hr with hr|⟨rfl,_⟩
    ·have:=a2 r hr;dsimp only;omega
    ·dsimp only;omega
   ·rcases Int.le_total h.x1 x.x1 with q|q
    ·exact ⟨x,hin,by dsimp only;omega⟩
    ·exact ⟨b2,fg.2 (.inl c2),by dsimp only;omega⟩
   ·rcases fg.1 hr with hr|⟨rfl,_⟩
    ·have:=a3 r hr;dsimp only;omega
    ·dsimp only;omega
   ·rcases Int.le_total h.y1 x.y1 with q|q
    ·exact ⟨x,hin,by dsimp only;omega⟩
    ·exact ⟨b3,fg.2 (.inl c3),by dsimp only;omega⟩
  ·have hz:h=cX:=H.none fun r hr=>hl ⟨r,hr⟩
   have eh:fS h x=x:=by rw [fS,if_neg hx,hz,if_pos vj]
   rw [eh]
   have only:∀ r,sr (l ++ [x]) r→r=x:=fun r hr=>by
    rcases fg.1 hr with hr|⟨rfl,_⟩
    ·exact absurd ⟨r,hr⟩ hl
    ·rfl
   exact ⟨fun q=>absurd hin (q x),fun _=>hx',fun _=>⟨fun r hr=>by rw [only r hr];exact Int.le_refl _,x,hin,rfl⟩,fun _=>⟨fun r hr=>by rw [only r hr];exact Int.le_refl _,x,hin,rfl⟩,
    fun _=>⟨fun r hr=>by rw [only r hr];exact Int.le_refl _,x,hin,rfl⟩,fun _=>⟨fun r hr=>by rw [only r hr];exact Int.le_refl _,x,hin,rfl⟩⟩
theorem xi:∀ (l l0:List Rect) (h:Rect),HullIs l0 h→HullIs (l0 ++ l) (l.foldl fS h)
 | [],l0,h,H=>by simpa using H
 | x :: l,l0,h,H=>by
  have:=xi l (l0 ++ [x]) (fS h x) (Gl H)
  rw [List.append_assoc] at this
  exact this
theorem Ch (l:List Rect):HullIs l (dd l):=by
 have:=xi l [] cX ⟨fun _=>rfl,fun ⟨r,hr,_⟩=>by simp at hr,fun ⟨r,hr,_⟩=>by simp at hr,fun ⟨r,hr,_⟩=>by simp at hr,fun ⟨r,hr,_⟩=>by simp at hr,fun ⟨r,hr,_⟩=>by simp at hr⟩
 exact this
theorem Mf {l:List Rect} {r:Rect} (h:r ∈ l) (hr:aU r=false):aU (dd l)=false∧(dd l).x0≤r.x0∧(dd l).y0≤r.y0∧r.x1≤(dd l).x1∧r.y1≤(dd l).y1:=by
 have A:=Ch l
 have hi:sr l r:=⟨h,hr⟩
 exact ⟨A.ne ⟨r,hi⟩,(A.x0 ⟨r,hi⟩).1 r hi,(A.y0 ⟨r,hi⟩).1 r hi,(A.x1 ⟨r,hi⟩).1 r hi,(A.y1 ⟨r,hi⟩).1 r hi⟩
theorem Bn (l:List Rect):(dd l=cX)∨aU (dd l)=false:=by
 by_cases hl:∃ r,sr l r
 ·exact .inr ((Ch l).ne hl)
 ·exact .inl ((Ch l).none fun r hr=>hl ⟨r,hr⟩)
end Go.Proofs.YtcbifofjjpfbcaaGreatDoor
set_option maxRecDepth 8000
namespace Go.Proofs.YtcbifofjjpfbcaaGreatDoor
open Go Go.SL
def upd {α:Type} (f:Nat→α) (k:Nat) (v:α):Nat→α:=fun j=>if j=k then v else f j
theorem bV {α:Type} (f:Nat→α) (k:Nat) (v:α):upd f k v k=v:=if_pos rfl
theorem cC {α:Type} (f:Nat→α) {k j:Nat} (v:α) (h:j≠k):upd f k v j=f j:=if_neg h
def aB (ops:List Op) (i:Nat):Op:=ops.getD i default
def bI (ops:List Op):Nat→List Nat
 | 0=>[]
 | i+1=>if (aB ops i).kind=2 then i :: bI ops i else if (aB ops i).kind=3 then (bI ops i).tail else bI ops i
def sG (ops:List Op):Nat→Nat→Nat
 | 0=>fun _=>0
 | i+1=>if (aB ops i).kind=3 then upd (upd (sG ops i) i i) ((bI ops i).headD 0) i else upd (sG ops i) i i
def aR (ops:List Op):Nat→Nat:=sG ops ops.length
structure Wf (ops:List Op):Prop where
 kinds:∀ i,i<ops.length→(aB ops i).kind=1∨(aB ops i).kind=2∨(aB ops i).kind=3
 pops:∀ i,i<ops.length→(aB ops i).kind=3→bI ops i≠[]
 fin:bI ops ops.length=[]
section
variable {ops:List Op}
theorem ct {i:Nat} (h:(aB ops i).kind=2):bI ops (i+1)=i :: bI ops i:=by rw [bI,if_pos h]
theorem dQ {i:Nat} (h:(aB ops i).kind=3):bI ops (i+1)=(bI ops i).tail:=by rw [bI,if_neg (by omega),if_pos h]
theorem cr {i:Nat} (h:(aB ops i).kind=1):bI ops (i+1)=bI ops i:=by rw [bI,if_neg (by omega),if_neg (by omega)]
theorem EP {i p:Nat} (h:p ∈ bI ops (i+1)):p=i∨p ∈ bI ops i:=by
 rw [bI] at h
 split at h
 ·exact List.mem_cons.1 h
 split at h
 ·exact .inr (List.mem_of_mem_tail h)
 ·exact .inr h
theorem dR:∀ {i p:Nat},p ∈ bI ops i→p<i
 | 0,p,h=>by simp [bI] at h
 | i+1,p,h=>by
  rcases EP h with rfl|h
  ·omega
  ·have:=dR h;omega
theorem fO:∀ {i p:Nat},p ∈ bI ops i→(aB ops p).kind=2
 | 0,p,h=>by simp [bI] at h
 | i+1,p,h=>by
  rw [bI] at h
  split at h
  ·rename_i hk
   rcases List.mem_cons.1 h with rfl|h
   ·exact hk
   ·exact fO h
  split at h
  ·exact fO (List.mem_of_mem_tail h)
  ·exact fO h
theorem jn:∀ i,(bI ops i).Nodup
 | 0=>by simp [bI]
 | i+1=>by
  rw [bI]
  split
  ·exact List.nodup_cons.2 ⟨fun h=>Nat.lt_irrefl _ (dR h),jn i⟩
  split
  ·exact (jn i).sublist (List.tail_sublist _)
  ·exact jn i
theorem ma:∀ i,(bI ops i).Pairwise (fun a b=>b<a)
 | 0=>by simp [bI]
 | i+1=>by
  rw [bI]
  split
  ·exact List.pairwise_cons.2 ⟨fun q hq=>dR hq,ma i⟩
  split
  ·exact (ma i).sublist (List.tail_sublist _)
  ·exact ma i
theorem Be {i p:Nat} {t:List Nat} (hs:bI ops i=p :: t):∀ q ∈ t,q<p:=by
 have:=ma (ops:=ops) i
 rw [hs] at this
 exact (List.pairwise_cons.1 this).1
theorem Br (W:Wf ops) {i p:Nat} (hp:p<i) (hn:p ∉ bI ops i):∀ m,i≤m→p ∉ bI ops m:=by
 intro m hm
 induction m with
 | zero=>omega
 | succ m ih =>
  by_cases he:i=m+1
  ·rw [← he];exact hn
  ·intro h
   rcases EP h with rfl|h
   ·omega
   ·exact ih (by omega) h
theorem qq {l:List Nat} (h:l≠[]):l.headD 0 ∈ l:=by
 cases l with
 | nil=>exact absurd rfl h
 | cons a l=>simp
theorem IV (W:Wf ops) {i p:Nat} (hp:p<i) (hn:p ∉ bI ops i):∀ m,i≤m→m≤ops.length→sG ops m p=sG ops i p:=by
 intro m hm hl
 induction m with
 | zero=>omega
 | succ m ih =>
  by_cases he:i=m+1
  ·rw [← he]
  ·have ih:=ih (by omega) (by omega)
   have hk:=Br W hp hn m (by omega)
   rw [sG]
   split
   ·rename_i h3
    have:=qq (W.pops m (by omega) h3)
    rw [cC _ _ (fun e=>hk (by rw [e];exact this)),cC _ _ (by omega),ih]
   ·rw [cC _ _ (by omega),ih]
theorem tf (W:Wf ops) {i p:Nat} (hp:p<i) (hn:p ∉ bI ops i) (hl:i≤ops.length):aR ops p=sG ops i p:=IV W hp hn _ hl (Nat.le_refl _)
theorem gn (W:Wf ops) {i:Nat} (hi:i<ops.length) (hk:(aB ops i).kind=1):aR ops i=i:=by
 rw [tf W (Nat.lt_succ_self i) (by rw [cr hk];exact fun h=>Nat.lt_irrefl _ (dR h)) hi,sG,if_neg (by omega),bV]
theorem fP (W:Wf ops) {i p:Nat} {t:List Nat} (hi:i<ops.length) (hk:(aB ops i).kind=3) (hs:bI ops i=p :: t):aR ops p=i:=by
 have hn:=jn (ops:=ops) i
 rw [hs] at hn
 have hp:p<i:=dR (ops:=ops) (by rw [hs];exact List.mem_cons_self ..)
 rw [tf W (i:=i+1) (by omega) (by rw [dQ hk,hs];exact (List.nodup_cons.1 hn).1) hi,sG,if_pos hk,hs]
 exact bV _ _ _
theorem xb (W:Wf ops) {i:Nat} (hi:i<ops.length) (hk:(aB ops i).kind=3):aR ops i=i:=by
 have hne:=W.pops i hi hk
 have hlt:=dR (qq hne)
 rw [tf W (Nat.lt_succ_self i) (by rw [dQ hk];exact fun h=>Nat.lt_irrefl _ (dR (List.mem_of_mem_tail h))) hi,sG,if_pos hk,cC _ _ (by omega),bV]
theorem mK (W:Wf ops) {p:Nat}:∀ (d i:Nat),i+d=ops.length→p ∈ bI ops i→∃ j t,i≤j∧j<ops.length∧(aB ops j).kind=3∧bI ops j=p :: t
 | 0,i,hd,h=>by
  have:i=ops.length:=by omega
  rw [this,W.fin] at h
  simp at h
 | d+1,i,hd,h=>by
  by_cases h2:p ∈ bI ops (i+1)
  ·obtain ⟨j,t,h1,h3⟩:=mK W d (i+1) (by omega) h2
   exact ⟨j,t,by omega,h3⟩
  ·rcases W.kinds i (by omega) with k|k|k
   ·rw [cr k] at h2;exact absurd h h2
   ·rw [ct k] at h2;exact absurd (List.mem_cons_of_mem _ h) h2
   ·rw [dQ k] at h2
    cases hs:bI ops i with
    | nil=>rw [hs] at h;simp at h
    | cons q t =>
     rw [hs] at h h2
     rcases List.mem_cons.1 h with rfl|h
     ·exact ⟨i,t,Nat.le_refl _,by omega,k,hs⟩
     ·exact absurd h h2
theorem wN (W:Wf ops) {i p:Nat} (hi:i≤ops.length) (h:p ∈ bI ops i):i≤aR ops p∧aR ops p<ops.length:=by
 obtain ⟨j,t,h1,h2,h3,h4⟩:=mK W (ops.length - i) i (by omega) h
 rw [fP W h2 h3 h4]
 exact ⟨h1,h2⟩
theorem Ct (W:Wf ops):∀ (i:Nat),i≤ops.length→∀ j,j<i→sG ops i j<i
 | 0,_,j,hj=>absurd hj (Nat.not_lt_zero _)
 | i+1,hi,j,hj=>by
  have ih:=Ct W i (by omega)
  have h1:upd (sG ops i) i i j<i+1:=by
   by_cases he:j=i
   ·rw [he,bV];omega
   ·rw [cC _ _ he];have:=ih j (by omega);omega
  rw [sG]
  split
  ·by_cases he:j=(bI ops i).headD 0
   ·rw [he,bV];omega
   ·rw [cC _ _ he];exact h1
  ·exact h1
theorem lx (W:Wf ops) {i p:Nat} (hi:i≤ops.length) (hp:p<i):p ∈ bI ops i↔(aB ops p).kind=2∧i≤aR ops p:=by
 refine ⟨fun h=>⟨fO h,(wN W hi h).1⟩,fun ⟨h1,h2⟩ => ?_⟩
 by_cases h:p ∈ bI ops i
 ·exact h
 ·rw [tf W hp h hi] at h2
  have:=Ct W i hi p hp
  omega
theorem fT (W:Wf ops) {i:Nat} (hi:i<ops.length):aR ops i<ops.length:=Ct W _ (Nat.le_refl _) i hi
theorem gY (W:Wf ops) {p:Nat} (hp:p<ops.length) (hk:(aB ops p).kind=2):p<aR ops p:=by
 have:=(wN W (i:=p+1) hp (by rw [ct hk];exact List.mem_cons_self ..)).1
 omega
end
def cQ (o:Int):Bool:=decide (o=3∨o=4∨o=5∨o=9∨o=10∨o=12)
def iB (v:Int):Bool:=decide (v < -1099511627776∨1099511627776<v)
def dP (s:Script) (i x y:Int):Rect :=
 if i<0∨s.images.length≤i then cX
 else if (iB x || iB y || iB (s.images.getD i.toNat default).w || iB (s.images.getD i.toNat default).h)=true then cX
 else eS ⟨x,y,x+(s.images.getD i.toNat default).w,y+(s.images.getD i.toNat default).h⟩ s.canvas
def bE (s:Script) (o:Op):Rect:=if o.kind=1 then dP s o.image o.x o.y else cX
def bT (s:Script) (o:Op):Rect:=if o.mask=0 then eS s.canvas s.canvas else dP s (o.mask - 1) o.maskX o.maskY
def fK (s:Script) (o:Op) (src:Rect):Rect:=if cQ o.operator=false then s.canvas else if o.opacity=0 then cX else eS src (bT s o)
def pE (h:List Rect) (r:Rect):List Rect:=dd [h.headD cX,r] :: h.tail
def dc (s:Script):Nat→(Nat→Rect) × List Rect
 | 0=>(fun _=>cX,[cX])
 | i+1 =>
  if (aB s.ops i).kind=2 then ((dc s i).1,cX :: (dc s i).2)
  else if (aB s.ops i).kind=1 then
   (upd (dc s i).1 i (fK s (aB s.ops i) (bE s (aB s.ops i))),pE (dc s i).2 (fK s (aB s.ops i) (bE s (aB s.ops i))))
  else
   (upd (upd (dc s i).1 i (fK s (aB s.ops ((bI s.ops i).headD 0)) ((dc s i).2.headD cX))) ((bI s.ops i).headD 0) (fK s (aB s.ops ((bI s.ops i).headD 0)) ((dc s i).2.headD cX)),
    pE (dc s i).2.tail (fK s (aB s.ops ((bI s.ops i).headD 0)) ((dc s i).2.headD cX)))
def bn (s:Script):Nat→Rect:=(dc s s.ops.length).1
theorem Hp (l:List Rect) (x:Rect):dd [dd l,x]=dd (l ++ [x]):=by
 rw [wW]
 show fS (fS cX (dd l)) x=_
 congr 1
 unfold fS
 split
 ·rcases Bn l with h|h
  ·exact h.symm
  ·rename_i q;rw [h] at q;cases q
 ·rw [if_pos vj]
def KV (e:Nat→Nat):Nat→Nat→List Nat→Prop
 | a,b,[]=>a=b
 | a,b,k :: l=>a=k∧KV e (e k+1) b l
theorem vG {e:Nat→Nat} {b:Nat}:∀ {l:List Nat} {a:Nat},KV e a b l→KV e a (e b+1) (l ++ [b])
 | [],a,h=>⟨h,rfl⟩
 | k :: l,a,⟨h1,h2⟩=>⟨h1,vG h2⟩
section
variable {s:Script}
theorem zi (W:Wf s.ops) {i p:Nat} (hp:p<i) (hn:p ∉ bI s.ops i):∀ m,i≤m→m≤s.ops.length→(dc s m).1 p=(dc s i).1 p:=by
 intro m hm hl
 induction m with
 | zero=>omega
 | succ m ih =>
  by_cases he:i=m+1
  ·rw [← he]
  ·have ih:=ih (by omega) (by omega)
   have hk:=Br W hp hn m (by omega)
   rw [dc]
   split
   ·exact ih
   split
   ·dsimp only;rw [cC _ _ (by omega),ih]
   ·rename_i h2 h1
    have h3:(aB s.ops m).kind=3:=by rcases W.kinds m (by omega) with k|k|k <;> omega
    have:=qq (W.pops m (by omega) h3)
    dsimp only
    rw [cC _ _ (fun e=>hk (by rw [e];exact this)),cC _ _ (by omega),ih]
theorem vi (W:Wf s.ops) {i:Nat} (hi:i<s.ops.length) (hk:(aB s.ops i).kind=1):bn s i=fK s (aB s.ops i) (bE s (aB s.ops i)):=by
 rw [bn,zi W (Nat.lt_succ_self i) (by rw [cr hk];exact fun h=>Nat.lt_irrefl _ (dR h)) _ hi (Nat.le_refl _),dc,if_neg (by omega),if_pos hk]
 exact bV _ _ _
theorem uD (W : Wf s.ops) {i p : Nat} {t : List Nat} (hi : i < s.ops.length) (hk : (aB s.ops i).kind = 3) (hs : bI s.ops i = p :: t) :
  bn s i=fK s (aB s.ops p) ((dc s i).2.headD cX)∧bn s p=fK s (aB s.ops p) ((dc s i).2.headD cX):=by
 have hn:=jn (ops:=s.ops) i
 rw [hs] at hn
 have hp:p<i:=dR (ops:=s.ops) (by rw [hs];exact List.mem_cons_self ..)
 refine ⟨?_, ?_⟩
 ·rw [bn,zi W (Nat.lt_succ_self i) (by rw [dQ hk];exact fun h=>Nat.lt_irrefl _ (dR (List.mem_of_mem_tail h))) _ hi (Nat.le_refl _),dc,if_neg (by omega),if_neg (by omega),hs]
  dsimp only [List.headD]
  rw [cC _ _ (by omega),bV]
 ·rw [bn,zi W (i:=i+1) (by omega) (by rw [dQ hk,hs];exact (List.nodup_cons.1 hn).1) _ hi (Nat.le_refl _),dc,if_neg (by omega),if_neg (by omega),hs]
  dsimp only [List.headD]
  rw [bV]
def Lq (s:Script):Nat→List Nat→List Rect→Prop
 | i,[],h :: []=>∃ l,KV (aR s.ops) 0 i l∧(∀ k ∈ l,k<i∧(aB s.ops k).kind≠3)∧h=dd (l.map (bn s))
 | i,p :: st,h :: hs=>(∃ l,KV (aR s.ops) (p+1) i l∧(∀ k ∈ l,(p<k∧k<i)∧(aB s.ops k).kind≠3)∧h=dd (l.map (bn s)))∧Lq s p st hs
 | _,_,_=>False
theorem BP {i : Nat} {st : List Nat} {h : List Rect} (hk : (aB s.ops i).kind ≠ 3) (hl : ∀ p ∈ st, p < i) (hle : i ≤ aR s.ops i) (H : Lq s i st h) :
  Lq s (aR s.ops i+1) st (pE h (bn s i)):=by
 have hm:∀ l:List Nat,dd [dd (l.map (bn s)),bn s i]=dd ((l ++ [i]).map (bn s)):=fun l=>by rw [Hp,List.map_append];rfl
 cases st with
 | nil =>
  cases h with
  | nil=>exact H.elim
  | cons a h =>
   cases h with
   | cons=>exact H.elim
   | nil =>
    obtain ⟨l,h1,h2,rfl⟩:=H
    refine ⟨l ++ [i],vG h1,fun k hkm => ?_,hm l⟩
    rcases List.mem_append.1 hkm with q|q
    ·exact ⟨by have:=(h2 k q).1;omega,(h2 k q).2⟩
    ·rw [List.mem_singleton] at q;subst q;exact ⟨by omega,hk⟩
 | cons p st =>
  cases h with
  | nil=>exact H.elim
  | cons a h =>
   obtain ⟨⟨l,h1,h2,rfl⟩,H2⟩:=H
   refine ⟨⟨l ++ [i],vG h1,fun k hkm => ?_,hm l⟩,H2⟩
   have hp:=hl p (List.mem_cons_self ..)
   rcases List.mem_append.1 hkm with q|q
   ·exact ⟨by have:=(h2 k q).1;omega,(h2 k q).2⟩
   ·rw [List.mem_singleton] at q;subst q;exact ⟨by omega,hk⟩
theorem Vy (W:Wf s.ops):∀ i,i≤s.ops.length→Lq s i (bI s.ops i) (dc s i).2
 | 0,_=>⟨[],rfl,fun k hk=>by simp at hk,rfl⟩
 | i+1,hi=>by
  have ih:=Vy W i (by omega)
  have hlt:∀ p ∈ bI s.ops i,p<i:=fun p hp=>dR hp
  rcases W.kinds i (by omega) with k|k|k
  ·have e:=gn W (by omega) k
   have:=BP (by omega) hlt (by omega) ih
   rw [e] at this
   rw [cr k,dc,if_neg (by omega),if_pos k]
   rw [vi W (by omega) k] at this
   exact this
  ·rw [ct k,dc,if_pos k]
   exact ⟨⟨[],rfl,fun k hk=>by simp at hk,rfl⟩,ih⟩
  ·rw [dQ k,dc,if_neg (by omega),if_neg (by omega)]
   cases hs:bI s.ops i with
   | nil=>exact absurd hs (W.pops i (by omega) k)
   | cons p t =>
    have hb:=(uD W (by omega) k hs).2
    have e:=fP W (by omega) k hs
    have hp:(aB s.ops p).kind=2:=fO (i:=i) (by rw [hs];exact List.mem_cons_self ..)
    rw [hs] at ih hlt
    cases hh:(dc s i).2 with
    | nil=>rw [hh] at ih;exact ih.elim
    | cons a h =>
     rw [hh] at ih hb
     have hn:=jn (ops:=s.ops) i
     have hlt2:∀ q ∈ t,q<p:=fun q hq=>by
      exact Be hs q hq
     have hpi:p<i:=hlt p (List.mem_cons_self ..)
     have:=BP (by omega) hlt2 (by omega) ih.2
     rw [e,hb] at this
     exact this
theorem Ao (W : Wf s.ops) {p : Nat} (hp : p < s.ops.length) (hk : (aB s.ops p).kind = 2) :
  ∃ l,KV (aR s.ops) (p+1) (aR s.ops p) l∧(∀ k ∈ l,(p<k∧k<aR s.ops p)∧(aB s.ops k).kind≠3)∧bn s p=fK s (aB s.ops p) (dd (l.map (bn s))):=by
 obtain ⟨j,t,h1,h2,h3,h4⟩:=mK W (s.ops.length - (p+1)) (p+1) (by omega) (by rw [ct hk];exact List.mem_cons_self ..)
 have e:=fP W h2 h3 h4
 have H:=Vy W j (by omega)
 have hb:=(uD W h2 h3 h4).2
 rw [h4] at H
 rw [e]
 cases hh:(dc s j).2 with
 | nil=>rw [hh] at H;exact H.elim
 | cons a h =>
  rw [hh] at H hb
  obtain ⟨⟨l,q1,q2,rfl⟩,_⟩:=H
  exact ⟨l,q1,q2,hb⟩
theorem yd (W:Wf s.ops) {i:Nat} (hi:i<s.ops.length) (hk:(aB s.ops i).kind=3):bn s i=bn s ((bI s.ops i).headD 0):=by
 cases hs:bI s.ops i with
 | nil=>exact absurd hs (W.pops i hi hk)
 | cons p t =>
  obtain ⟨h1,h2⟩:=uD W hi hk hs
  exact h1.trans h2.symm
end
end Go.Proofs.YtcbifofjjpfbcaaGreatDoor
