/- Part of the proof: F14. -/
import Derived.Test.YtmfblbbemekkoaaGreatDoorM8
set_option linter.unusedSimpArgs false
set_option linter.unusedVariables false
set_option maxHeartbeats 2000000
set_option maxRecDepth 16000
namespace Go.Proofs.YtmfblbbemekkoaaGreatDoor
open Go Go.SL
open Go.RowKit (wrap64)
def mG (x:List Int) (n:Int) (i:Nat):Bool:=decide (0≤x.getD i 0∧x.getD i 0<n) && !(x.take i).contains (x.getD i 0)
def fR (l:List Int) (n:Int):List Int:=if l.length=0 then nW n.toNat else l
def fK (l:List Int) (n:Int):Bool:=decide (0≤n∧n≤16777216∧(l.length=0∨l.length=n)) && (List.range n.toNat).all (mG (fR l n) n)
def ml (l:List Int) (n:Int):List Int:=if fK l n=true then fR l n else []
theorem vF {n i:Nat} (h:i<n):(nW n).getD i 0=i:=by simp [nW,h]
theorem pb {l:List Int} {n:Int} (h0:0≤n) (h:l.length=0∨l.length=n):(fR l n).length=n.toNat:=by
 unfold fR;split
 ·exact iO _
 ·omega
theorem zg {l:List Int} {n:Int} {i:Nat} (h0:0≤n) (hi:(i:Int)<n) (h:mG (fR l n) n i=false):fK l n=false:=by
 rw [fK,Bool.and_eq_false_imp]
 intro _
 rw [List.all_eq_false]
 exact ⟨i,List.mem_range.2 (by omega),by simp [h]⟩
def ze (x:List Int) (i:Nat):Nat→Nat→PV:=fun a _=>PB ((x.take i).contains (a:Int))
theorem vI {x:List Int} {i:Nat} (hi:i<x.length) (h0:0≤x.getD i 0) (a j:Nat):(if a=(x.getD i 0).toNat then PB true else ze x i a j)=ze x (i+1) a j:=by
 have e:x.take (i+1)=x.take i ++ [x.getD i 0]:=by
  rw [List.take_add_one,List.getElem?_eq_getElem hi,List.getD_eq_getElem?_getD,List.getElem?_eq_getElem hi];rfl
 have h:(x.take (i+1)).contains (a:Int)=((x.take i).contains (a:Int) || decide ((a:Int)=x.getD i 0)):=by
  rw [e,Bool.eq_iff_iff]
  simp
 unfold ze
 rw [h]
 by_cases ha:a=(x.getD i 0).toNat
 ·rw [if_pos ha,decide_eq_true (by omega),Bool.or_true]
 ·rw [if_neg ha,decide_eq_false (by omega),Bool.or_false]
theorem mo (l : List Int) (n : Int) (hl : l.length ≤ 4611686018427387904) :
  aC Sg 126 [.c (.p (dQ l)),I n] (fun r=>r = .tup [.c (.p (dQ (ml l n))),B (fK l n)]):=by
 refine ix ?_
 refine aA Tryz.func126 [.tmp 4, .tmp 5] ?_
 repeat' (first|refine an ?_|(refine ai (fun K hK => ?_);and_intros;(all_goals first|(refine hK _ ?_;clear hK K)|exact aa|skip))|(refine aW (fun hb => ?_) (fun hb => ?_);all_goals try exact aG)|(refine ak ?_;(try clear hB KB);(try clear hK K)))
 ·have:fK l n=false:=by
   rw [fK,decide_eq_false (by omega)];rfl
  rw [ml,this]
  exact gh ⟨kj iU,jr trivial,trivial⟩
 refine aO (X:=Nat) (fun i=>aQ [(0, .b (.c (.p (dQ l)))),(1, .b (I n)),(6, .b (.c (.own 1 n.toNat))),(7, .b (.c (.own 2 n.toNat))),(31, .b (I n)),(32, .b (I i))]
  [(1, .arr 3 1 n.toNat (fun a _=>PI (if a<i then (fR l n).getD a 0 else 0))),(2, .arr 4 1 n.toNat (ze (fR l n) i))] 3) (fun i=>(i:Int)≤n∧∀ k,k<i→mG (fR l n) n k=true) (fun i=>n.toNat - i) 0 ?_ ?_ ?_
 ·exact ⟨by omega,fun k hk=>by omega⟩
 ·refine az [(1,some 0),(2,some 1)] ?_ ?_
  and_intros
  all_goals first|exact ao|skip
  ·rw [Int.toNat_of_nonneg (by omega)];exact .inl rfl
  ·refine .inr fun a ha j hj => ?_
   have:j=0:=by omega
   subst this
   exact PV.le_refl _
  ·refine .inr fun a ha j hj => ?_
   have:j=0:=by omega
   subst this
   exact PV.le_refl _
 ·rintro i ⟨hi,hok⟩
  have hx:i<n.toNat→(0≤n∧(l.length=0∨l.length=n))→(if 0<(l.length:Int) then l.getD (i:Int).toNat default else (i:Int))=(fR l n).getD i 0:=fun h1 h2=>by
   rw [fR,Int.toNat_natCast]
   by_cases h0:l.length=0
   ·rw [if_neg (by omega),if_pos h0,vF h1]
   ·rw [if_pos (by omega),if_neg h0];rfl
  repeat' (first|refine an ?_|(refine ai (fun K hK => ?_);and_intros;(all_goals first|(refine hK _ ?_;clear hK K)|exact aa|skip))|(apply fo;(case hf=>rfl);(case hc=>exact eH);(all_goals first|(intro hb;(try simp only [ov] at hb))|skip))|exact bB|(refine aW (fun hb => ?_) (fun hb => ?_);all_goals try exact aG)|(refine ak ?_;(try clear hB KB);(try clear hK K)))
  ·rw [hx (by omega) (by omega)] at hb
   have:fK l n=false:=by
    refine zg (i:=i) (by omega) (by omega) ?_
    rw [mG]
    by_cases h1:0≤(fR l n).getD i 0∧(fR l n).getD i 0<n
    ·rcases hb with h|h
     ·omega
     ·rw [Int.toNat_of_nonneg h1.1] at h
      rw [h];simp
    ·rw [decide_eq_false h1];rfl
   rw [ml,this]
   exact gh ⟨kj iU,jr trivial,trivial⟩
  ·rw [hx (by omega) (by omega)] at hb
   rw [ah]
   refine aw (i+1) ?_ ⟨by omega,fun k hk => ?_⟩ (by omega)
   ·have hlen:=pb (l:=l) (n:=n) (by omega) (by omega)
    refine az [(1,some 1),(2,some 2)] ?_ ?_
    and_intros
    all_goals first|exact ao|skip
    ·refine .inr fun a ha j hj => ?_
     have:j=0:=by omega
     subst this
     have e:∀ p:Prop,[Decidable p]→(if p then PI (l.getD (i:Int).toNat default) else PI (i:Int))=PI (if p then l.getD (i:Int).toNat default else (i:Int)):=fun p _=>by split <;> rfl
     by_cases h:a=i
     ·subst h
      simp only [Int.toNat_natCast,gt_iff_lt] at hx ⊢
      have e2:(if a<a+1 then (fR l n).getD a 0 else 0)=(if 0<(l.length:Int) then l.getD a default else (a:Int)):=by rw [hx (by omega) (by omega),if_pos (by omega)]
      rw [e2]
      by_cases q:0<(l.length:Int)
      ·simp only [if_pos q];exact PV.le_refl _
      ·simp only [if_neg q];exact PV.le_refl _
     ·simp only [Int.toNat_natCast,gt_iff_lt,if_neg h]
      rw [show (if a<i+1 then (fR l n).getD a 0 else 0)=(if a<i then (fR l n).getD a 0 else 0) by
       by_cases h2:a<i
       ·rw [if_pos h2,if_pos (by omega)]
       ·rw [if_neg h2,if_neg (by omega)]]
      split <;> exact PV.le_refl _
    ·refine .inr fun a ha j hj => ?_
     have:j=0:=by omega
     subst this
     simp only [gt_iff_lt,hx (by omega) (by omega)]
     rw [← vI (by omega) hb.1.1]
     by_cases h:a=((fR l n).getD i 0).toNat
     ·rw [if_pos h,if_pos h];exact PV.le_refl _
     ·rw [if_neg h,if_neg h];exact PV.le_refl _
   ·by_cases h:k=i
    ·subst h
     rw [Int.toNat_of_nonneg hb.1.1] at hb
     rw [mG,decide_eq_true hb.1,hb.2];rfl
    ·exact hok k (by omega)
  ·have e:fK l n=true:=by
    rw [fK,decide_eq_true (by omega),Bool.true_and,List.all_eq_true]
    exact fun k hk=>hok k (by have:=List.mem_range.1 hk;omega)
   have hlen:=pb (l:=l) (n:=n) (by omega) (by omega)
   rw [ml,if_pos e,e,hlen]
   refine gh ⟨kj (lA fun a ha j hj => ?_),jr trivial,trivial⟩
   have:j=0:=by omega
   subst this
   rw [if_pos (by omega)];rfl
theorem vx (l : List Int) (n : Int) (hl : l.length ≤ 4611686018427387904) :
  aC Sg 157 [.c (.p (dQ l)),I n] (fun r=>r = .tup [.c (.p (dQ (ml l n))),B (fK l n)]):=by
 refine ix ?_
 refine aA Tryz.func157 [.tmp 4, .tmp 5] ?_
 repeat' (first|refine an ?_|(refine ai (fun K hK => ?_);and_intros;(all_goals first|(refine hK _ ?_;clear hK K)|exact aa|skip))|(refine aW (fun hb => ?_) (fun hb => ?_);all_goals try exact aG)|(refine ak ?_;(try clear hB KB);(try clear hK K)))
 ·have:fK l n=false:=by
   rw [fK,decide_eq_false (by omega)];rfl
  rw [ml,this]
  exact gh ⟨kj iU,jr trivial,trivial⟩
 refine aO (X:=Nat) (fun i=>aQ [(0, .b (.c (.p (dQ l)))),(1, .b (I n)),(6, .b (.c (.own 2 n.toNat))),(7, .b (.c (.own 1 i))),(8, .b (I i))]
  [(1, .arr 3 1 i (bj Dn ((fR l n).take i))),(2, .arr 4 1 n.toNat (ze (fR l n) i))] 3) (fun i=>(i:Int)≤n∧∀ k,k<i→mG (fR l n) n k=true) (fun i=>n.toNat - i) 0 ?_ ?_ ?_
 ·exact ⟨by omega,fun k hk=>by omega⟩
 ·refine az [(1,none),(2,some 0)] ?_ ?_
  and_intros
  all_goals first|exact ao|skip
  refine .inr fun a ha j hj => ?_
  have:j=0:=by omega
  subst this
  exact PV.le_refl _
 ·rintro i ⟨hi,hok⟩
  have hx:i<n.toNat→(0≤n∧(l.length=0∨l.length=n))→(if 0<(l.length:Int) then l.getD (i:Int).toNat default else (i:Int))=(fR l n).getD i 0:=fun h1 h2=>by
   rw [fR,Int.toNat_natCast]
   by_cases h0:l.length=0
   ·rw [if_neg (by omega),if_pos h0,vF h1]
   ·rw [if_pos (by omega),if_neg h0];rfl
  repeat' (first|refine an ?_|(refine ai (fun K hK => ?_);and_intros;(all_goals first|(refine hK _ ?_;clear hK K)|exact aa|skip))|(apply fo;(case hf=>rfl);(case hc=>exact eH);(all_goals first|(intro hb;(try simp only [ov] at hb))|skip))|exact bB|(refine aW (fun hb => ?_) (fun hb => ?_);all_goals try exact aG)|(refine ak ?_;(try clear hB KB);(try clear hK K)))
  ·rw [hx (by omega) (by omega)] at hb
   have:fK l n=false:=by
    refine zg (i:=i) (by omega) (by omega) ?_
    rw [mG]
    by_cases h1:0≤(fR l n).getD i 0∧(fR l n).getD i 0<n
    ·rcases hb with h|h
     ·omega
     ·rw [Int.toNat_of_nonneg h1.1] at h
      rw [h];simp
    ·rw [decide_eq_false h1];rfl
   rw [ml,this]
   exact gh ⟨kj iU,jr trivial,trivial⟩
  ·rw [hx (by omega) (by omega)] at hb
   have hlen:=pb (l:=l) (n:=n) (by omega) (by omega)
   rw [ah]
   refine aw (i+1) ?_ ⟨by omega,fun k hk => ?_⟩ (by omega)
   ·have e:(fR l n).take (i+1)=(fR l n).take i ++ [(fR l n).getD i 0]:=by
     rw [List.take_add_one,List.getElem?_eq_getElem (by omega),List.getD_eq_getElem?_getD,List.getElem?_eq_getElem (by omega)];rfl
    have hlt:((fR l n).take i).length=i:=by rw [List.length_take];omega
    refine az [(1,some 4),(2,some 2)] ?_ ?_
    and_intros
    all_goals first|exact ao|skip
    ·have key:=fun g hg=>dz (enc:=Dn) (xs:=(fR l n).take i) (x:=(fR l n).getD i 0) (s:=1) (g:=g) hg
     simp only [hlt,← e] at key
     refine .inr (key _ fun j hj => ?_)
     have:j=0:=by omega
     subst this
     simp only [gt_iff_lt,hx (by omega) (by omega)]
     rfl
    ·refine .inr fun a ha j hj => ?_
     have:j=0:=by omega
     subst this
     simp only [gt_iff_lt,hx (by omega) (by omega)]
     rw [← vI (by omega) hb.1.1]
     by_cases h:a=((fR l n).getD i 0).toNat
     ·rw [if_pos h,if_pos h];exact PV.le_refl _
     ·rw [if_neg h,if_neg h];exact PV.le_refl _
   ·by_cases h:k=i
    ·subst h
     rw [Int.toNat_of_nonneg hb.1.1] at hb
     rw [mG,decide_eq_true hb.1,hb.2];rfl
    ·exact hok k (by omega)
  ·have e:fK l n=true:=by
    rw [fK,decide_eq_true (by omega),Bool.true_and,List.all_eq_true]
    exact fun k hk=>hok k (by have:=List.mem_range.1 hk;omega)
   have hlen:=pb (l:=l) (n:=n) (by omega) (by omega)
   have hi2:i=n.toNat:=by omega
   rw [ml,if_pos e,e,List.take_of_length_le (by omega),hlen,hi2]
   exact gh ⟨jr trivial,jr trivial,trivial⟩
end Go.Proofs.YtmfblbbemekkoaaGreatDoor
