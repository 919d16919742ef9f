/- Part of the proof: F17. -/
import Derived.Test.YtcbifofjjpfbcaaGreatDoorM11
set_option linter.unusedSimpArgs false
set_option linter.unusedVariables false
set_option maxHeartbeats 4000000
set_option maxRecDepth 16000
namespace Go.Proofs.YtcbifofjjpfbcaaGreatDoor
open Go Go.SL
open Go.RowKit (wrap64)
def cI (l:List Op) (o:Op):List Op:=if o.kind=2 then l ++ [o] else if o.kind=3 then l.dropLast else l
def fR (b:Int) (n:Nat):Nat→List Op→List Op→Int × Int
 | i,[],l=>if 0<l.length then (18,i) else (0,0)
 | i,o :: r,l=>if fC b n o l=0 then fR b n (i+1) r (cI l o) else (fC b n o l,i)
def jh (s:Script):Int × Int:=if bD s=0 then fR s.bits s.images.length 0 s.ops [] else (bD s,0)
theorem lO {b : Int} {n : Nat} {ops : List Op} {i : Nat} {l : List Op} (hi : i < ops.length) : fR b n i (ops.drop i) l =
  if fC b n (ops.getD i default) l=0 then fR b n (i+1) (ops.drop (i+1)) (cI l (ops.getD i default)) else (fC b n (ops.getD i default) l,(i:Int)):=by
 rw [List.drop_eq_getElem_cons hi,List.getD_eq_getElem?_getD,List.getElem?_eq_getElem hi]
 rfl
theorem qP {s:Script} (h:bD s=0):s.images.length≤64∧s.ops.length≤4096:=by
 unfold bD at h
 split at h
 ·cases h
 split at h
 ·cases h
 split at h
 ·cases h
 split at h
 ·cases h
 split at h
 ·cases h
 ·omega
theorem wQ {l:List Op} {g:Nat→Nat→PV} (hg:∀ k,k<l.length→∀ j,j<12→g k j=dG eA l k j):BV.le (.c (.p (.lst 12 l.length g))) (.c (.p (qB l))) :=
 mA (gj hg)
theorem xz {l : List Op} {o : Op} {g f : Nat → Nat → PV} (hg : ∀ k, k < l.length → ∀ j, j < 12 → g k j = dG eA l k j) (hf : ∀ j, j < 12 → f 0 j = (eA o).getD j .any) :
  ∀ i,i<(l ++ [o]).length→∀ j,j<12→PV.le (gh l.length g f i j) (dG eA (l ++ [o]) i j):=fun i hi j hj=>by
 rw [List.length_append] at hi
 have:=fy (enc:=eA) (xs:=l) (x:=o) (s:=12) (g:=f) hf i hi j hj
 unfold gh at this ⊢
 by_cases h:i<l.length
 ·rw [if_pos h] at this ⊢
  rw [hg i h j hj];exact this
 ·rw [if_neg h] at this ⊢
  exact this
theorem Au {l:List Op} {g:Nat→Nat→PV} (hg:∀ k,k<l.length→∀ j,j<12→g k j=dG eA l k j):∀ k,k<l.dropLast.length→∀ j,j<12→g k j=dG eA l.dropLast k j:=fun k hk j hj=>by
 rw [List.length_dropLast] at hk
 rw [hg k (by omega) j hj]
 have e:l.dropLast.getD k default=l.getD k default:=by
  rw [List.getD_eq_getElem?_getD,List.getD_eq_getElem?_getD,List.getElem?_dropLast,if_pos hk]
 unfold dG
 rw [e]
theorem wB {b:Int} {n:Nat} {o:Op} {l:List Op} (h:fC b n o l=0) (hk:o.kind=3):0<l.length:=by
 unfold fC at h
 rw [if_neg (by omega)] at h
 split at h
 ·cases h
 split at h
 ·cases h
 ·omega
theorem wz (s:Script) (hs:ScriptLen s):aF Sg 70 [ag (aL s)] (fun x=>x = .tup [I (jh s).1,I (jh s).2]):=by
 have hf:=uq s hs
 obtain ⟨h1,h2,h3⟩:=id hs
 refine aI Tryz.func70 [.tmp 2, .tmp 3] ?_
 repeat' (first|refine an ?_|((first|refine aj (fun K hK => ?_)|refine ae (hf) ?_);and_intros;all_goals first|(refine hK _ ?_;clear hK K)|try exact aa)|(refine aH (fun hb => ?_) (fun hb => ?_);all_goals try exact ax)|(refine ai ?_;(try clear hB KB);(try clear hK K)))
 ·rw [jh,if_neg hb]
 have hfo:=qP hb
 rw [jh,if_pos hb]
 clear hf
 refine aM (X:=Nat × List Op × Nat × (Nat→Nat→PV)) (fun x=>bg [(1, .b (.c (.ptr 0 0))),(5, .b (.c (.own 1 x.2.1.length))),(15, .b (.c (.p (qB s.ops)))),(16, .b (I s.ops.length)),(17, .b (I x.1))]
  [(0, .fix ((aL s).map CV.p)),(1, .arr 74 12 x.2.2.1 x.2.2.2)] 2) (fun x=>x.1≤s.ops.length∧x.2.1.length≤x.1∧x.2.1.length≤x.2.2.1∧(∀ k,k<x.2.1.length→∀ j,j<12→x.2.2.2 k j=dG eA x.2.1 k j) ∧
   fR s.bits s.images.length x.1 (s.ops.drop x.1) x.2.1=fR s.bits s.images.length 0 s.ops []) (fun x=>s.ops.length - x.1) (0,[],0,fun _ _ => .any) ?_ ?_ ?_
 ·exact ⟨by omega,Nat.le_refl _,Nat.le_refl _,fun k hk=>by simp at hk,rfl⟩
 ·refine aE [(1,none)] ?_ ?_
  and_intros
  all_goals first|exact aw|skip
 ·rintro ⟨i,l,m,g⟩ ⟨hi,hl,hm,hg,hgo⟩
  dsimp only at hi hl hm hg hgo ⊢
  have hv:=JS s i l hs (by omega)
  have he:i<s.ops.length→fW s i l=fC s.bits s.images.length (s.ops.getD i default) l:=fun h=>by
   rw [fW,if_neg (by omega),Int.toNat_natCast]
  have hpop:i<s.ops.length→fW s i l=0→(s.ops.getD (i:Int).toNat default).kind=3→0<l.length:=fun h1 h2 h3=>by
   rw [he h1] at h2
   exact wB h2 h3
  repeat' (first|refine an ?_|(refine aj (fun K hK => ?_);and_intros;all_goals first|(refine hK _ ?_;clear hK K)|try exact aa)|(refine aH (fun hb => ?_) (fun hb => ?_);all_goals try exact ax)|(refine ai ?_;(try clear hB KB);(try clear hK K)))
  ·refine fk ?_ ?_ (by simp (maxSteps:=999999)(disch:=omega) only [go_sem]) ?_ (hv)
   try simp (maxSteps:=999999)(disch:=omega) only [go_sem]
   try (refine hK _ ?_;clear hK K)
   ·repeat' (first|refine an ?_|(refine aj (fun K hK => ?_);and_intros;all_goals first|(refine hK _ ?_;clear hK K)|try exact aa)|((first|apply aC|apply ay);(case hf=>rfl);(case hc=>exact aS);(all_goals first|(intro hb;(try simp only [bZ] at hb))|skip))|exact ao|(refine aH (fun hb => ?_) (fun hb => ?_);all_goals try exact ax)|(refine ai ?_;(try clear hB KB);(try clear hK K)))
    ·rw [he (by omega)] at hb ⊢
     rw [← hgo,lO (by omega),if_neg hb]
    ·have hn:∀ l',cI l (s.ops.getD i default)=l'→fR s.bits s.images.length (i+1) (s.ops.drop (i+1)) l'=fR s.bits s.images.length 0 s.ops []:=by
      rintro l' rfl
      have q:=lO (b:=s.bits) (n:=s.images.length) (l:=l) (show i<s.ops.length by omega)
      rw [if_pos (by rw [← he (by omega)];exact hb)] at q
      rw [← q,hgo]
     rw [ah]
     simp only [Int.toNat_natCast] at hpop ⊢
     by_cases hk2:(s.ops.getD i default).kind=2
     ·have e2:((s.ops.getD i default).kind == 2)=true:=by rw [hk2];rfl
      simp only [e2,St.ite_t]
      refine au (i+1,l ++ [s.ops.getD i default],l.length+1,dG eA (l ++ [s.ops.getD i default])) ?_ ⟨by omega,by simp;omega,by simp,fun _ _ _ _=>rfl,hn _ (by rw [cI,if_pos hk2])⟩ (by dsimp only;omega)
      refine aE [(1,some 4)] ?_ ?_
      and_intros
      all_goals first|exact aw|skip
      ·simp
      ·refine .inr fun a ha j hj=>xz hg (fun j hj => ?_) a (by simpa using ha) j hj
       have hivl:j=0∨j=1∨j=2∨j=3∨j=4∨j=5∨j=6∨j=7∨j=8∨j=9∨j=10∨j=11:=by omega
       rcases hivl with rfl|rfl|rfl|rfl|rfl|rfl|rfl|rfl|rfl|rfl|rfl|rfl <;> rfl
     ·have e2:((s.ops.getD i default).kind == 2)=false:=by simpa using hk2
      simp only [e2,St.ite_f]
      by_cases hk3:(s.ops.getD i default).kind=3
      ·have e3:((s.ops.getD i default).kind == 3)=true:=by rw [hk3];rfl
       simp only [e3,St.ite_t]
       have hp:=hpop (by omega) hb hk3
       refine au (i+1,l.dropLast,m,g) ?_ ⟨by omega,by rw [List.length_dropLast];dsimp only;omega,by rw [List.length_dropLast];dsimp only;omega,Au hg,hn _ (by rw [cI,if_neg hk2,if_pos hk3])⟩ (by dsimp only;omega)
       refine aE [(1,some 1)] ?_ ?_
       and_intros
       all_goals first|exact aw|skip
       rw [List.length_dropLast];omega
      ·have e3:((s.ops.getD i default).kind == 3)=false:=by simpa using hk3
       simp only [e3,St.ite_f]
       refine au (i+1,l,m,g) ?_ ⟨by omega,by dsimp only;omega,hm,hg,hn _ (by rw [cI,if_neg hk2,if_neg hk3])⟩ (by dsimp only;omega)
       refine aE [(1,some 1)] ?_ ?_
       and_intros
       all_goals first|exact aw|skip
   ·simp (maxSteps:=1000000) (disch:=omega) only [go_sem,dU,eE]
    rw [if_pos hm]
    exact ⟨lq,lq,wQ hg⟩
   ·trivial
  ·have hi2:i=s.ops.length:=by omega
   (try rw [jh,if_pos (by assumption)]);rw [← hgo,hi2,List.drop_length,fR,if_pos (by omega)]
  ·have hi2:i=s.ops.length:=by omega
   (try rw [jh,if_pos (by assumption)]);rw [← hgo,hi2,List.drop_length,fR,if_neg (by omega)]
end Go.Proofs.YtcbifofjjpfbcaaGreatDoor
