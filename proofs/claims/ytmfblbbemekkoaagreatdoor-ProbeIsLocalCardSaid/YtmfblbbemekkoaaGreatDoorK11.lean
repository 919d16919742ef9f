/- Part of the proof: F15. -/
import Derived.Test.YtmfblbbemekkoaaGreatDoorK10
set_option linter.unusedSimpArgs false
set_option linter.unusedVariables false
set_option maxHeartbeats 2000000
set_option maxRecDepth 16000
namespace Go.Proofs.YtmfblbbemekkoaaGreatDoor
open Go Go.SL
open Go.RowKit (wrap64)
def bS (s:Script):Int :=
 if ¬ (s.bits=8∨s.bits=16) then 1
 else if bM s.canvas=true∨16777216<iQ s.canvas∨bC 1048576 [s.canvas.x0,s.canvas.y0]=false then 2
 else if bQ s.canvas s.tileW s.tileH=false then 3
 else if gR s.order (dv s.canvas s.tileW s.tileH * dz s.canvas s.tileW s.tileH)=false then 4
 else if 64<s.images.length∨4096<s.ops.length then 5 else 0
theorem jL (r:Rect) (w h:Int):IntKind.i64.wrap (dv r w h * dz r w h)=dv r w h * dz r w h∧0≤dv r w h * dz r w h:=by
 unfold dv dz
 by_cases ht:bQ r w h=true
 ·rw [if_pos ht,if_pos ht]
  simp only [bQ,Bool.and_eq_true,Bool.not_eq_true',decide_eq_true_eq] at ht
  obtain ⟨he,h1,h2,h3,h4⟩:=ht
  have hb:=dR (r:=r) (by simp [he])
  have b1:0≤(r.x1 - r.x0 - 1) / w:=Int.ediv_nonneg (by omega) (by omega)
  have b2:(r.x1 - r.x0 - 1) / w≤r.x1 - r.x0 - 1:=Int.ediv_le_self _ (by omega)
  have c1:0≤(r.y1 - r.y0 - 1) / h:=Int.ediv_nonneg (by omega) (by omega)
  have c2:(r.y1 - r.y0 - 1) / h≤r.y1 - r.y0 - 1:=Int.ediv_le_self _ (by omega)
  have hm:((r.x1 - r.x0 - 1) / w+1) * ((r.y1 - r.y0 - 1) / h+1)≤2147483648 * 2147483648:=Int.mul_le_mul (by omega) (by omega) (by omega) (by omega)
  have hp:0≤((r.x1 - r.x0 - 1) / w+1) * ((r.y1 - r.y0 - 1) / h+1):=Int.mul_nonneg (by omega) (by omega)
  exact ⟨ef (by omega) (by omega),hp⟩
 ·rw [if_neg ht,if_neg ht];decide
theorem Ed {s:Script} (h1:s.bits=8∨s.bits=16) (h:(bM s.canvas=true∨16777216<iQ s.canvas)∨bC 1048576 [s.canvas.x0,s.canvas.y0]=false):bS s=2:=by
 rw [bS,if_neg (fun q=>q h1),if_pos (by rw [← or_assoc];exact h)]
def nC (s:Script):Prop:=(s.bits=8∨s.bits=16)∧(bM s.canvas=false∧iQ s.canvas≤16777216)∧bC 1048576 [s.canvas.x0,s.canvas.y0]=true
theorem jR {s:Script} (h:nC s):¬ (bM s.canvas=true∨16777216<iQ s.canvas∨bC 1048576 [s.canvas.x0,s.canvas.y0]=false):=by
 obtain ⟨_,⟨h1,h2⟩,h3⟩:=h
 rw [h1,h3]
 simp only [Bool.false_eq_true,false_or,Bool.true_eq_false,or_false]
 omega
theorem DZ {s:Script} (h:nC s) (h3:bQ s.canvas s.tileW s.tileH=false):bS s=3:=by
 rw [bS,if_neg (fun q=>q h.1),if_neg (jR h),if_pos h3]
theorem CJ {s:Script} (h:nC s) (h3:bQ s.canvas s.tileW s.tileH=true) (h4:gR s.order (IntKind.i64.wrap (dv s.canvas s.tileW s.tileH * dz s.canvas s.tileW s.tileH))=false):bS s=4:=by
 rw [(jL _ _ _).1] at h4
 rw [bS,if_neg (fun q=>q h.1),if_neg (jR h),if_neg (by rw [h3];simp),if_pos h4]
theorem uN {s:Script} (h:nC s) (h3:bQ s.canvas s.tileW s.tileH=true) (h4:gR s.order (IntKind.i64.wrap (dv s.canvas s.tileW s.tileH * dz s.canvas s.tileW s.tileH))=true):bS s=if 64<s.images.length∨4096<s.ops.length then 5 else 0:=by
 rw [(jL _ _ _).1] at h4
 rw [bS,if_neg (fun q=>q h.1),if_neg (jR h),if_neg (by rw [h3];simp),if_neg (by rw [h4];simp)]
structure ScriptLen (s:Script):Prop where
 order:s.order.length≤4611686018427387904
 images:s.images.length≤4611686018427387904
 ops:s.ops.length≤4611686018427387904
theorem rh (s:Script) (hs:ScriptLen s):aD Sg 121 [ag (aM s)] (fun x=>x = .b (I (bS s))):=by
 obtain ⟨h1,h2,h3⟩:=hs
 refine aC Tryz.func121 [.tmp 2] ?_
 repeat' (first|refine ak ?_|((with_reducible refine aT (id:=5) (fun K hW => ?_));(try simp (maxSteps:=999999)(disch:=omega) only [go_sem]);and_intros;all_goals first|(refine hK _ ?_;clear hK K)|try exact aa)|((first|refine ai (fun K hK => ?_)|refine ae (dN _) ?_|refine ae (iH _) ?_|refine aE (fun hg=>yL _) ?_);and_intros;all_goals first|(refine hK _ ?_;clear hK K)|try exact aa)|(refine bc (fun hb => ?_) (fun hb => ?_);all_goals try exact aJ)|(refine an ?_;(try clear hB KB);(try clear hK K)))
 ·rw [bS,if_pos hb]
 ·refine BA (.c .any) ?_ ?_ trivial ?_ (fun hg => ?_) (fun hg => ?_)
  ·rfl
  ·rfl
  ·(first|(simp (maxSteps:=999999)(disch:=omega) only [go_sem];done)|(simp (maxSteps:=999999)(disch:=omega) only [go_sem];rfl))
  ·have hg2:(bM s.canvas || decide (iQ s.canvas>16777216))=false:=by simpa using hg
   simp (maxSteps:=999999)(disch:=omega) only [go_sem]
   and_intros
   all_goals first|(refine hK _ ?_;clear hK K)|exact aa|skip
   refine yH (args':=[.c (.p (eT [s.canvas.x0,s.canvas.y0]))]) hg ?_ (tX _ (by simp)) ?_ (by trivial) trivial ?_
   ·simp (maxSteps:=999999)(disch:=omega) only [go_sem]
   ·simp (maxSteps:=1000000) (disch:=omega) only [go_sem,fJ,iq]
    refine ql (mC fun i hi j hj => ?_)
    have h1:i=0∨i=1:=by omega
    have h2:j=0:=by omega
    subst h2
    rcases h1 with rfl|rfl <;> rfl
   simp (maxSteps:=999999)(disch:=omega) only [go_sem]
   and_intros
   all_goals first|(refine hK _ ?_;clear hK K)|exact aa|skip
   refine hW _ (aZ [(1, .b (.c (.ptr 0 0))),(5, .b (.c (.ptr 1 0))),(36, .b (B (bM s.canvas || decide (iQ s.canvas>16777216) || !bC 1048576 [s.canvas.x0,s.canvas.y0])))] [(0, .fix ((aM s).map CV.p)),(1, .fix ((fk s.canvas).map CV.p))] 2) ?_ ?_
   ·clear hW
    refine ay [(1,some 1)] ?_ ?_
    and_intros
    all_goals first|exact ao|skip
   ·clear hW
    repeat' (first|refine ak ?_|((first|refine ai (fun K hK => ?_)|refine ae (rN _ _ _) ?_|refine ae (kE _ _ (by omega)) ?_);and_intros;all_goals first|(refine hK _ ?_;clear hK K)|try exact aa)|(refine bc (fun hb => ?_) (fun hb => ?_);all_goals try exact aJ)|(refine an ?_;(try clear hB KB);(try clear hK K)))
    ·rw [Ed ‹_› hb]
    ·rename_i q
     rw [DZ ⟨‹_›,q⟩ hb]
    ·rename_i q1 q2
     rw [CJ ⟨‹_›,q1⟩ q2 hb]
    ·rename_i q1 q2 q3
     rw [uN ⟨‹_›,q1⟩ q2 q3,if_pos (by omega)]
    ·rename_i q1 q2 q3
     rw [uN ⟨‹_›,q1⟩ q2 q3,if_neg (by omega)]
  ·have hg2:(bM s.canvas || decide (iQ s.canvas>16777216))=true:=by
    cases h:(bM s.canvas || decide (iQ s.canvas>16777216)) with
    | true=>rfl
    | false=>rw [h] at hg;cases hg
   simp (maxSteps:=999999)(disch:=omega) only [go_sem]
   and_intros
   all_goals first|(refine hK _ ?_;clear hK K)|exact aa|skip
   refine BE (B (bC 1048576 [s.canvas.x0,s.canvas.y0])) hg trivial ?_
   simp (maxSteps:=999999)(disch:=omega) only [go_sem]
   and_intros
   all_goals first|(refine hK _ ?_;clear hK K)|exact aa|skip
   refine hW _ (aZ [(1, .b (.c (.ptr 0 0))),(5, .b (.c (.ptr 1 0))),(36, .b (B (bM s.canvas || decide (iQ s.canvas>16777216) || !bC 1048576 [s.canvas.x0,s.canvas.y0])))] [(0, .fix ((aM s).map CV.p)),(1, .fix ((fk s.canvas).map CV.p))] 2) ?_ ?_
   ·clear hW
    refine ay [(1,some 1)] ?_ ?_
    and_intros
    all_goals first|exact ao|skip
   ·clear hW
    repeat' (first|refine ak ?_|((first|refine ai (fun K hK => ?_)|refine ae (rN _ _ _) ?_|refine ae (kE _ _ (by omega)) ?_);and_intros;all_goals first|(refine hK _ ?_;clear hK K)|try exact aa)|(refine bc (fun hb => ?_) (fun hb => ?_);all_goals try exact aJ)|(refine an ?_;(try clear hB KB);(try clear hK K)))
    ·rw [Ed ‹_› hb]
    ·rename_i q
     rw [DZ ⟨‹_›,q⟩ hb]
    ·rename_i q1 q2
     rw [CJ ⟨‹_›,q1⟩ q2 hb]
    ·rename_i q1 q2 q3
     rw [uN ⟨‹_›,q1⟩ q2 q3,if_pos (by omega)]
    ·rename_i q1 q2 q3
     rw [uN ⟨‹_›,q1⟩ q2 q3,if_neg (by omega)]
end Go.Proofs.YtmfblbbemekkoaaGreatDoor
