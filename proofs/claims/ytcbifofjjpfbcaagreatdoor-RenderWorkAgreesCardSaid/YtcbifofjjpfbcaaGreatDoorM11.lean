/- Part of the proof: F16. -/
import Derived.Test.YtcbifofjjpfbcaaGreatDoorM10
set_option linter.unusedSimpArgs false
set_option linter.unusedVariables false
set_option maxHeartbeats 4000000
set_option maxRecDepth 16000
namespace Go.Proofs.YtcbifofjjpfbcaaGreatDoor
open Go Go.SL
open Go.RowKit (wrap64)
def bA (b:Int):Int:=if b=8 then 255 else if b=16 then 65535 else 0
def gX (l:List Op):Bool:=l.isEmpty || ((l.getD (l.length - 1) default).isolated && !(l.getD (l.length - 1) default).knockout)
def fC (b:Int) (n:Nat) (o:Op) (l:List Op):Int :=
 if ¬ (1≤o.kind∧o.kind≤3) then 9
 else if fc o=false then 10
 else if o.kind=3∧l.length=0 then 18
 else if o.kind=3 then 0
 else if o.kind=1∧(o.image<0∨n≤o.image)∨o.mask<0∨n<o.mask then 11
 else if bJ 1048576 [o.x,o.y,o.maskX,o.maskY]=false then 12
 else if bA b<o.opacity then 13
 else if jj o.operator=false then 14
 else if jj o.mode=false then 15
 else if o.operator≠4∧gX l=false then 16
 else if o.kind=2∧64≤l.length then 17 else 0
def fW (s:Script) (i:Int) (l:List Op):Int:=if i<0∨s.ops.length≤i then 21 else fC s.bits s.images.length (s.ops.getD i.toNat default) l
theorem CK {o:Int}:(yo o).toList=(ByteArray.mk #[]).toList↔jj o=false:=by
 obtain ⟨_,_,_,_,h⟩:=nA o
 rw [← beq_iff_eq,h,jj,Bool.not_eq_true',decide_eq_false_iff_not]
theorem AL {o:Int}:(yR o).toList=(ByteArray.mk #[]).toList↔jj o=false:=by
 rw [← beq_iff_eq,ub];simp
theorem vV (l:List Op) (hl:l.length≤4611686018427387904):aF Sg 154 [.c (.p (qB l))] (fun x=>x = .b (B (gX l))):=zb l hl
theorem JS (s:Script) (i:Int) (l:List Op) (hs:ScriptLen s) (hl:l.length≤4611686018427387904):aF Sg 111 [ag (aL s),I i, .c (.p (qB l))] (fun x=>x = .b (I (fW s i l))):=by
 obtain ⟨h1,h2,h3⟩:=hs
 refine aI Tryz.func111 [.tmp 6] ?_
 repeat' (first|refine an ?_|((first|refine aj (fun K hK => ?_)|refine ae (fv _) ?_|refine ae (Bs _) ?_);and_intros;all_goals first|(refine hK _ ?_;clear hK K)|try exact aa)|((first|apply aC|apply ay);(case hf=>rfl);(case hc=>exact aS);(all_goals first|(intro hb;(try simp only [bZ] at hb))|skip))|exact ao|(refine aH (fun hb => ?_) (fun hb => ?_);all_goals try exact ax)|(refine ai ?_;(try clear hB KB);(try clear hK K)))
 iterate 6
  ·refine Cj ?_
   simp only [fW,fC]
   generalize s.ops.getD i.toNat default=o at *
   repeat (first|(with_reducible rfl)|(refine Eq.symm (Eq.trans (if_pos ?_) (Eq.symm ?_));focus (first|(assumption;done)|omega|(simp [*];done)))|(refine Eq.symm (Eq.trans (if_neg ?_) (Eq.symm ?_));focus (first|(assumption;done)|omega|(simp [*];done)))|(refine Eq.symm (Eq.trans (if_neg ?_) (Eq.symm ?_));focus (grind;done))|(refine Eq.symm (Eq.trans (if_pos ?_) (Eq.symm ?_));focus (grind;done)))
 have ho:fW s i l=fC s.bits s.images.length (s.ops.getD i.toNat default) l:=by rw [fW,if_neg (by omega)]
 generalize s.ops.getD i.toNat default=o at *
 refine fk ?_ ?_ (by simp (maxSteps:=999999)(disch:=omega) only [go_sem]) ?_ (xo [o.x,o.y,o.maskX,o.maskY] (by simp))
 try simp (maxSteps:=999999)(disch:=omega) only [go_sem]
 try (refine hK _ ?_;clear hK K)
 ·repeat' (first|refine an ?_|((first|refine aj (fun K hK => ?_)|refine ae (AU _) ?_|refine ae (ue _) ?_|refine aq (fun hg=>vV _ (by omega)) ?_);and_intros;all_goals first|(refine hK _ ?_;clear hK K)|try exact aa)|(refine aH (fun hb => ?_) (fun hb => ?_);all_goals try exact ax)|(refine ai ?_;(try clear hB KB);(try clear hK K)))
  all_goals
   refine Cj ?_
   have hmx:bA s.bits=if s.bits=8 then 255 else if s.bits=16 then 65535 else 0:=rfl
   rw [ho]
   simp only [fC]
   try simp only [CK,AL,Bool.not_eq_false] at *
   repeat (first|(with_reducible rfl)|(refine Eq.symm (Eq.trans (if_pos ?_) (Eq.symm ?_));focus (first|(assumption;done)|omega|(simp [*];done)))|(refine Eq.symm (Eq.trans (if_neg ?_) (Eq.symm ?_));focus (first|(assumption;done)|omega|(simp [*];done)))|(refine Eq.symm (Eq.trans (if_neg ?_) (Eq.symm ?_));focus (grind;done))|(refine Eq.symm (Eq.trans (if_pos ?_) (Eq.symm ?_));focus (grind;done)))
 ·simp (maxSteps:=1000000) (disch:=omega) only [go_sem,dU,eE]
  refine mA (gj fun i hi j hj => ?_)
  have h1:i=0∨i=1∨i=2∨i=3:=by omega
  have h2:j=0:=by omega
  subst h2
  rcases h1 with rfl|rfl|rfl|rfl <;> rfl
 ·trivial
end Go.Proofs.YtcbifofjjpfbcaaGreatDoor
