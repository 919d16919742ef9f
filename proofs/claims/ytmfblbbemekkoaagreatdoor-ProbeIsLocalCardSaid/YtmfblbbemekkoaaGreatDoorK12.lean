/- Part of the proof: F16. -/
import Derived.Test.YtmfblbbemekkoaaGreatDoorK11
set_option linter.unusedSimpArgs false
set_option linter.unusedVariables false
set_option maxHeartbeats 4000000
set_option maxRecDepth 16000
namespace Go.Proofs.YtmfblbbemekkoaaGreatDoor
open Go Go.SL
open Go.RowKit (wrap64)
def bz (b:Int):Int:=if b=8 then 255 else if b=16 then 65535 else 0
def gT (l:List Op):Bool:=l.isEmpty || ((l.getD (l.length - 1) default).isolated && !(l.getD (l.length - 1) default).knockout)
def ej (b:Int) (n:Nat) (o:Op) (l:List Op):Int :=
 if ¬ (1≤o.kind∧o.kind≤3) then 9
 else if fH o=false then 10
 else if o.kind=3∧l.length=0 then 18
 else if o.kind=3 then 0
 else if o.kind=1∧(o.image<0∨n≤o.image)∨o.mask<0∨n<o.mask then 11
 else if bC 1048576 [o.x,o.y,o.maskX,o.maskY]=false then 12
 else if bz b<o.opacity then 13
 else if jh o.operator=false then 14
 else if jh o.mode=false then 15
 else if o.operator≠4∧gT l=false then 16
 else if o.kind=2∧64≤l.length then 17 else 0
def ke (s:Script) (i:Int) (l:List Op):Int:=if i<0∨s.ops.length≤i then 21 else ej s.bits s.images.length (s.ops.getD i.toNat default) l
theorem yM {o:Int}:(Cd o).toList=(ByteArray.mk #[]).toList↔jh o=false:=by
 obtain ⟨_,_,_,_,h⟩:=tk o
 rw [← beq_iff_eq,h,jh,Bool.not_eq_true',decide_eq_false_iff_not]
theorem wm {o:Int}:(zo o).toList=(ByteArray.mk #[]).toList↔jh o=false:=by
 rw [← beq_iff_eq,yo];simp
theorem sV (l:List Op) (hl:l.length≤4611686018427387904):aD Sg 188 [.c (.p (kq l))] (fun x=>x = .b (B (gT l))):=vL l hl
theorem CM (s:Script) (i:Int) (l:List Op) (hs:ScriptLen s) (hl:l.length≤4611686018427387904):aD Sg 163 [ag (aM s),I i, .c (.p (kq l))] (fun x=>x = .b (I (ke s i l))):=by
 obtain ⟨h1,h2,h3⟩:=hs
 refine aC Tryz.func163 [.tmp 6] ?_
 repeat' (first|refine ak ?_|((first|refine ai (fun K hK => ?_)|refine ae (dN _) ?_|refine ae (xi _) ?_);and_intros;all_goals first|(refine hK _ ?_;clear hK K)|try exact aa)|((first|apply eE|apply kn);(case hf=>rfl);(case hc=>exact eC);(all_goals first|(intro hb;(try simp only [qK] at hb))|skip))|exact bO|(refine bc (fun hb => ?_) (fun hb => ?_);all_goals try exact aJ)|(refine an ?_;(try clear hB KB);(try clear hK K)))
 iterate 6
  ·refine EK ?_
   simp only [ke,ej]
   generalize s.ops.getD i.toNat default=o at *
   repeat (first|(with_reducible rfl)|(refine Eq.symm (Eq.trans (if_pos ?_) (Eq.symm ?_));focus (first|(assumption;done)|omega|(simp [*];done)))|(refine Eq.symm (Eq.trans (if_neg ?_) (Eq.symm ?_));focus (first|(assumption;done)|omega|(simp [*];done)))|(refine Eq.symm (Eq.trans (if_neg ?_) (Eq.symm ?_));focus (grind;done))|(refine Eq.symm (Eq.trans (if_pos ?_) (Eq.symm ?_));focus (grind;done)))
 have ho:ke s i l=ej s.bits s.images.length (s.ops.getD i.toNat default) l:=by rw [ke,if_neg (by omega)]
 generalize s.ops.getD i.toNat default=o at *
 refine jM ?_ ?_ (by simp (maxSteps:=999999)(disch:=omega) only [go_sem]) ?_ (tX [o.x,o.y,o.maskX,o.maskY] (by simp))
 try simp (maxSteps:=999999)(disch:=omega) only [go_sem]
 try (refine hK _ ?_;clear hK K)
 ·repeat' (first|refine ak ?_|((first|refine ai (fun K hK => ?_)|refine ae (wH _) ?_|refine ae (rm _) ?_|refine aE (fun hg=>sV _ (by omega)) ?_);and_intros;all_goals first|(refine hK _ ?_;clear hK K)|try exact aa)|(refine bc (fun hb => ?_) (fun hb => ?_);all_goals try exact aJ)|(refine an ?_;(try clear hB KB);(try clear hK K)))
  all_goals
   refine EK ?_
   have hmx:bz s.bits=if s.bits=8 then 255 else if s.bits=16 then 65535 else 0:=rfl
   rw [ho]
   simp only [ej]
   try simp only [yM,wm,Bool.not_eq_false] at *
   repeat (first|(with_reducible rfl)|(refine Eq.symm (Eq.trans (if_pos ?_) (Eq.symm ?_));focus (first|(assumption;done)|omega|(simp [*];done)))|(refine Eq.symm (Eq.trans (if_neg ?_) (Eq.symm ?_));focus (first|(assumption;done)|omega|(simp [*];done)))|(refine Eq.symm (Eq.trans (if_neg ?_) (Eq.symm ?_));focus (grind;done))|(refine Eq.symm (Eq.trans (if_pos ?_) (Eq.symm ?_));focus (grind;done)))
 ·simp (maxSteps:=1000000) (disch:=omega) only [go_sem,fJ,iq]
  refine ql (mC fun i hi j hj => ?_)
  have h1:i=0∨i=1∨i=2∨i=3:=by omega
  have h2:j=0:=by omega
  subst h2
  rcases h1 with rfl|rfl|rfl|rfl <;> rfl
 ·trivial
end Go.Proofs.YtmfblbbemekkoaaGreatDoor
