/- Part of the proof: F16. -/
import Derived.Test.YtmfblbbemekkoaaGreatDoorM11
set_option linter.unusedSimpArgs false
set_option linter.unusedVariables false
set_option maxHeartbeats 4000000
set_option maxRecDepth 16000
namespace Go.Proofs.YtmfblbbemekkoaaGreatDoor
open Go Go.SL
open Go.RowKit (wrap64)
def bo (b:Int):Int:=if b=8 then 255 else if b=16 then 65535 else 0
def eC (l:List Op):Bool:=l.isEmpty || ((l.getD (l.length - 1) default).isolated && !(l.getD (l.length - 1) default).knockout)
def ff (b:Int) (n:Nat) (o:Op) (l:List Op):Int :=
 if ¬ (1≤o.kind∧o.kind≤3) then 9
 else if eV o=false then 10
 else if o.kind=3∧l.length=0 then 18
 else if o.kind=3 then 0
 else if o.kind=1∧(o.image<0∨n≤o.image)∨o.mask<0∨n<o.mask then 11
 else if bt 1048576 [o.x,o.y,o.maskX,o.maskY]=false then 12
 else if bo b<o.opacity then 13
 else if fV o.operator=false then 14
 else if fV o.mode=false then 15
 else if o.operator≠4∧eC l=false then 16
 else if o.kind=2∧64≤l.length then 17 else 0
def fY (s:Script) (i:Int) (l:List Op):Int:=if i<0∨s.ops.length≤i then 21 else ff s.bits s.images.length (s.ops.getD i.toNat default) l
theorem yC {l:List Op}:eC l=false↔0<l.length∧((l.getD (l.length - 1) default).knockout=true∨(l.getD (l.length - 1) default).isolated=false):=by
 cases l with
 | nil=>simp [eC]
 | cons a r =>
  simp only [eC,List.isEmpty_cons,Bool.false_or,Bool.and_eq_false_imp,Bool.not_eq_false',List.length_cons,Nat.zero_lt_succ,true_and]
  generalize ((a :: r).getD (r.length+1 - 1) default).isolated=x
  generalize ((a :: r).getD (r.length+1 - 1) default).knockout=y
  cases x <;> cases y <;> decide
theorem HU {k a b c d:Int}:bt k [a,b,c,d]=false↔¬ (-k≤a∧a≤k ∧ -k≤b∧b≤k ∧ -k≤c∧c≤k ∧ -k≤d∧d≤k):=by
 rw [← Bool.not_eq_true]
 simp only [bt,List.all_cons,List.all_nil,Bool.and_true,Bool.and_eq_true,decide_eq_true_eq]
 omega
theorem BR {o:Int}:(Av o).toList=(ByteArray.mk #[]).toList↔fV o=false:=by
 obtain ⟨_,_,_,_,h⟩:=qQ o
 rw [← beq_iff_eq,h,fV,Bool.not_eq_true',decide_eq_false_iff_not]
theorem yW {o:Int}:(xc o).toList=(ByteArray.mk #[]).toList↔fV o=false:=by
 rw [← beq_iff_eq,tM];simp
theorem vo (l:List Op) (hl:l.length≤4611686018427387904):aC Sg 188 [.c (.p (ma l))] (fun x=>x = .b (B (eC l))):=xr l hl
theorem FG (s:Script) (i:Int) (l:List Op) (hs:ScriptLen s) (hl:l.length≤4611686018427387904):aC Sg 163 [ag (aE s),I i, .c (.p (ma l))] (fun x=>x = .b (I (fY s i l))):=by
 obtain ⟨h1,h2,h3⟩:=hs
 refine aA Tryz.func163 [.tmp 6] ?_
 repeat' (first|refine an ?_|((first|refine ai (fun K hK => ?_)|refine ae (fC _) ?_|refine ae (yN _) ?_);and_intros;(all_goals first|(refine hK _ ?_;clear hK K)|exact aa|skip))|((first|apply fo|apply gK);(case hf=>rfl);(case hc=>exact eH);(all_goals first|(intro hb;(try simp only [ov] at hb))|skip))|exact bB|(refine aW (fun hb => ?_) (fun hb => ?_);all_goals try exact aG)|(refine ak ?_;(try clear hB KB);(try clear hK K)))
 iterate 6
  ·refine By ?_
   simp only [fY,ff]
   generalize s.ops.getD i.toNat default=o at *
   repeat (first|(with_reducible rfl)|(refine Eq.symm (Eq.trans (if_pos ?_) (Eq.symm ?_));focus (first|(assumption;done)|omega|(simp [*];done)))|(refine Eq.symm (Eq.trans (if_neg ?_) (Eq.symm ?_));focus (first|(assumption;done)|omega|(simp [*];done)))|(refine Eq.symm (Eq.trans (if_neg ?_) (Eq.symm ?_));focus (grind;done))|(refine Eq.symm (Eq.trans (if_pos ?_) (Eq.symm ?_));focus (grind;done)))
 have ho:fY s i l=ff s.bits s.images.length (s.ops.getD i.toNat default) l:=by rw [fY,if_neg (by omega)]
 generalize s.ops.getD i.toNat default=o at *
 refine ik ?_ ?_ (by simp (maxSteps:=999999)(disch:=omega) only [go_sem]) ?_ (vN [o.x,o.y,o.maskX,o.maskY] (by simp))
 try simp (maxSteps:=999999)(disch:=omega) only [go_sem]
 try (refine hK _ ?_;clear hK K)
 ·repeat' (first|refine an ?_|((first|refine ai (fun K hK => ?_)|refine ae (As _) ?_|refine ae (tc _) ?_|refine aD (fun hg=>vo _ (by omega)) ?_);and_intros;(all_goals first|(refine hK _ ?_;clear hK K)|exact aa|skip))|(refine aW (fun hb => ?_) (fun hb => ?_);all_goals try exact aG)|(refine ak ?_;(try clear hB KB);(try clear hK K)))
  all_goals
   refine By ?_
   have hmx:bo s.bits=if s.bits=8 then 255 else if s.bits=16 then 65535 else 0:=rfl
   rw [ho]
   simp only [ff]
   try simp only [BR,yW,Bool.not_eq_false] at *
   repeat (first|(with_reducible rfl)|(refine Eq.symm (Eq.trans (if_pos ?_) (Eq.symm ?_));focus (first|(assumption;done)|omega|(simp [*];done)))|(refine Eq.symm (Eq.trans (if_neg ?_) (Eq.symm ?_));focus (first|(assumption;done)|omega|(simp [*];done)))|(refine Eq.symm (Eq.trans (if_neg ?_) (Eq.symm ?_));focus (grind;done))|(refine Eq.symm (Eq.trans (if_pos ?_) (Eq.symm ?_));focus (grind;done)))
 ·simp (maxSteps:=1000000) (disch:=omega) only [go_sem,fA,gn]
  refine uP (lA fun i hi j hj => ?_)
  have h1:i=0∨i=1∨i=2∨i=3:=by omega
  have h2:j=0:=by omega
  subst h2
  rcases h1 with rfl|rfl|rfl|rfl <;> rfl
 ·trivial
theorem xJ (s:Script) (i:Int) (l:List Op) (hs:ScriptLen s) (hl:l.length≤4611686018427387904):aC Sg 158 [ag (aE s),I i, .c (.p (ma l))] (fun x=>x = .b (I (fY s i l))):=by
 obtain ⟨h1,h2,h3⟩:=hs
 refine aA Tryz.func158 [.tmp 6] ?_
 repeat' (first|refine an ?_|((first|refine ai (fun K hK => ?_)|refine ae (fy _) ?_|refine ae (AS _ (by omega) (by omega)) ?_|refine ae (nu _) ?_|refine ae (ki _) ?_|refine ae (sJ _) ?_|refine aD (fun hg=>sJ _) ?_);and_intros;(all_goals first|(refine hK _ ?_;clear hK K)|exact aa|skip))|(refine aW (fun hb => ?_) (fun hb => ?_);all_goals try exact aG)|(refine ak ?_;(try clear hB KB);(try clear hK K)))
 all_goals
  refine By ?_
  have hmx:bo s.bits=if s.bits=8 then 255 else if s.bits=16 then 65535 else 0:=rfl
  have e:((l.length:Int) - 1).toNat=l.length - 1:=by omega
  simp only [fY,ff,HU,yC]
  try simp only [e] at *
  generalize s.ops.getD i.toNat default=o at *
  repeat (first|(with_reducible rfl)|(refine Eq.symm (Eq.trans (if_pos ?_) (Eq.symm ?_));focus (first|(assumption;done)|omega|(simp [*];done)))|(refine Eq.symm (Eq.trans (if_neg ?_) (Eq.symm ?_));focus (first|(assumption;done)|omega|(simp [*];done)))|(refine Eq.symm (Eq.trans (if_neg ?_) (Eq.symm ?_));focus (grind;done))|(refine Eq.symm (Eq.trans (if_pos ?_) (Eq.symm ?_));focus (grind;done)))
end Go.Proofs.YtmfblbbemekkoaaGreatDoor
