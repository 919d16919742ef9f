/- Part of the proof: E9. -/
import Derived.Test.YtdjmpacladhijaaGreatDoorM48
set_option linter.unusedSimpArgs false
set_option linter.unusedVariables false
set_option maxHeartbeats 2000000
set_option maxRecDepth 16000
namespace Go.Proofs.YtdjmpacladhijaaGreatDoor
open Go Go.SL
open Go.RowKit (wrap64)
attribute [local go_sem] Int.toNat_natCast vI
theorem ze (l:List Op):eX (fun _=>1) l=l.length:=by
 induction l with
 | nil=>rfl
 | cons a l ih=>rw [je,ih,List.length_cons,Nat.add_comm]
theorem EY {s:Script} (W:Wf s.ops) {r:Rx} (h:uN s r.1 r.2=true):(rf s r.1.toNat r.2.toNat).length≤s.ops.length:=by
 obtain ⟨g1,g2,g3,g4,g5⟩:=rm h;rw [← ze,← ze s.ops];by_cases h4:r.1≤4
 ·rw [rf,if_pos (by omega)];have:=MH (fun _=>1) W g3;omega
 by_cases h9:r.1=9
 ·have e:r.1.toNat=9:=by omega
  rw [rf,if_neg (by omega),if_pos e];rw [e] at g5;have hu:vg s r.2.toNat=true:=g5;simp only [vg,Bool.and_eq_true,decide_eq_true_eq] at hu;obtain ⟨he,hk3⟩:=rl W g3 hu.1.1.1 (by rw [hu.1.2];exact Nat.le_refl _);have hl:=cB W g3;have:=MG (fun _=>1) W (i:=r.2.toNat) (by omega) hu.1.1.1 he;omega
 ·have:=(Uu h (by omega) (by omega)).2;rw [ze,ze];omega
def nQ (s:Script):List Op × List Rx:=jA (eX fH s.ops+1) s
theorem UZ {s:Script} (hs:ScriptLen s) {l:List Op} (h:l.length≤1000000):ScriptLen (cl s l):=⟨hs.order,hs.images,by show l.length≤_;omega⟩
theorem Rp:∀ l:List Op,eX fH l≤5 * l.length
 | []=>Nat.le_refl _
 | o :: l=>by
  have:=Rp l;have h:fH o≤5:=by
   unfold fH;split <;> split <;> split <;> split <;> split <;> omega
  rw [je,List.length_cons];omega
def Bo:Bx := .fix [.p (PI 0), .p (PI 0), .p (PI 0), .p (PI 0), .p (PI 0), .p (PI 0), .p (PI 0), .p (.val (.slice none 0 0)), .p (.val (.slice none 0 0)), .p (.val (.slice none 0 0))]
attribute [local go_sem] Bo
theorem Rd (s : Script) (hs : ScriptLen s) (H : Sml s) (ho : s.ops.length ≤ 1000000) :
  aB Sg 73 [ag (ay s)] (fun x=>x = .tup [ag (ay (cl s (nQ s).1)), .c (.p (.lst 2 (nQ s).2.length (aQ vI (nQ s).2)))]):=by
 have h1:=CA s.ops.length (aQ cC s.ops) (by omega);have h2:=LY s s.ops H (by omega);have hwb:=Rp s.ops;refine bo ?_;refine az Tryz.func73 [.cell 2 39, .tmp 3] ?_;repeat' (first|((with_reducible refine aX (id:=1) (fun K hW => ?_));(try simp (maxSteps:=999999)(disch:=omega) only [go_sem]);and_intros;all_goals first|(refine hK _ ?_;clear hK K)|try exact ai)|(refine an (fun K hK => ?_);and_intros;all_goals first|(refine hK _ ?_;clear hK K)|try exact ai))
 refine hW _ (aP [(1, .b (.c (.ptr 0 0))),(2, .b (.c (.ptr 1 0))),(4, .b (.c (.p (.val (.slice none 0 0)))))] [(0, .fix ((ay s).map CV.p)),(1,Bo)] 2) ?_ ?_
 ·refine ar [(1,some 1)] ?_ ?_;and_intros;all_goals first|exact ak|skip
 clear hW;refine cM (id:=2) (.br 1 (.br 2 (.br 0 (.br 3 (.br 4 (.br 5 (.br 6 .leaf .nil) .nil) (.br 5 (.br 4 (.br 6 .leaf .nil) .nil) .nil)) (.br 5 (.br 3 (.br 4 (.br 6 .leaf .nil) .nil) .nil) .nil)) (.br 3 (.br 0 (.br 4 (.br 5 (.br 6 .leaf .nil) .nil) (.br 5 (.br 4 (.br 6 .leaf .nil) .nil) .nil)) .nil) (.br 5 (.br 0 (.br 3 (.br 4 (.br 6 .leaf .nil) .nil) .nil) (.br 3 (.br 0 (.br 4 (.br 6 .leaf .nil) .nil) .nil) .nil)) .nil))) .nil) .nil) (by decide +kernel) (by (first|(refine And.intro (fun iw hiw => ?_) ?_;(focus ((try simp (maxSteps:=999999)(disch:=omega) only [go_sem] at hiw ⊢);(repeat (refine Eq.trans (if_neg ?_) ?_;(focus omega)));(first|exact hw iw (by omega)|rfl)));(focus (first|exact Nat.zero_le _|(simp (maxSteps:=999999)(disch:=omega) only [go_sem];done)|(simp (maxSteps:=999999)(disch:=omega) only [go_sem];omega))))|exact IN)) (fun K0 hW => ?_);refine (fun (tl:∀ st,Le st (aP [(2, .b (.c (.ptr 1 0))),(4, .b (.c (.p (.val (.slice none 0 0))))),(5, .b (.c (.ptr 2 0)))] [(1,Bo),(2, .fix ((ay s).map CV.p))] 3)→K0 st) => ?_) (fun st hl=>hW st _ hl ?_)
 ·clear hW;repeat' (first|exact bp|(refine bO (fun K' hK' => ?_) ?_)|(refine aZ (tl _ ?_);clear tl)|((first|refine aa (h1) ?_|refine aa (h2) ?_);(try simp (maxSteps:=999999)(disch:=omega) only [go_sem]);and_intros;(all_goals first|(refine hK' _ ?_;clear hK' K')|trivial|omega|exact Nat.le_of_ble_eq_true rfl|exact ai|skip))|(simp (maxSteps:=999999)(disch:=omega) only [go_sem];and_intros;(all_goals first|(refine hK' _ ?_;clear hK' K')|trivial|omega|exact Nat.le_of_ble_eq_true rfl|exact ai|skip)))
  all_goals
   refine ar [(1,some 1),(2,some 2)] ?_ ?_;and_intros;all_goals first|exact ak|skip
 clear hW;repeat' (refine bL ?_)
 refine aK (X:=Nat × List Op × List Rx) (fun x=>aP [(2, .b (.c (.ptr 1 0))),(4, .b (.c (.own 3 x.2.2.length))),(5, .b (.c (.ptr 2 0)))] [(1,Bo),(2, .fix ((ay (cl s x.2.1)).map CV.p)),(3, .arr 81 2 x.2.2.length (aQ vI x.2.2))] 4)
  (fun x=>eX fH x.2.1<x.1∧x.2.1.length≤1000000∧x.2.2.length+x.1≤5000001∧nQ s=((jA x.1 (cl s x.2.1)).1,x.2.2 ++ (jA x.1 (cl s x.2.1)).2)) (fun x=>x.1) (eX fH s.ops+1,s.ops,[]) ?_ ?_ ?_
 ·exact ⟨Nat.lt_succ_self _,ho,by dsimp only [List.length_nil];omega,rfl⟩
 ·refine ar [(1,some 1),(2,some 2),(3,none)] ?_ ?_;and_intros;all_goals first|exact ak|skip
 ·rintro ⟨f,cur,steps⟩ ⟨i1,i2,i3,i4⟩;dsimp only at i1 i2 i3 i4 ⊢;have hs2:=UZ hs i2;have hf:=Ja (cl s cur) hs2;cases hr:(fc (cl s cur)).head? with
  | none =>
   rw [pV (UH hr)] at hf;rw [vw hr] at i4;repeat' (first|refine bL ?_|((first|refine an (fun K hK => ?_)|refine aa (hf) ?_);and_intros;all_goals first|(refine hK _ ?_;clear hK K)|try exact ai)|(refine aH (fun hb => ?_) (fun hb => ?_);all_goals try exact ax)|(refine bF ?_;(try clear hB KB);(try clear hK K)))
   ·have e:nQ s=(cur,steps):=by rw [i4];exact congrArg (fun q=>(cur,q)) (List.append_nil _)
    rw [e];refine cJ ⟨dG ?_,cD trivial,trivial⟩;simp only [List.map_cons,List.map_nil,bM,cA];and_intros;all_goals first|exact .inl rfl|exact .inl trivial|exact .inr bP|trivial|skip
  | some r =>
   rw [rW hr] at hf;obtain ⟨f,rfl⟩:∃ g,f=g+1:=⟨f - 1,by omega⟩
   rw [vl hr] at i4;have hm:=vF.1 (vX hr).1;have V:=jK hm.1;have hw:=xR (cl s cur) V hs2 r hm.2;have hlt:=ZB V.wf hm.2;have hle:=EY V.wf hm.2;repeat' (first|refine bL ?_|((first|refine an (fun K hK => ?_)|refine aa (hf) ?_|refine aa (hw) ?_);and_intros;all_goals first|(refine hK _ ?_;clear hK K)|try exact ai)|(refine aH (fun hb => ?_) (fun hb => ?_);all_goals try exact ax)|(refine bF ?_;(try clear hB KB);(try clear hK K)))
   ·exact absurd hb (by decide)
   ·exact absurd trivial hb
   rw [dJ,ae];refine ao (f,rf (cl s cur) r.1.toNat r.2.toNat,steps ++ [r]) ?_ ⟨?_, ?_, ?_, ?_⟩ (Nat.lt_succ_self f)
   ·dsimp only;rw [show (steps ++ [r]).length=steps.length+1 from List.length_append];refine ar [(1,some 1),(2,some 2),(3,some 6)] ?_ ?_;and_intros;all_goals first|exact ak|skip
    exact .inr (LF fun j hj=>by
     have hj2:j=0∨j=1:=by omega
     rcases hj2 with rfl|rfl <;> rfl)
   ·show eX fH (rf (cl s cur) r.1.toNat r.2.toNat)<f;have:eX fH (cl s cur).ops=eX fH cur:=rfl;omega
   ·show (rf (cl s cur) r.1.toNat r.2.toNat).length≤1000000;have:(cl s cur).ops.length=cur.length:=rfl;omega
   ·show (steps ++ [r]).length+f≤5000001;rw [List.length_append,List.length_cons,List.length_nil];omega
   ·rw [i4];exact congrArg (fun q=>(_,q)) (List.append_cons steps r _)
theorem nV (s:Script) (hs:ScriptLen s) (H:Sml s) (ho:s.ops.length≤1000000):aB Sg 31 [ag (ay s)] (fun x=>x = .b (ag (ay (cl s (nQ s).1)))):=by
 have h1:=Rd s hs H ho;refine az Tryz.func31 [.cell 2 39] ?_;repeat' (first|((first|refine an (fun K hK => ?_)|refine aa (h1) ?_);and_intros;all_goals first|(refine hK _ ?_;clear hK K)|try exact ai)|(refine bF ?_;(try clear hB KB);(try clear hK K)))
 rfl
theorem TC (s:Script) (hs:ScriptLen s) (H:Sml s) (ho:s.ops.length≤1000000):aB Sg 75 [ag (ay s)] (fun x=>x = .b (.c (.p (.lst 2 (nQ s).2.length (aQ vI (nQ s).2))))):=by
 have h1:=Rd s hs H ho;refine az Tryz.func75 [.tmp 2] ?_;repeat' (first|with_reducible exact cz|((first|refine an (fun K hK => ?_)|refine aa (h1) ?_);and_intros;all_goals first|(refine hK _ ?_;clear hK K)|try exact ai)|(refine bF ?_;(try clear hB KB);(try clear hK K)))
end Go.Proofs.YtdjmpacladhijaaGreatDoor
