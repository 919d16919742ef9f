/- Part of the proof: E2L. -/
import Derived.Test.YtdjmpacladhijaaGreatDoorM13
set_option linter.unusedSimpArgs false
set_option linter.unusedVariables false
set_option maxHeartbeats 2000000
set_option maxRecDepth 16000
namespace Go.Proofs.YtdjmpacladhijaaGreatDoor
open Go Go.SL
open Go.RowKit (wrap64)
attribute [local go_sem] Int.toNat_natCast
def RN (s:Script):List CV:=(ay s).map CV.p ++ [.p (PU (aN s.bits)), .p (fL s.ops.length (aE s.ops)), .own 2 s.ops.length, .own 3 s.ops.length, .own 4 s.ops.length]
attribute [local go_sem] RN
theorem sW (s:Script) (V:VOps s) (hs:ScriptLen s) (he:(gu s).1=0):aB Sg 68 [ag (ay s)] (fun x=>x = .tup [vP s,B true]):=by
 have h1:=kW s hs;have h2:=qT s V;have hn:=V.cnt;have W:=V.wf;have hbits:∃ mx:Int,mx=(if s.bits=8 then 255 else if s.bits=16 then 65535 else 0):=⟨_,rfl⟩
 have h3:=gR s.bits;refine bo ?_;refine vq Tryz.func68 rfl (rs:=[.tmp 2, .tmp 3]) rfl rfl dI (by decide +kernel) (Nat.le_of_ble_eq_true rfl) (bN ba) ?_
 repeat' (first|refine aw ?_|((with_reducible refine aX (id:=6) (fun K hW => ?_));(try simp (maxSteps:=999999)(disch:=omega) only [go_sem]);and_intros;all_goals first|(refine hK _ ?_;clear hK K)|try exact ai)|refine an (fun K hK => ?_)|refine aa (h1) ?_|refine aa (h2) ?_|refine aa (h3) ?_|(refine aH (fun hb => ?_) (fun hb => ?_) <;> try exact ax)|(refine aq hK ?_;try clear hK K))
 refine hW _ (aP [(1, .b (.c (.ptr 0 0))),(6, .b (.c (.ptr 1 0)))] [(0, .fix ((ay s).map CV.p)),(1, .fix ((ay s).map CV.p ++ [.p (PU (aN s.bits)), .p (fL s.ops.length (aE s.ops)), .p Jl, .p Jl, .p Jl]))] 2) ?_ ?_
 ·refine ar [(1,some 1)] ?_ ?_;and_intros;all_goals try exact ak
 clear hW;refine cM (id:=7) (.br 0 (.br 1 (.br 2 (.br 3 (.br 4 (.br 5 (.br 7 (.br 11 (.br 6 (.br 15 (.br 16 (.br 8 (.br 9 (.br 10 (.br 12 (.br 13 (.br 17 (.br 18 (.br 19 (.br 20 (.br 14 (.br 21 (.br 22 (.br 23 .leaf .nil) .nil) .nil) .nil) .nil) .nil) .nil) .nil) .nil) (.br 17 (.br 18 (.br 19 (.br 12 (.br 13 (.br 20 (.br 14 (.br 21 (.br 22 (.br 23 .leaf .nil) .nil) .nil) .nil) .nil) .nil) (.br 20 (.br 12 (.br 13 (.br 14 (.br 21 (.br 22 (.br 23 .leaf .nil) .nil) .nil) .nil) .nil) .nil) .nil)) .nil) .nil) .nil)) (.br 12 (.br 13 (.br 17 (.br 10 (.br 18 (.br 19 (.br 20 (.br 14 (.br 21 (.br 22 (.br 23 .leaf .nil) .nil) .nil) .nil) .nil) .nil) .nil) (.br 14 (.br 10 (.br 18 (.br 19 (.br 20 (.br 21 (.br 22 (.br 23 .leaf .nil) .nil) .nil) .nil) .nil) .nil) .nil) .nil)) .nil) .nil) (.br 17 (.br 10 (.br 18 (.br 19 (.br 12 (.br 13 (.br 20 (.br 14 (.br 21 (.br 22 (.br 23 .leaf .nil) .nil) .nil) .nil) .nil) .nil) (.br 20 (.br 12 (.br 13 (.br 14 (.br 21 (.br 22 (.br 23 .leaf .nil) .nil) .nil) .nil) .nil) .nil) .nil)) .nil) .nil) (.br 12 (.br 13 (.br 10 (.br 18 (.br 19 (.br 20 (.br 14 (.br 21 (.br 22 (.br 23 .leaf .nil) .nil) .nil) .nil) .nil) .nil) .nil) (.br 14 (.br 10 (.br 18 (.br 19 (.br 20 (.br 21 (.br 22 (.br 23 .leaf .nil) .nil) .nil) .nil) .nil) .nil) .nil) .nil)) .nil) .nil)) .nil))) .nil) (.br 12 (.br 13 (.br 8 (.br 9 (.br 17 (.br 10 (.br 18 (.br 19 (.br 20 (.br 14 (.br 21 (.br 22 (.br 23 .leaf .nil) .nil) .nil) .nil) .nil) .nil) .nil) (.br 14 (.br 10 (.br 18 (.br 19 (.br 20 (.br 21 (.br 22 (.br 23 .leaf .nil) .nil) .nil) .nil) .nil) .nil) .nil) .nil)) .nil) .nil) (.br 14 (.br 8 (.br 9 (.br 17 (.br 10 (.br 18 (.br 19 (.br 20 (.br 21 (.br 22 (.br 23 .leaf .nil) .nil) .nil) .nil) .nil) .nil) .nil) .nil) .nil) (.br 17 (.br 8 (.br 9 (.br 10 (.br 18 (.br 19 (.br 20 (.br 21 (.br 22 (.br 23 .leaf .nil) .nil) .nil) .nil) .nil) .nil) .nil) .nil) .nil) .nil)) (.br 17 (.br 8 (.br 9 (.br 10 (.br 18 (.br 19 (.br 20 (.br 14 (.br 21 (.br 22 (.br 23 .leaf .nil) .nil) .nil) .nil) .nil) .nil) .nil) (.br 14 (.br 10 (.br 18 (.br 19 (.br 20 (.br 21 (.br 22 (.br 23 .leaf .nil) .nil) .nil) .nil) .nil) .nil) .nil) .nil)) .nil) .nil) .nil))) .nil) (.br 17 (.br 8 (.br 9 (.br 10 (.br 18 (.br 19 (.br 12 (.br 13 (.br 20 (.br 14 (.br 21 (.br 22 (.br 23 .leaf .nil) .nil) .nil) .nil) .nil) .nil) (.br 20 (.br 12 (.br 13 (.br 14 (.br 21 (.br 22 (.br 23 .leaf .nil) .nil) .nil) .nil) .nil) .nil) .nil)) .nil) .nil) (.br 12 (.br 13 (.br 10 (.br 18 (.br 19 (.br 20 (.br 14 (.br 21 (.br 22 (.br 23 .leaf .nil) .nil) .nil) .nil) .nil) .nil) .nil) (.br 14 (.br 10 (.br 18 (.br 19 (.br 20 (.br 21 (.br 22 (.br 23 .leaf .nil) .nil) .nil) .nil) .nil) .nil) .nil) .nil)) .nil) .nil)) .nil) .nil) .nil))) .nil) .nil) (.br 8 (.br 9 (.br 6 (.br 15 (.br 16 (.br 10 (.br 12 (.br 13 (.br 17 (.br 18 (.br 19 (.br 20 (.br 14 (.br 21 (.br 22 (.br 23 .leaf .nil) .nil) .nil) .nil) .nil) .nil) .nil) .nil) .nil) (.br 17 (.br 18 (.br 19 (.br 12 (.br 13 (.br 20 (.br 14 (.br 21 (.br 22 (.br 23 .leaf .nil) .nil) .nil) .nil) .nil) .nil) (.br 20 (.br 12 (.br 13 (.br 14 (.br 21 (.br 22 (.br 23 .leaf .nil) .nil) .nil) .nil) .nil) .nil) .nil)) .nil) .nil) .nil)) (.br 12 (.br 13 (.br 17 (.br 10 (.br 18 (.br 19 (.br 20 (.br 14 (.br 21 (.br 22 (.br 23 .leaf .nil) .nil) .nil) .nil) .nil) .nil) .nil) (.br 14 (.br 10 (.br 18 (.br 19 (.br 20 (.br 21 (.br 22 (.br 23 .leaf .nil) .nil) .nil) .nil) .nil) .nil) .nil) .nil)) .nil) .nil) (.br 17 (.br 10 (.br 18 (.br 19 (.br 12 (.br 13 (.br 20 (.br 14 (.br 21 (.br 22 (.br 23 .leaf .nil) .nil) .nil) .nil) .nil) .nil) (.br 20 (.br 12 (.br 13 (.br 14 (.br 21 (.br 22 (.br 23 .leaf .nil) .nil) .nil) .nil) .nil) .nil) .nil)) .nil) .nil) (.br 12 (.br 13 (.br 10 (.br 18 (.br 19 (.br 20 (.br 14 (.br 21 (.br 22 (.br 23 .leaf .nil) .nil) .nil) .nil) .nil) .nil) .nil) (.br 14 (.br 10 (.br 18 (.br 19 (.br 20 (.br 21 (.br 22 (.br 23 .leaf .nil) .nil) .nil) .nil) .nil) .nil) .nil) .nil)) .nil) .nil)) .nil))) .nil) .nil) (.br 10 (.br 6 (.br 15 (.br 16 (.br 12 (.br 13 (.br 17 (.br 18 (.br 19 (.br 20 (.br 14 (.br 21 (.br 22 (.br 23 .leaf .nil) .nil) .nil) .nil) .nil) .nil) .nil) .nil) .nil) (.br 17 (.br 18 (.br 19 (.br 12 (.br 13 (.br 20 (.br 14 (.br 21 (.br 22 (.br 23 .leaf .nil) .nil) .nil) .nil) .nil) .nil) (.br 20 (.br 12 (.br 13 (.br 14 (.br 21 (.br 22 (.br 23 .leaf .nil) .nil) .nil) .nil) .nil) .nil) .nil)) .nil) .nil) .nil)) .nil) .nil) (.br 12 (.br 13 (.br 6 (.br 15 (.br 16 (.br 17 (.br 18 (.br 19 (.br 20 (.br 14 (.br 21 (.br 22 (.br 23 .leaf .nil) .nil) .nil) .nil) .nil) .nil) .nil) .nil) .nil) .nil) (.br 14 (.br 6 (.br 15 (.br 16 (.br 17 (.br 18 (.br 19 (.br 20 (.br 21 (.br 22 (.br 23 .leaf .nil) .nil) .nil) .nil) .nil) .nil) .nil) .nil) .nil) .nil) .nil)) .nil) .nil)) (.br 12 (.br 13 (.br 6 (.br 15 (.br 16 (.br 17 (.br 10 (.br 18 (.br 19 (.br 20 (.br 14 (.br 21 (.br 22 (.br 23 .leaf .nil) .nil) .nil) .nil) .nil) .nil) .nil) (.br 14 (.br 10 (.br 18 (.br 19 (.br 20 (.br 21 (.br 22 (.br 23 .leaf .nil) .nil) .nil) .nil) .nil) .nil) .nil) .nil)) .nil) .nil) .nil) (.br 10 (.br 6 (.br 15 (.br 16 (.br 17 (.br 18 (.br 19 (.br 20 (.br 14 (.br 21 (.br 22 (.br 23 .leaf .nil) .nil) .nil) .nil) .nil) .nil) .nil) .nil) .nil) .nil) (.br 14 (.br 6 (.br 15 (.br 16 (.br 17 (.br 18 (.br 19 (.br 20 (.br 21 (.br 22 (.br 23 .leaf .nil) .nil) .nil) .nil) .nil) .nil) .nil) .nil) .nil) .nil) .nil)) (.br 14 (.br 6 (.br 15 (.br 16 (.br 17 (.br 10 (.br 18 (.br 19 (.br 20 (.br 21 (.br 22 (.br 23 .leaf .nil) .nil) .nil) .nil) .nil) .nil) .nil) .nil) .nil) .nil) (.br 10 (.br 6 (.br 15 (.br 16 (.br 17 (.br 18 (.br 19 (.br 20 (.br 21 (.br 22 (.br 23 .leaf .nil) .nil) .nil) .nil) .nil) .nil) .nil) .nil) .nil) .nil) .nil)) .nil))) .nil) .nil))) .nil) (.br 12 (.br 13 (.br 6 (.br 15 (.br 16 (.br 8 (.br 9 (.br 17 (.br 10 (.br 18 (.br 19 (.br 20 (.br 14 (.br 21 (.br 22 (.br 23 .leaf .nil) .nil) .nil) .nil) .nil) .nil) .nil) (.br 14 (.br 10 (.br 18 (.br 19 (.br 20 (.br 21 (.br 22 (.br 23 .leaf .nil) .nil) .nil) .nil) .nil) .nil) .nil) .nil)) .nil) .nil) (.br 14 (.br 8 (.br 9 (.br 17 (.br 10 (.br 18 (.br 19 (.br 20 (.br 21 (.br 22 (.br 23 .leaf .nil) .nil) .nil) .nil) .nil) .nil) .nil) .nil) .nil) (.br 17 (.br 8 (.br 9 (.br 10 (.br 18 (.br 19 (.br 20 (.br 21 (.br 22 (.br 23 .leaf .nil) .nil) .nil) .nil) .nil) .nil) .nil) .nil) .nil) .nil)) (.br 17 (.br 8 (.br 9 (.br 10 (.br 18 (.br 19 (.br 20 (.br 14 (.br 21 (.br 22 (.br 23 .leaf .nil) .nil) .nil) .nil) .nil) .nil) .nil) (.br 14 (.br 10 (.br 18 (.br 19 (.br 20 (.br 21 (.br 22 (.br 23 .leaf .nil) .nil) .nil) .nil) .nil) .nil) .nil) .nil)) .nil) .nil) .nil))) .nil) .nil) (.br 8 (.br 9 (.br 6 (.br 15 (.br 16 (.br 17 (.br 10 (.br 18 (.br 19 (.br 20 (.br 14 (.br 21 (.br 22 (.br 23 .leaf .nil) .nil) .nil) .nil) .nil) .nil) .nil) (.br 14 (.br 10 (.br 18 (.br 19 (.br 20 (.br 21 (.br 22 (.br 23 .leaf .nil) .nil) .nil) .nil) .nil) .nil) .nil) .nil)) .nil) .nil) .nil) (.br 10 (.br 6 (.br 15 (.br 16 (.br 17 (.br 18 (.br 19 (.br 20 (.br 14 (.br 21 (.br 22 (.br 23 .leaf .nil) .nil) .nil) .nil) .nil) .nil) .nil) .nil) .nil) .nil) (.br 14 (.br 6 (.br 15 (.br 16 (.br 17 (.br 18 (.br 19 (.br 20 (.br 21 (.br 22 (.br 23 .leaf .nil) .nil) .nil) .nil) .nil) .nil) .nil) .nil) .nil) .nil) .nil)) (.br 14 (.br 6 (.br 15 (.br 16 (.br 17 (.br 10 (.br 18 (.br 19 (.br 20 (.br 21 (.br 22 (.br 23 .leaf .nil) .nil) .nil) .nil) .nil) .nil) .nil) .nil) .nil) .nil) (.br 10 (.br 6 (.br 15 (.br 16 (.br 17 (.br 18 (.br 19 (.br 20 (.br 21 (.br 22 (.br 23 .leaf .nil) .nil) .nil) .nil) .nil) .nil) .nil) .nil) .nil) .nil) .nil)) .nil))) .nil) (.br 14 (.br 6 (.br 15 (.br 16 (.br 8 (.br 9 (.br 17 (.br 10 (.br 18 (.br 19 (.br 20 (.br 21 (.br 22 (.br 23 .leaf .nil) .nil) .nil) .nil) .nil) .nil) .nil) .nil) .nil) (.br 17 (.br 8 (.br 9 (.br 10 (.br 18 (.br 19 (.br 20 (.br 21 (.br 22 (.br 23 .leaf .nil) .nil) .nil) .nil) .nil) .nil) .nil) .nil) .nil) .nil)) .nil) .nil) (.br 8 (.br 9 (.br 6 (.br 15 (.br 16 (.br 17 (.br 10 (.br 18 (.br 19 (.br 20 (.br 21 (.br 22 (.br 23 .leaf .nil) .nil) .nil) .nil) .nil) .nil) .nil) .nil) .nil) .nil) (.br 10 (.br 6 (.br 15 (.br 16 (.br 17 (.br 18 (.br 19 (.br 20 (.br 21 (.br 22 (.br 23 .leaf .nil) .nil) .nil) .nil) .nil) .nil) .nil) .nil) .nil) .nil) .nil)) .nil) .nil)) .nil))) .nil) .nil))) .nil) .nil) .nil) .nil) .nil) .nil) .nil) .nil) (by decide +kernel) bZ (fun K0 hW => ?_);refine (fun (tl:∀ st,Le st (aP [(1, .b (.c (.ptr 0 0))),(6, .b (.c (.ptr 1 0)))] [(0, .fix ((ay s).map CV.p)),(1, .fix (RN s)),(2, .arr 3 1 s.ops.length (fun _ _=>PI 0)),(3, .arr 3 1 s.ops.length (fun _ _=>PI 0)),(4, .arr 4 1 s.ops.length (fun _ _=>PB false))] 5)→K0 st) => ?_) (fun st hl=>hW st _ hl ?_)
 ·clear hW;repeat' (first|exact bp|(refine bO (fun K' hK' => ?_) ?_)|(refine aZ (tl _ ?_);clear tl)|(simp (maxSteps:=999999)(disch:=omega) only [go_sem];and_intros;(all_goals first|(refine hK' _ ?_;clear hK' K')|trivial|omega|exact Nat.le_of_ble_eq_true rfl|exact ai|skip)))
  all_goals first|(refine tP [(1,some 1),(2,some 2),(3,some 3),(4,some 4)] rfl (by decide) rfl ?_ ?_;(all_goals (simp (maxSteps:=999999)(disch:=omega) only [go_sem]));and_intros;(all_goals first|rfl|omega|exact .inl rfl|trivial|exact .inr (le0 _ _));done)|(refine tP [(1,some 1),(2,some 2),(3,some 4),(4,some 3)] rfl (by decide) rfl ?_ ?_;(all_goals (simp (maxSteps:=999999)(disch:=omega) only [go_sem]));and_intros;(all_goals first|rfl|omega|exact .inl rfl|trivial|exact .inr (le0 _ _));done)|(refine tP [(1,some 1),(2,some 3),(3,some 2),(4,some 4)] rfl (by decide) rfl ?_ ?_;(all_goals (simp (maxSteps:=999999)(disch:=omega) only [go_sem]));and_intros;(all_goals first|rfl|omega|exact .inl rfl|trivial|exact .inr (le0 _ _));done)|(refine tP [(1,some 1),(2,some 3),(3,some 4),(4,some 2)] rfl (by decide) rfl ?_ ?_;(all_goals (simp (maxSteps:=999999)(disch:=omega) only [go_sem]));and_intros;(all_goals first|rfl|omega|exact .inl rfl|trivial|exact .inr (le0 _ _));done)|(refine tP [(1,some 1),(2,some 4),(3,some 2),(4,some 3)] rfl (by decide) rfl ?_ ?_;(all_goals (simp (maxSteps:=999999)(disch:=omega) only [go_sem]));and_intros;(all_goals first|rfl|omega|exact .inl rfl|trivial|exact .inr (le0 _ _));done)|(refine tP [(1,some 1),(2,some 4),(3,some 3),(4,some 2)] rfl (by decide) rfl ?_ ?_;(all_goals (simp (maxSteps:=999999)(disch:=omega) only [go_sem]));and_intros;(all_goals first|rfl|omega|exact .inl rfl|trivial|exact .inr (le0 _ _));done)
 clear hW;repeat' (refine aC ?_)
 refine aK (X:=Nat) (fun i=>aP [(1, .b (.c (.ptr 0 0))),(6, .b (.c (.ptr 1 0))),(7, .b (I (gn s.ops i))),(8, .b (.c (.ptr 5 0))),(62, .b (.c (.p (kU s.ops)))),(63, .b (I s.ops.length)),(64, .b (I i))]
  [(0, .fix ((ay s).map CV.p)),(1, .fix (RN s)),(2, .arr 3 1 s.ops.length (fun a _=>PI (if a<i then mf s.ops a else 0))),(3, .arr 3 1 s.ops.length (fun a _=>PI (dp s.ops i a))),(4, .arr 4 1 s.ops.length (fun a _=>PB (decide (a<i) && gY s.ops a))),(5, .fix [.p (PI (dp s.ops i (-1)))])] 6)
  (fun i=>i≤s.ops.length) (fun i=>s.ops.length - i) 0 ?_ ?_ ?_
 ·exact Nat.zero_le _
 ·refine ar [(1,some 1),(2,some 2),(3,some 3),(4,some 4),(5,some 5)] ?_ ?_;and_intros;all_goals try exact ak
 ·intro i hi;rcases Nat.lt_or_ge i s.ops.length with hlt|hge
  ·have hkl:=fun g=>tu s.ops g i;have hbx2:∀ v:Int,v=mf s.ops i→∀ a,PI (if a=i then v else if a<i then mf s.ops a else 0)=PI (if a<i+1 then mf s.ops a else 0):=fun v hv a=>by rw [pC i a,hv]
   rcases W.kinds i hlt with hk|hk|hk
   ·have hk2:(s.ops.getD i default).kind=1:=hk;have h3:(ah s.ops i).kind≠3:=by omega
    cases hs:bE s.ops i with
    | nil =>
     have ht:=iJ hs;rw [ht]
     repeat' (first|((first|apply oZ|apply ph);(case hc=>exact du);(case ht=>(simp only [Int.toNat_natCast,Int.reduceBEq,Int.reduceBNe,Int.reduceLT,Int.reduceLE,decide_true,decide_false,ur,hk2,Int.reduceGE,Int.reduceNeg];done)))|refine aC ?_|(refine aH (fun hb => ?_) (fun hb => ?_) <;> try exact ax))
     all_goals first|exact Nat.le_of_ble_eq_true rfl|skip
     rw [ae];refine ao (i+1) ?_ (by omega) (by omega);rw [show gn s.ops (i+1) = -1 from iJ (by rw [ec hk];exact hs)];refine ar [(1,some 1),(2,some 2),(3,some 3),(4,some 4),(5,some 5)] ?_ ?_;and_intros;all_goals try exact ak
     ·refine .inr fun a ha j hj => ?_;have hj0:j=0:=by omega
      subst hj0;rw [pC i a];by_cases e:a=i
      ·rw [if_pos e,if_pos e,if_pos ⟨Nat.le_refl 0,Nat.zero_lt_one⟩];exact kJ (by rw [AH h3,ht])
      ·rw [if_neg e,if_neg e];exact fun _ _ _ h=>h
     ·refine .inr fun a ha j hj => ?_;exact kJ (by rw [lD h3,if_neg (by rw [ht];omega)];rfl)
     ·refine .inr fun a ha j hj => ?_;have hj0:j=0:=by omega
      subst hj0;rw [nG i a];by_cases e:a=i
      ·rw [if_pos e,if_pos e,if_pos ⟨Nat.le_refl 0,Nat.zero_lt_one⟩];exact DA (by rw [uT h3,ht])
      ·rw [if_neg e,if_neg e];exact fun _ _ _ h=>h
     ·exact .inr (kJ (by rw [XY (by omega),lD h3,if_pos ht];rfl))
    | cons p t =>
     have hp:p<i:=ej (ops:=s.ops) (by rw [hs];exact List.mem_cons_self ..);have hp0:decide ((p:Int)≥0)=true:=decide_eq_true (by omega);have ht:=ee hs;rw [ht]
     repeat' (first|refine aj (And.intro hk2 hp0) ?_|refine aC ?_|(refine aH (fun hb => ?_) (fun hb => ?_) <;> try exact ax))
     all_goals first|exact Nat.le_of_ble_eq_true rfl|skip
     rw [ae];refine ao (i+1) ?_ (by omega) (by omega);rw [show gn s.ops (i+1)=p from ee (t:=t) (by rw [ec hk];exact hs)];refine ar [(1,some 1),(2,some 2),(3,some 3),(4,some 4),(5,some 5)] ?_ ?_;and_intros;all_goals try exact ak
     ·refine .inr fun a ha j hj => ?_;have hj0:j=0:=by omega
      subst hj0;rw [pC i a];by_cases e:a=i
      ·rw [if_pos e,if_pos e,if_pos ⟨Nat.le_refl 0,Nat.zero_lt_one⟩];exact kJ (by rw [AH h3,ht])
      ·rw [if_neg e,if_neg e];exact fun _ _ _ h=>h
     ·refine .inr fun a ha j hj => ?_;have hj0:j=0:=by omega
      subst hj0;by_cases e:a=p
      ·rw [if_pos e,if_pos ⟨Nat.le_refl 0,Nat.zero_lt_one⟩];exact kJ (by rw [XY (by omega),e,lD h3,if_pos ht];rfl)
      ·rw [if_neg e];exact kJ (by rw [lD h3,if_neg (by rw [ht];omega)];rfl)
     ·refine .inr fun a ha j hj => ?_;have hj0:j=0:=by omega
      subst hj0;rw [nG i a];by_cases e:a=i
      ·rw [if_pos e,if_pos e,if_pos ⟨Nat.le_refl 0,Nat.zero_lt_one⟩];exact DA (by rw [uT h3,ht])
      ·rw [if_neg e,if_neg e];exact fun _ _ _ h=>h
     ·exact .inr (kJ (by rw [lD h3,if_neg (by rw [ht];omega)];rfl))
   ·have hk2:(s.ops.getD i default).kind=2:=hk;have h3:(ah s.ops i).kind≠3:=by omega
    cases hs:bE s.ops i with
    | nil =>
     have ht:=iJ hs;rw [ht]
     repeat' (first|((first|apply iL|apply pN);(case hc=>exact du);(case ht=>(simp only [Int.toNat_natCast,Int.reduceBEq,Int.reduceBNe,Int.reduceLT,Int.reduceLE,decide_true,decide_false,ur,hk2,Int.reduceGE,Int.reduceNeg];done)))|(apply oZ;(case hc=>exact du);(case ht=>(simp only [Int.toNat_natCast,Int.reduceBEq,Int.reduceBNe,Int.reduceLT,Int.reduceLE,decide_true,decide_false,ur,hk2,Int.reduceGE,Int.reduceNeg];done)))|refine aC ?_|(refine aH (fun hb => ?_) (fun hb => ?_) <;> try exact ax))
     all_goals first|exact Nat.le_of_ble_eq_true rfl|skip
     rw [ae];refine ao (i+1) ?_ (by omega) (by omega);rw [Bk hk];refine ar [(1,some 1),(2,some 2),(3,some 3),(4,some 4),(5,some 5)] ?_ ?_;and_intros;all_goals try exact ak
     ·refine .inr fun a ha j hj => ?_;have hj0:j=0:=by omega
      subst hj0;rw [pC i a];by_cases e:a=i
      ·rw [if_pos e,if_pos e,if_pos ⟨Nat.le_refl 0,Nat.zero_lt_one⟩];exact kJ (by rw [AH h3,ht])
      ·rw [if_neg e,if_neg e];exact fun _ _ _ h=>h
     ·refine .inr fun a ha j hj => ?_;exact kJ (by rw [lD h3,if_neg (by rw [ht];omega)];rfl)
     ·refine .inr fun a ha j hj => ?_;have hj0:j=0:=by omega
      subst hj0;rw [nG i a];by_cases e:a=i
      ·rw [if_pos e,if_pos e,if_pos ⟨Nat.le_refl 0,Nat.zero_lt_one⟩];exact DA (by rw [uT h3,ht])
      ·rw [if_neg e,if_neg e];exact fun _ _ _ h=>h
     ·exact .inr (kJ (by rw [XY (by omega),lD h3,if_pos ht];rfl))
    | cons p t =>
     have hp:p<i:=ej (ops:=s.ops) (by rw [hs];exact List.mem_cons_self ..);have hp0:decide ((p:Int)≥0)=true:=decide_eq_true (by omega);have ht:=ee hs;rw [ht]
     repeat' (first|refine aj (And.intro hk2 hp0) ?_|refine aC ?_|(refine aH (fun hb => ?_) (fun hb => ?_) <;> try exact ax))
     all_goals first|exact Nat.le_of_ble_eq_true rfl|skip
     rw [ae];refine ao (i+1) ?_ (by omega) (by omega);rw [Bk hk];refine ar [(1,some 1),(2,some 2),(3,some 3),(4,some 4),(5,some 5)] ?_ ?_;and_intros;all_goals try exact ak
     ·refine .inr fun a ha j hj => ?_;have hj0:j=0:=by omega
      subst hj0;rw [pC i a];by_cases e:a=i
      ·rw [if_pos e,if_pos e,if_pos ⟨Nat.le_refl 0,Nat.zero_lt_one⟩];exact kJ (by rw [AH h3,ht])
      ·rw [if_neg e,if_neg e];exact fun _ _ _ h=>h
     ·refine .inr fun a ha j hj => ?_;have hj0:j=0:=by omega
      subst hj0;by_cases e:a=p
      ·rw [if_pos e,if_pos ⟨Nat.le_refl 0,Nat.zero_lt_one⟩];exact kJ (by rw [XY (by omega),e,lD h3,if_pos ht];rfl)
      ·rw [if_neg e];exact kJ (by rw [lD h3,if_neg (by rw [ht];omega)];rfl)
     ·refine .inr fun a ha j hj => ?_;have hj0:j=0:=by omega
      subst hj0;rw [nG i a];by_cases e:a=i
      ·rw [if_pos e,if_pos e,if_pos ⟨Nat.le_refl 0,Nat.zero_lt_one⟩];exact DA (by rw [uT h3,ht])
      ·rw [if_neg e,if_neg e];exact fun _ _ _ h=>h
     ·exact .inr (kJ (by rw [lD h3,if_neg (by rw [ht];omega)];rfl))
   ·have hk2:(s.ops.getD i default).kind=3:=hk;cases hs:bE s.ops i with
    | nil=>exact absurd hs (W.pops i hlt hk)
    | cons p t =>
     have hp:p<i:=ej (ops:=s.ops) (by rw [hs];exact List.mem_cons_self ..);rw [ee hs]
     repeat' (first|refine aj hk2 ?_|refine aC ?_|(refine aH (fun hb => ?_) (fun hb => ?_) <;> try exact ax))
     all_goals first|exact Nat.le_of_ble_eq_true rfl|skip
     rw [ae];refine ao (i+1) ?_ (by omega) (by omega);rw [Eh hk hs];refine ar [(1,some 1),(2,some 2),(3,some 3),(4,some 4),(5,some 5)] ?_ ?_;and_intros;all_goals try exact ak
     ·exact .inr (kJ (if_pos hp))
     ·refine .inr fun a ha j hj => ?_;have hj0:j=0:=by omega
      subst hj0;rw [pC i a];by_cases e:a=i
      ·rw [if_pos e,if_pos e,if_pos ⟨Nat.le_refl 0,Nat.zero_lt_one⟩];exact kJ (by rw [if_pos hp,Wl hk,Eh hk hs])
      ·rw [if_neg e,if_neg e];exact fun _ _ _ h=>h
     ·refine .inr fun a ha j hj => ?_;exact kJ (by rw [IB hk])
     ·refine .inr fun a ha j hj => ?_;refine DA ?_;rw [nG i a,Qc hk];by_cases e:a=i
      ·rw [if_pos e,decide_eq_false (by omega)];rfl
      ·rw [if_neg e]
     ·exact .inr (kJ (by rw [IB hk]))
  ·have hi2:i=s.ops.length:=by omega
   subst hi2
   repeat' (first|refine aC ?_|(refine aH (fun hb => ?_) (fun hb => ?_) <;> try exact ax))
   refine cJ ⟨⟨trivial,fun ok w u hu => ?_⟩,cD trivial,trivial⟩;refine NV (ρ:=dd) (fun j hj => ?_) hu;have hivl:j=0∨j=1∨j=2∨j=3∨j=4∨j=5∨j=6∨j=7∨j=8∨j=9∨j=10∨j=11∨j=12∨j=13∨j=14:=by omega
   rcases hivl with rfl|rfl|rfl|rfl|rfl|rfl|rfl|rfl|rfl|rfl|rfl|rfl|rfl|rfl|rfl <;> skip
   all_goals first|exact ck s 0 (by decide)|exact ck s 1 (by decide)|exact ck s 2 (by decide)|exact ck s 3 (by decide)|exact ck s 4 (by decide)|exact ck s 5 (by decide)|exact ck s 6 (by decide)|exact ck s 7 (by decide)|exact ck s 8 (by decide)|exact ck s 9 (by decide)|exact ck s 10 (by decide)|exact ck s 11 (by decide)|exact ck s 12 (by decide)|exact ck s 13 (by decide)|exact ck s 14 (by decide)|((simp (maxSteps:=1000000) (disch:=omega) only [go_sem,Nat.le_refl,if_true]);first|exact ck s 0 (by decide)|exact ck s 1 (by decide)|exact ck s 2 (by decide)|exact ck s 3 (by decide)|exact ck s 4 (by decide)|exact ck s 5 (by decide)|exact ck s 6 (by decide)|exact ck s 7 (by decide)|exact ck s 8 (by decide)|exact ck s 9 (by decide)|exact ck s 10 (by decide)|exact ck s 11 (by decide)|exact ck s 12 (by decide)|exact ck s 13 (by decide)|exact ck s 14 (by decide))
end Go.Proofs.YtdjmpacladhijaaGreatDoor
