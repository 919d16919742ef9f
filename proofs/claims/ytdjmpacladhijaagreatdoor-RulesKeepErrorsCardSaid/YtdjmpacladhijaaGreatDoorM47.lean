/- Part of the proof: E7. -/
import Derived.Test.YtdjmpacladhijaaGreatDoorM46
set_option linter.unusedSimpArgs false
set_option linter.unusedVariables false
set_option maxHeartbeats 2000000
set_option maxRecDepth 16000
namespace Go.Proofs.YtdjmpacladhijaaGreatDoor
open Go Go.SL
open Go.RowKit (wrap64)
attribute [local go_sem] Int.toNat_natCast vP vf0 vf1 vf2 vf3 vf4 vf5 vf6 vf7 vf8 vf9 Qj SA Vl Rs QG vI a0e Xx WR a3w a3I
theorem Fc (s:Script) (i:Nat):∀ n,(kM s i n).length≤n
 | 0=>Nat.le_refl _
 | n+1=>by
  have:=Fc s i n;rw [mR,List.length_append];split <;> simp <;> omega
theorem Fv (s:Script):∀ i,(jv s i).length≤10 * i
 | 0=>Nat.le_refl _
 | i+1=>by
  have:=Fv s i;have:=Fc s i 10;rw [pG,List.length_append];omega
theorem Lp (s:Script) (hs:ScriptLen s) (he:(gu s).1≠0):aB Sg 29 [ag (ay s)] (fun x=>x = .b (.c (.p (.lst 2 (fc s).length (aQ vI (fc s)))))):=by
 have h1:=Ns s hs he;rw [fc,if_neg he];refine bo ?_;refine az Tryz.func29 [.tmp 2] ?_
 repeat' (first|refine aw ?_|refine an (fun K hK => ?_)|refine aa (h1) ?_|(refine aH (fun hb => ?_) (fun hb => ?_) <;> try exact ax)|(refine aq hK ?_;try clear hK K))
 ·exact fR (fg bP)
 ·exact absurd hb (by decide)
theorem GV (s:Script) (V:VOps s) (hs:ScriptLen s):aB Sg 29 [ag (ay s)] (fun x=>x = .b (.c (.p (.lst 2 (fc s).length (aQ vI (fc s)))))):=by
 have hn:=V.cnt;have h1:=sW s V hs (xg V);rw [fc,if_pos (xg V)];refine bo ?_;refine az Tryz.func29 [.tmp 2] ?_
 repeat' (first|refine aw ?_|refine an (fun K hK => ?_)|refine aa (h1) ?_|(refine aH (fun hb => ?_) (fun hb => ?_) <;> try exact ax)|(refine aq hK ?_;try clear hK K))
 ·exact absurd hb (by decide)
 refine aK (X:=Nat) (fun i=>aP [(1, .b (.c (.ptr 0 0))),(3, .b (vP s)),(5, .b (.c (.own 1 (jv s i).length))),(17, .b (I s.ops.length)),(18, .b (I i))]
  [(0, .fix ((ay s).map CV.p)),(1, .arr 81 2 (jv s i).length (aQ vI (jv s i)))] 2) (fun i=>i≤s.ops.length) (fun i=>s.ops.length - i) 0 ?_ ?_ ?_
 ·exact Nat.zero_le _
 ·refine ar [(1,none)] ?_ ?_;and_intros;all_goals try exact ak
 ·intro i hi;have hl:=Fv s i;rcases Nat.lt_or_ge i s.ops.length with hlt|hge
  ·repeat' (first|refine aw ?_|refine an (fun K hK => ?_)|refine aa (iF) ?_|(refine aH (fun hb => ?_) (fun hb => ?_) <;> try exact ax)|(refine aq hK ?_;try clear hK K))
   refine aK (X:=Nat) (fun n=>aP [(1, .b (.c (.ptr 0 0))),(3, .b (vP s)),(5, .b (.c (.own 1 (jv s i ++ kM s i n).length))),(6, .b (I i)),(17, .b (I s.ops.length)),(18, .b (I i)),(22, .b (I 10)),(23, .b (I n))]
    [(0, .fix ((ay s).map CV.p)),(1, .arr 81 2 (jv s i ++ kM s i n).length (aQ vI (jv s i ++ kM s i n)))] 2) (fun n=>n≤10) (fun n=>10 - n) 0 ?_ ?_ ?_
   ·exact Nat.zero_le _
   ·have e0:jv s i ++ kM s i 0=jv s i:=List.append_nil _;rw [e0];refine ar [(1,some 1)] ?_ ?_;and_intros;all_goals try exact ak
   ·intro n hn10;have hl2:(jv s i ++ kM s i n).length≤10 * i+10:=by
     have:=Fc s i n;rw [List.length_append];omega
    rcases Nat.lt_or_ge n 10 with hnl|hng
    ·by_cases ha:uN s n i=true
     ·repeat' (first|refine aj ha ?_|refine aw ?_|refine an (fun K hK => ?_)|refine aa (lu s V hs n i) ?_|(refine aH (fun hb => ?_) (fun hb => ?_) <;> try exact ax)|(refine aq hK ?_;try clear hK K))
      rw [ae];refine ao (n+1) ?_ (by omega) (by omega);have e:jv s i ++ kM s i (n+1)=jv s i ++ kM s i n ++ [((n:Int),(i:Int))]:=by rw [mR,if_pos ha,List.append_assoc]
      rw [e,show (jv s i ++ kM s i n ++ [((n:Int),(i:Int))]).length=(jv s i ++ kM s i n).length+1 from List.length_append];refine ar [(1,some 3)] ?_ ?_;and_intros;all_goals try exact ak
      exact .inr (LF fun j hj=>by
       have hj2:j=0∨j=1:=by omega
       rcases hj2 with rfl|rfl <;> rfl)
     ·have e:jv s i ++ kM s i (n+1)=jv s i ++ kM s i n:=by rw [mR,if_neg ha,List.append_nil]
      rw [Bool.not_eq_true] at ha
      repeat' (first|refine aj ha ?_|refine aw ?_|refine an (fun K hK => ?_)|refine aa (lu s V hs n i) ?_|(refine aH (fun hb => ?_) (fun hb => ?_) <;> try exact ax)|(refine aq hK ?_;try clear hK K))
      rw [ae];refine ao (n+1) ?_ (by omega) (by omega);rw [e];refine ar [(1,some 1)] ?_ ?_;and_intros;all_goals try exact ak
    ·have hn2:n=10:=by omega
     subst hn2
     repeat' (first|refine aC ?_|(refine aH (fun hb => ?_) (fun hb => ?_) <;> try exact ax))
     rw [ae];refine ao (i+1) ?_ (by omega) (by omega);rw [pG];refine ar [(1,some 1)] ?_ ?_;and_intros;all_goals try exact ak
  ·have hi2:i=s.ops.length:=by omega
   subst hi2
   repeat' (first|refine aC ?_|(refine aH (fun hb => ?_) (fun hb => ?_) <;> try exact ax))
   exact fR (cD trivial)
end Go.Proofs.YtdjmpacladhijaaGreatDoor
