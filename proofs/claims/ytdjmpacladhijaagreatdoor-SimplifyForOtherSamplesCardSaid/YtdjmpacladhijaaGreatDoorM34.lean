/- Part of the proof: D8. -/
import Derived.Test.YtdjmpacladhijaaGreatDoorM13
import Derived.Test.YtdjmpacladhijaaGreatDoorM20
set_option linter.unusedSimpArgs false
set_option linter.unusedVariables false
set_option maxHeartbeats 2000000
set_option maxRecDepth 16000
namespace Go.Proofs.YtdjmpacladhijaaGreatDoor
open Go Go.SL
open Go.RowKit (wrap64)
attribute [local go_sem] Int.toNat_natCast lC jV
theorem ER (a b:List Op) (ha:a.length≤1000000) (hb:b.length≤1000000):aB Sg 33 [.c (.p (kU a)), .c (.p (kU b))] (fun x=>x = .b (B (decide (a=b)))):=by
 refine az Tryz.func33 [.tmp 4] ?_;repeat' (first|with_reducible exact cz|refine bL ?_|((first|refine an (fun K hK => ?_)|refine pj ?_);and_intros;all_goals first|(refine hK _ ?_;clear hK K)|try exact ai)|((first|apply dC|apply dE);(case hf=>rfl);(case hc=>exact du);(all_goals first|(intro hb;(try simp only [nR] at hb))|skip))|exact bd|(refine aH (fun hb => ?_) (fun hb => ?_);all_goals try exact ax)|refine eo (fun KB hB => ?_)|(refine hB _ ?_;clear hB KB)|refine gM (S:=Sg) (by assumption) ?_|(refine bF ?_;(try clear hB KB);(try clear hK K)))
 ·rw [decide_eq_false (fun e=>by rw [e] at hb;omega)]
 refine aK (X:=Nat) (fun k=>aP [(0, .b (.c (.p (kU a)))),(1, .b (.c (.p (kU b)))),(4, .b (B false)),(5, .b (I k))] [] 1) (fun k=>k≤a.length∧∀ j,j<k→ah a j=ah b j) (fun k=>a.length - k) 0 ?_ ?_ ?_
 ·exact ⟨Nat.zero_le _,fun j hj=>absurd hj (Nat.not_lt_zero _)⟩
 ·refine ar [] ?_ ?_;and_intros;all_goals try exact ak
 ·rintro k ⟨hk,hp⟩;repeat' (first|with_reducible exact cz|refine bL ?_|((first|refine an (fun K hK => ?_)|refine pj ?_);and_intros;all_goals first|(refine hK _ ?_;clear hK K)|try exact ai)|((first|apply dC|apply dE);(case hf=>rfl);(case hc=>exact du);(all_goals first|(intro hb;(try simp only [nR] at hb))|skip))|exact bd|(refine aH (fun hb => ?_) (fun hb => ?_);all_goals try exact ax)|refine eo (fun KB hB => ?_)|(refine hB _ ?_;clear hB KB)|refine gM (S:=Sg) (by assumption) ?_|(refine bF ?_;(try clear hB KB);(try clear hK K)))
  ·rw [decide_eq_false];intro e;subst e;simp at hb
  ·rw [ae];refine ao (k+1) ?_ ⟨by omega,fun j hj => ?_⟩ (by omega)
   ·refine ar [] ?_ ?_;and_intros;all_goals try exact ak
   ·by_cases e:j=k
    ·obtain ⟨e1,e2,e3,e4,e5,e6,e7,e8,e9,e10,e11,e12,_⟩:=hb;rw [e];exact GZ.2 ⟨e1,e2,e3,e4,e5,e6,e7,e8,e9,e10,e11,e12⟩
    ·exact hp j (by omega)
  ·rw [decide_eq_true (Hc (by omega) fun j hj=>hp j (by omega))]
end Go.Proofs.YtdjmpacladhijaaGreatDoor
