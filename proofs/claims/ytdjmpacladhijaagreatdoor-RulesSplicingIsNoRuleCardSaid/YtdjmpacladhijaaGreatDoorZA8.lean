/-
  The law RulesSplicingIsNoRule of compositorlaw26 answers true for every integer that it is given. It asks nothing else of its arguments; the package-level variables that its row lists hold what the row says.
-/
import Derived.Test.YtdjmpacladhijaaGreatDoorXtP
import Derived.Test.YtdjmpacladhijaaGreatDoorCards
import Derived.Test.YtdjmpacladhijaaGreatDoorTie
import Derived.Deep.DeepHandedRow
import Derived.Test.YtdjmpacladhijaaGreatDoorM57
set_option maxRecDepth 100000
namespace Go.Proofs.YtdjmpacladhijaaGreatDoor.rulesSplicingIsNoRule
open Go.ChangeShapes Go.WideShapes Go.ChangeAt Go.RowKit Go.SL
theorem own:ownKnob Tryz.prog.godebug=none:=by kernel_rfl
theorem contract (H : Type) (enc : TypeId × Value → H) (W : World) (base : Nat) (args : Array Value) (ds gs : List (DataW H)) (before : List MemPlace)
  (hval:∀ (j:Nat) t v,Tryz.f6.params[j]?=some t→args[j]?=some v→Value.okWide Tryz.prog W .any base t v)
  (hW:DataW.Whole enc Tryz.prog Tryz.f6.params.toList Rows.rulesSplicingIsNoRuleSpec.vars false W args.toList ds gs before)
  (hsz:(DataW.weightsEach Tryz.prog Tryz.f6.params.toList ds).all (· ≤ reachBytes)=true) (hL:laidMetH Tryz.prog Rows.rulesSplicingIsNoRuleRow.laid W) :
  Calls Tryz.prog 6 args W fun e W'=>∃ v,e = .returned v∧Rows.rulesSplicingIsNoRuleSpec.post enc Tryz.prog Tryz.f6 false true false false W args v W':=by
 have hG:oP Sg (· < W.heap.size) W:=glOk (laid:=Rows.rulesSplicingIsNoRuleRow.laid) hL
 have hW0:=hW
 obtain ⟨p,q,hA,hV,rfl,_,_⟩:=hW0
 obtain ⟨rfl,rfl⟩:=trodVars_none hV
 have hA:DataW.TrodAll enc Sg.P W 0 (fun _=>true) true [3] args.toList ds p:=hA
 obtain ⟨v0,d0,rfl,rfl,h0⟩:=trodAll_one hA
 obtain ⟨n0,w0,e0⟩:=arg_int (k := .i64) (by kernel_rfl) (hval 0 3 v0 rfl rfl) h0
 exact law_calls (S:=Sg) (JZ n0) (by kernel_rfl) (by kernel_rfl) (tb:=4) (by kernel_rfl) (by kernel_rfl) rfl hW rfl hG rfl (den_cons e0 den_nil)
theorem laid_met (os:Os):laidMet Tryz.prog Rows.rulesSplicingIsNoRuleRow.laid ((cW os).forCall (fun _ _=>0) ⟨#[], #[.int .i64 0],[]⟩).memory :=
 laidMet_of_run' 8 (by kernel_rfl) (by kernel_rfl)
theorem reads (os:Os) {H:Type} (enc:TypeId × Value→H):∃ places,DataW.whole enc Tryz.prog ((cW os).forCall (fun _ _=>0) ⟨#[], #[.int .i64 0],[]⟩).memory Tryz.f6.params.toList Rows.rulesSplicingIsNoRuleSpec.vars false (#[.int .i64 0]:Array Value).toList 8=some ([.lit (.int .i64 0)],[],places) :=
 ⟨[],by kernel_rfl⟩
theorem lifted (os : Os) (started : os.Started) (H : Type) (enc : TypeId × Value → H) (F : Stop.Interp) :
  ReturnsInHanded {} Tryz.checked os 6 .any ((OpenSpec.ofChange Rows.rulesSplicingIsNoRuleSpec).preRow enc Tryz.prog Tryz.f6 Rows.rulesSplicingIsNoRuleRow.domain false Rows.rulesSplicingIsNoRuleRow.laid) (((OpenSpec.ofChange Rows.rulesSplicingIsNoRuleSpec).at F).post enc Tryz.prog Tryz.f6 false true false false):=by
 obtain ⟨places,hx⟩:=reads os enc
 refine returnsInHanded_of_row (C:=Tryz.checked) (s:=OpenSpec.ofChange Rows.rulesSplicingIsNoRuleSpec) own started (by kernel_rfl) Tryz.func6
  (witness_row_at (enc:=enc) (C:=Tryz.checked) false (cW os) #[.int .i64 0] rfl (by kernel_rfl) (by kernel_rfl) (by kernel_rfl)
   (OpenSpec.preRow_of_cond 8 hx (by kernel_rfl) (fun k hk=>by cases hk) (by kernel_rfl) (laid_met os))) ?_
 intro W base args ds gs before hval hW _ _ hsz hL _ _
 have hgs:gs=[]:=by
  obtain ⟨_,_,_,hV,_⟩:=hW
  exact (trodVars_none hV).1
 subst hgs
 have hsz1:(DataW.weightsEach Tryz.prog (Tryz.f6.params.toList ++ []) (ds ++ [])).all (· ≤ reachBytes)=true:=hsz
 rw [List.append_nil,List.append_nil] at hsz1
 exact contract H enc W base args ds [] before hval hW hsz1 hL
end Go.Proofs.YtdjmpacladhijaaGreatDoor.rulesSplicingIsNoRule
