/-
  The law DamageUpdateAgrees of compositorlaw31 answers true for every scene, every row of numbers, every two arrays of four integers, every integer and every operation that it is given, and leaves all of them as they were. It asks nothing else of its arguments; the package-level variables that its row lists hold what the row says.
-/
import Derived.Test.YtdjmpacladhijaaGreatDoorXtR
import Derived.Test.YtdjmpacladhijaaGreatDoorCards
import Derived.Test.YtdjmpacladhijaaGreatDoorTie
import Derived.Deep.DeepHandedRow
import Derived.Test.YtdjmpacladhijaaGreatDoorM42
set_option maxRecDepth 100000
namespace Go.Proofs.YtdjmpacladhijaaGreatDoor.damageUpdateAgrees
open Go.ChangeShapes Go.WideShapes Go.ChangeAt Go.RowKit Go.SL
theorem own:ownKnob Tryz.prog.godebug=none:=by kernel_rfl
theorem contract (H : Type) (enc : TypeId × Value → H) (W : World) (base : Nat) (args : Array Value) (ds gs : List (DataW H)) (before : List MemPlace)
  (hval:∀ (j:Nat) t v,Tryz.f3.params[j]?=some t→args[j]?=some v→Value.okWide Tryz.prog W .any base t v)
  (hW:DataW.Whole enc Tryz.prog Tryz.f3.params.toList Rows.damageUpdateAgreesSpec.vars false W args.toList ds gs before)
  (hsz:(DataW.weightsEach Tryz.prog Tryz.f3.params.toList ds).all (· ≤ reachBytes)=true) (hL:laidMetH Tryz.prog Rows.damageUpdateAgreesRow.laid W) :
  Calls Tryz.prog 3 args W fun e W'=>∃ v,e = .returned v∧Rows.damageUpdateAgreesSpec.post enc Tryz.prog Tryz.f3 false true false false W args v W':=by
 have hG:oP Sg (· < W.heap.size) W:=glOk (laid:=Rows.damageUpdateAgreesRow.laid) hL
 have hW0:=hW
 obtain ⟨p,q,hA,hV,rfl,_,_⟩:=hW0
 obtain ⟨rfl,rfl⟩:=trodVars_none hV
 have hA:DataW.TrodAll enc Sg.P W 0 (fun _=>true) true [26,29,30,30,3,33] args.toList ds p:=hA
 obtain ⟨v0,v1,v2,v3,v4,v5,d0,d1,d2,d3,d4,d5,p0,p1,p2,p3,p4,p5,rfl,rfl,rfl,h0,h1,h2,h3,h4,h5⟩:=Ih hA
 obtain ⟨n0,w0,e0⟩:=arg_struct sV (by kernel_rfl) (hval 0 26 v0 rfl rfl) h0 (weightsEach_at hsz 0 rfl rfl)
 obtain ⟨n1,w1,e1⟩:=arg_struct UE (by kernel_rfl) (hval 1 29 v1 rfl rfl) h1 (weightsEach_at hsz 1 rfl rfl)
 obtain ⟨n2,w2,e2⟩:=arg_struct a6N (by kernel_rfl) (hval 2 30 v2 rfl rfl) h2 (weightsEach_at hsz 2 rfl rfl)
 obtain ⟨n3,w3,e3⟩:=arg_struct a6N (by kernel_rfl) (hval 3 30 v3 rfl rfl) h3 (weightsEach_at hsz 3 rfl rfl)
 obtain ⟨n4,w4,e4⟩:=arg_int (k := .i64) (by kernel_rfl) (hval 4 3 v4 rfl rfl) h4
 obtain ⟨n5,w5,e5⟩:=arg_struct a8Z (by kernel_rfl) (hval 5 33 v5 rfl rfl) h5 (weightsEach_at hsz 5 rfl rfl)
 exact law_calls (S:=Sg) (EG n0 w0 n1 w1 n2 n3 w3 n4 n5 w5.2.2.2.2.2.2.2.1.1) (by kernel_rfl) (by kernel_rfl) (tb:=4) (by kernel_rfl) (by kernel_rfl) rfl hW rfl hG rfl (den_cons e0 (den_cons e1 (den_cons e2 (den_cons e3 (den_cons e4 (den_cons e5 den_nil))))))
theorem laid_met (os:Os):laidMet Tryz.prog Rows.damageUpdateAgreesRow.laid ((cW os).forCall (fun _ _=>0) ⟨#[], #[.agg #[.int .i64 0, .int .i64 0, .int .i64 0, .int .i64 0, .int .i64 0, .int .i64 0, .int .i64 0, .slice none 0 0, .slice none 0 0, .slice none 0 0], .agg #[.int .i64 0, .slice none 0 0], .agg #[.int .i64 0, .int .i64 0, .int .i64 0, .int .i64 0], .agg #[.int .i64 0, .int .i64 0, .int .i64 0, .int .i64 0], .int .i64 0, .agg #[.int .i64 0, .int .i64 0, .int .i64 0, .int .i64 0, .int .i64 0, .int .i64 0, .int .i64 0, .int .u16 0, .int .i64 0, .int .i64 0, .bool false, .bool false]],[]⟩).memory :=
 laidMet_of_run' 8 (by kernel_rfl) (by kernel_rfl)
theorem reads (os:Os) {H:Type} (enc:TypeId × Value→H):∃ places,DataW.whole enc Tryz.prog ((cW os).forCall (fun _ _=>0) ⟨#[], #[.agg #[.int .i64 0, .int .i64 0, .int .i64 0, .int .i64 0, .int .i64 0, .int .i64 0, .int .i64 0, .slice none 0 0, .slice none 0 0, .slice none 0 0], .agg #[.int .i64 0, .slice none 0 0], .agg #[.int .i64 0, .int .i64 0, .int .i64 0, .int .i64 0], .agg #[.int .i64 0, .int .i64 0, .int .i64 0, .int .i64 0], .int .i64 0, .agg #[.int .i64 0, .int .i64 0, .int .i64 0, .int .i64 0, .int .i64 0, .int .i64 0, .int .i64 0, .int .u16 0, .int .i64 0, .int .i64 0, .bool false, .bool false]],[]⟩).memory Tryz.f3.params.toList Rows.damageUpdateAgreesSpec.vars false (#[.agg #[.int .i64 0, .int .i64 0, .int .i64 0, .int .i64 0, .int .i64 0, .int .i64 0, .int .i64 0, .slice none 0 0, .slice none 0 0, .slice none 0 0], .agg #[.int .i64 0, .slice none 0 0], .agg #[.int .i64 0, .int .i64 0, .int .i64 0, .int .i64 0], .agg #[.int .i64 0, .int .i64 0, .int .i64 0, .int .i64 0], .int .i64 0, .agg #[.int .i64 0, .int .i64 0, .int .i64 0, .int .i64 0, .int .i64 0, .int .i64 0, .int .i64 0, .int .u16 0, .int .i64 0, .int .i64 0, .bool false, .bool false]]:Array Value).toList 8=some ([.agg [.lit (.int .i64 0), .lit (.int .i64 0), .lit (.int .i64 0), .lit (.int .i64 0), .lit (.int .i64 0), .lit (.int .i64 0), .lit (.int .i64 0), .nil, .nil, .nil], .agg [.lit (.int .i64 0), .nil], .agg [.lit (.int .i64 0), .lit (.int .i64 0), .lit (.int .i64 0), .lit (.int .i64 0)], .agg [.lit (.int .i64 0), .lit (.int .i64 0), .lit (.int .i64 0), .lit (.int .i64 0)], .lit (.int .i64 0), .agg [.lit (.int .i64 0), .lit (.int .i64 0), .lit (.int .i64 0), .lit (.int .i64 0), .lit (.int .i64 0), .lit (.int .i64 0), .lit (.int .i64 0), .lit (.int .u16 0), .lit (.int .i64 0), .lit (.int .i64 0), .lit (.bool false), .lit (.bool false)]],[],places) :=
 ⟨[],by kernel_rfl⟩
theorem lifted (os : Os) (started : os.Started) (H : Type) (enc : TypeId × Value → H) (F : Stop.Interp) :
  ReturnsInHanded {} Tryz.checked os 3 .any ((OpenSpec.ofChange Rows.damageUpdateAgreesSpec).preRow enc Tryz.prog Tryz.f3 Rows.damageUpdateAgreesRow.domain false Rows.damageUpdateAgreesRow.laid) (((OpenSpec.ofChange Rows.damageUpdateAgreesSpec).at F).post enc Tryz.prog Tryz.f3 false true false false):=by
 obtain ⟨places,hx⟩:=reads os enc
 refine returnsInHanded_of_row (C:=Tryz.checked) (s:=OpenSpec.ofChange Rows.damageUpdateAgreesSpec) own started (by kernel_rfl) Tryz.func3
  (witness_row_at (enc:=enc) (C:=Tryz.checked) false (cW os) #[.agg #[.int .i64 0, .int .i64 0, .int .i64 0, .int .i64 0, .int .i64 0, .int .i64 0, .int .i64 0, .slice none 0 0, .slice none 0 0, .slice none 0 0], .agg #[.int .i64 0, .slice none 0 0], .agg #[.int .i64 0, .int .i64 0, .int .i64 0, .int .i64 0], .agg #[.int .i64 0, .int .i64 0, .int .i64 0, .int .i64 0], .int .i64 0, .agg #[.int .i64 0, .int .i64 0, .int .i64 0, .int .i64 0, .int .i64 0, .int .i64 0, .int .i64 0, .int .u16 0, .int .i64 0, .int .i64 0, .bool false, .bool false]] rfl (by kernel_rfl) (by kernel_rfl) (by kernel_rfl)
   (OpenSpec.preRow_of_cond 8 hx (by kernel_rfl) (fun k hk=>by cases hk) (by kernel_rfl) (laid_met os))) ?_
 intro W base args ds gs before hval hW _ _ hsz hL _ _
 have hgs:gs=[]:=by
  obtain ⟨_,_,_,hV,_⟩:=hW
  exact (trodVars_none hV).1
 subst hgs
 have hsz1:(DataW.weightsEach Tryz.prog (Tryz.f3.params.toList ++ []) (ds ++ [])).all (· ≤ reachBytes)=true:=hsz
 rw [List.append_nil,List.append_nil] at hsz1
 exact contract H enc W base args ds [] before hval hW hsz1 hL
end Go.Proofs.YtdjmpacladhijaaGreatDoor.damageUpdateAgrees
