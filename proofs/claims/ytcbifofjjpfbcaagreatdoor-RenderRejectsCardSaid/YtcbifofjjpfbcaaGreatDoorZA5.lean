/-
  The law RenderRejects of compositorlaw25 answers true for every scene, every integer, every operation and every rectangle that it is given, and leaves all of them as they were. It asks nothing else of its arguments; the package-level variables that its row lists hold what the row says.
-/
import Derived.Test.YtcbifofjjpfbcaaGreatDoorCards
import Derived.Test.YtcbifofjjpfbcaaGreatDoorTie
import Derived.Test.YtcbifofjjpfbcaaGreatDoorXt5
import Derived.Deep.DeepHandedRow
set_option maxRecDepth 100000
namespace Go.Proofs.YtcbifofjjpfbcaaGreatDoor.renderRejects
open Go.ChangeShapes Go.WideShapes Go.ChangeAt Go.RowKit Go.SL
theorem own:ownKnob Tryz.prog.godebug=none:=by kernel_rfl
theorem contract (H : Type) (enc : TypeId × Value → H) (W : World) (base : Nat) (args : Array Value) (ds gs : List (DataW H)) (before : List MemPlace)
  (hval:∀ (j:Nat) t v,Tryz.f8.params[j]?=some t→args[j]?=some v→Value.okWide Tryz.prog W .any base t v)
  (hW:DataW.Whole enc Tryz.prog Tryz.f8.params.toList Rows.renderRejectsSpec.vars false W args.toList ds gs before)
  (hsz:(DataW.weightsEach Tryz.prog Tryz.f8.params.toList ds).all (· ≤ reachBytes)=true) (hL:laidMetH Tryz.prog Rows.renderRejectsRow.laid W) :
  Calls Tryz.prog 8 args W fun e W'=>∃ v,e = .returned v∧Rows.renderRejectsSpec.post enc Tryz.prog Tryz.f8 false true false false W args v W':=by
 have hG:nT Sg (· < W.heap.size) W:=glOk (laid:=Rows.renderRejectsRow.laid) hL
 have hW0:=hW
 obtain ⟨p,q,hA,hV,rfl,_,_⟩:=hW0
 obtain ⟨rfl,rfl⟩:=trodVars_none hV
 have hA:DataW.TrodAll enc Sg.P W 0 (fun _=>true) true [26,3,74,28] args.toList ds p:=hA
 obtain ⟨v0,v1,v2,v3,d0,d1,d2,d3,p0,p1,p2,p3,rfl,rfl,rfl,h0,h1,h2,h3⟩:=trodAll_four hA
 obtain ⟨n0,w0,e0⟩:=iE Bm (by kernel_rfl) (hval 0 26 v0 rfl rfl) h0 (dO hsz 0 rfl rfl)
 obtain ⟨n1,w1,e1⟩:=vh (k := .i64) (by kernel_rfl) (hval 1 3 v1 rfl rfl) h1
 obtain ⟨n2,w2,e2⟩:=iE c_op (by kernel_rfl) (hval 2 74 v2 rfl rfl) h2 (dO hsz 2 rfl rfl)
 obtain ⟨n3,w3,e3⟩:=iE Uc (by kernel_rfl) (hval 3 28 v3 rfl rfl) h3 (dO hsz 3 rfl rfl)
 exact sD (S:=Sg) (xW n0 w0 n1 n2 w2.2.2.2.2.2.2.2.1.1 n3) (by kernel_rfl) (by kernel_rfl) (tb:=4) (by kernel_rfl) (by kernel_rfl) rfl hW rfl hG rfl (gx e0 (gx e1 (gx e2 (gx e3 Az))))
theorem laid_met (os:Os):laidMet Tryz.prog Rows.renderRejectsRow.laid ((gM os).forCall (fun _ _=>0) ⟨#[], #[.agg #[.int .i64 0, .int .i64 0, .int .i64 0, .int .i64 0, .int .i64 0, .int .i64 0, .int .i64 0, .slice none 0 0, .slice none 0 0, .slice none 0 0], .int .i64 0, .agg #[.int .i64 0, .int .i64 0, .int .i64 0, .int .i64 0, .int .i64 0, .int .i64 0, .int .i64 0, .int .u16 0, .int .i64 0, .int .i64 0, .bool false, .bool false], .agg #[.int .i64 0, .int .i64 0, .int .i64 0, .int .i64 0]],[]⟩).memory :=
 laidMet_of_run' 8 (by kernel_rfl) (by kernel_rfl)
theorem reads (os:Os) {H:Type} (enc:TypeId × Value→H):∃ places,DataW.whole enc Tryz.prog ((gM os).forCall (fun _ _=>0) ⟨#[], #[.agg #[.int .i64 0, .int .i64 0, .int .i64 0, .int .i64 0, .int .i64 0, .int .i64 0, .int .i64 0, .slice none 0 0, .slice none 0 0, .slice none 0 0], .int .i64 0, .agg #[.int .i64 0, .int .i64 0, .int .i64 0, .int .i64 0, .int .i64 0, .int .i64 0, .int .i64 0, .int .u16 0, .int .i64 0, .int .i64 0, .bool false, .bool false], .agg #[.int .i64 0, .int .i64 0, .int .i64 0, .int .i64 0]],[]⟩).memory Tryz.f8.params.toList Rows.renderRejectsSpec.vars false (#[.agg #[.int .i64 0, .int .i64 0, .int .i64 0, .int .i64 0, .int .i64 0, .int .i64 0, .int .i64 0, .slice none 0 0, .slice none 0 0, .slice none 0 0], .int .i64 0, .agg #[.int .i64 0, .int .i64 0, .int .i64 0, .int .i64 0, .int .i64 0, .int .i64 0, .int .i64 0, .int .u16 0, .int .i64 0, .int .i64 0, .bool false, .bool false], .agg #[.int .i64 0, .int .i64 0, .int .i64 0, .int .i64 0]]:Array Value).toList 8=some ([.agg [.lit (.int .i64 0), .lit (.int .i64 0), .lit (.int .i64 0), .lit (.int .i64 0), .lit (.int .i64 0), .lit (.int .i64 0), .lit (.int .i64 0), .nil, .nil, .nil], .lit (.int .i64 0), .agg [.lit (.int .i64 0), .lit (.int .i64 0), .lit (.int .i64 0), .lit (.int .i64 0), .lit (.int .i64 0), .lit (.int .i64 0), .lit (.int .i64 0), .lit (.int .u16 0), .lit (.int .i64 0), .lit (.int .i64 0), .lit (.bool false), .lit (.bool false)], .agg [.lit (.int .i64 0), .lit (.int .i64 0), .lit (.int .i64 0), .lit (.int .i64 0)]],[],places) :=
 ⟨[],by kernel_rfl⟩
theorem lifted (os : Os) (started : os.Started) (H : Type) (enc : TypeId × Value → H) (F : Stop.Interp) :
  ReturnsInHanded {} Tryz.checked os 8 .any ((OpenSpec.ofChange Rows.renderRejectsSpec).preRow enc Tryz.prog Tryz.f8 Rows.renderRejectsRow.domain false Rows.renderRejectsRow.laid) (((OpenSpec.ofChange Rows.renderRejectsSpec).at F).post enc Tryz.prog Tryz.f8 false true false false):=by
 obtain ⟨places,hx⟩:=reads os enc
 refine returnsInHanded_of_row (C:=Tryz.checked) (s:=OpenSpec.ofChange Rows.renderRejectsSpec) own started (by kernel_rfl) Tryz.func8
  (witness_row_at (enc:=enc) (C:=Tryz.checked) false (gM os) #[.agg #[.int .i64 0, .int .i64 0, .int .i64 0, .int .i64 0, .int .i64 0, .int .i64 0, .int .i64 0, .slice none 0 0, .slice none 0 0, .slice none 0 0], .int .i64 0, .agg #[.int .i64 0, .int .i64 0, .int .i64 0, .int .i64 0, .int .i64 0, .int .i64 0, .int .i64 0, .int .u16 0, .int .i64 0, .int .i64 0, .bool false, .bool false], .agg #[.int .i64 0, .int .i64 0, .int .i64 0, .int .i64 0]] rfl (by kernel_rfl) (by kernel_rfl) (by kernel_rfl)
   (OpenSpec.preRow_of_cond 8 hx (by kernel_rfl) (fun k hk=>by cases hk) (by kernel_rfl) (laid_met os))) ?_
 intro W base args ds gs before hval hW _ _ hsz hL _ _
 have hgs:gs=[]:=by
  obtain ⟨_,_,_,hV,_⟩:=hW
  exact (trodVars_none hV).1
 subst hgs
 have hsz1:(DataW.weightsEach Tryz.prog (Tryz.f8.params.toList ++ []) (ds ++ [])).all (· ≤ reachBytes)=true:=hsz
 rw [List.append_nil,List.append_nil] at hsz1
 exact contract H enc W base args ds [] before hval hW hsz1 hL
end Go.Proofs.YtcbifofjjpfbcaaGreatDoor.renderRejects
