/-
  The law RenderRegionIsAPart of compositorlaw25 answers true for every scene, every two arrays of four integers and every two integers that it is given, and leaves all of them as they were. It asks nothing else of its arguments; the package-level variables that its row lists hold what the row says.
-/
import Derived.Test.YtcbifofjjpfbcaaGreatDoorCards
import Derived.Test.YtcbifofjjpfbcaaGreatDoorTie
import Derived.Test.YtcbifofjjpfbcaaGreatDoorXt4
import Derived.Deep.DeepHandedRow
set_option maxRecDepth 100000
namespace Go.Proofs.YtcbifofjjpfbcaaGreatDoor.renderRegionIsAPart
open Go.ChangeShapes Go.WideShapes Go.ChangeAt Go.RowKit Go.SL
theorem own:ownKnob Tryz.prog.godebug=none:=by kernel_rfl
theorem contract (H : Type) (enc : TypeId × Value → H) (W : World) (base : Nat) (args : Array Value) (ds gs : List (DataW H)) (before : List MemPlace)
  (hval:∀ (j:Nat) t v,Tryz.f6.params[j]?=some t→args[j]?=some v→Value.okWide Tryz.prog W .any base t v)
  (hW:DataW.Whole enc Tryz.prog Tryz.f6.params.toList Rows.renderRegionIsAPartSpec.vars false W args.toList ds gs before)
  (hsz:(DataW.weightsEach Tryz.prog Tryz.f6.params.toList ds).all (· ≤ reachBytes)=true) (hL:laidMetH Tryz.prog Rows.renderRegionIsAPartRow.laid W) :
  Calls Tryz.prog 6 args W fun e W'=>∃ v,e = .returned v∧Rows.renderRegionIsAPartSpec.post enc Tryz.prog Tryz.f6 false true false false W args v W':=by
 have hG:nT Sg (· < W.heap.size) W:=glOk (laid:=Rows.renderRegionIsAPartRow.laid) hL
 have hW0:=hW
 obtain ⟨p,q,hA,hV,rfl,_,_⟩:=hW0
 obtain ⟨rfl,rfl⟩:=trodVars_none hV
 have hA:DataW.TrodAll enc Sg.P W 0 (fun _=>true) true [26,61,61,3,3] args.toList ds p:=hA
 obtain ⟨v0,v1,v2,v3,v4,d0,d1,d2,d3,d4,p0,p1,p2,p3,p4,rfl,rfl,rfl,h0,h1,h2,h3,h4⟩:=trodAll_five hA
 obtain ⟨n0,w0,e0⟩:=iE Bm (by kernel_rfl) (hval 0 26 v0 rfl rfl) h0 (dO hsz 0 rfl rfl)
 obtain ⟨n1,w1,e1⟩:=iE XF (by kernel_rfl) (hval 1 61 v1 rfl rfl) h1 (dO hsz 1 rfl rfl)
 obtain ⟨n2,w2,e2⟩:=iE XF (by kernel_rfl) (hval 2 61 v2 rfl rfl) h2 (dO hsz 2 rfl rfl)
 obtain ⟨n3,w3,e3⟩:=vh (k := .i64) (by kernel_rfl) (hval 3 3 v3 rfl rfl) h3
 obtain ⟨n4,w4,e4⟩:=vh (k := .i64) (by kernel_rfl) (hval 4 3 v4 rfl rfl) h4
 exact sD (S:=Sg) (IF n0 w0 n1 n2 w2 n3 n4) (by kernel_rfl) (by kernel_rfl) (tb:=4) (by kernel_rfl) (by kernel_rfl) rfl hW rfl hG rfl (gx e0 (gx e1 (gx e2 (gx e3 (gx e4 Az)))))
theorem laid_met (os:Os):laidMet Tryz.prog Rows.renderRegionIsAPartRow.laid ((gM os).forCall (fun _ _=>0) ⟨#[], #[.agg #[.int .i64 0, .int .i64 0, .int .i64 0, .int .i64 0, .int .i64 0, .int .i64 0, .int .i64 0, .slice none 0 0, .slice none 0 0, .slice none 0 0], .agg #[.int .i64 0, .int .i64 0, .int .i64 0, .int .i64 0], .agg #[.int .i64 0, .int .i64 0, .int .i64 0, .int .i64 0], .int .i64 0, .int .i64 0],[]⟩).memory :=
 laidMet_of_run' 8 (by kernel_rfl) (by kernel_rfl)
theorem reads (os:Os) {H:Type} (enc:TypeId × Value→H):∃ places,DataW.whole enc Tryz.prog ((gM os).forCall (fun _ _=>0) ⟨#[], #[.agg #[.int .i64 0, .int .i64 0, .int .i64 0, .int .i64 0, .int .i64 0, .int .i64 0, .int .i64 0, .slice none 0 0, .slice none 0 0, .slice none 0 0], .agg #[.int .i64 0, .int .i64 0, .int .i64 0, .int .i64 0], .agg #[.int .i64 0, .int .i64 0, .int .i64 0, .int .i64 0], .int .i64 0, .int .i64 0],[]⟩).memory Tryz.f6.params.toList Rows.renderRegionIsAPartSpec.vars false (#[.agg #[.int .i64 0, .int .i64 0, .int .i64 0, .int .i64 0, .int .i64 0, .int .i64 0, .int .i64 0, .slice none 0 0, .slice none 0 0, .slice none 0 0], .agg #[.int .i64 0, .int .i64 0, .int .i64 0, .int .i64 0], .agg #[.int .i64 0, .int .i64 0, .int .i64 0, .int .i64 0], .int .i64 0, .int .i64 0]:Array Value).toList 8=some ([.agg [.lit (.int .i64 0), .lit (.int .i64 0), .lit (.int .i64 0), .lit (.int .i64 0), .lit (.int .i64 0), .lit (.int .i64 0), .lit (.int .i64 0), .nil, .nil, .nil], .agg [.lit (.int .i64 0), .lit (.int .i64 0), .lit (.int .i64 0), .lit (.int .i64 0)], .agg [.lit (.int .i64 0), .lit (.int .i64 0), .lit (.int .i64 0), .lit (.int .i64 0)], .lit (.int .i64 0), .lit (.int .i64 0)],[],places) :=
 ⟨[],by kernel_rfl⟩
theorem lifted (os : Os) (started : os.Started) (H : Type) (enc : TypeId × Value → H) (F : Stop.Interp) :
  ReturnsInHanded {} Tryz.checked os 6 .any ((OpenSpec.ofChange Rows.renderRegionIsAPartSpec).preRow enc Tryz.prog Tryz.f6 Rows.renderRegionIsAPartRow.domain false Rows.renderRegionIsAPartRow.laid) (((OpenSpec.ofChange Rows.renderRegionIsAPartSpec).at F).post enc Tryz.prog Tryz.f6 false true false false):=by
 obtain ⟨places,hx⟩:=reads os enc
 refine returnsInHanded_of_row (C:=Tryz.checked) (s:=OpenSpec.ofChange Rows.renderRegionIsAPartSpec) own started (by kernel_rfl) Tryz.func6
  (witness_row_at (enc:=enc) (C:=Tryz.checked) false (gM os) #[.agg #[.int .i64 0, .int .i64 0, .int .i64 0, .int .i64 0, .int .i64 0, .int .i64 0, .int .i64 0, .slice none 0 0, .slice none 0 0, .slice none 0 0], .agg #[.int .i64 0, .int .i64 0, .int .i64 0, .int .i64 0], .agg #[.int .i64 0, .int .i64 0, .int .i64 0, .int .i64 0], .int .i64 0, .int .i64 0] rfl (by kernel_rfl) (by kernel_rfl) (by kernel_rfl)
   (OpenSpec.preRow_of_cond 8 hx (by kernel_rfl) (fun k hk=>by cases hk) (by kernel_rfl) (laid_met os))) ?_
 intro W base args ds gs before hval hW _ _ hsz hL _ _
 have hgs:gs=[]:=by
  obtain ⟨_,_,_,hV,_⟩:=hW
  exact (trodVars_none hV).1
 subst hgs
 have hsz1:(DataW.weightsEach Tryz.prog (Tryz.f6.params.toList ++ []) (ds ++ [])).all (· ≤ reachBytes)=true:=hsz
 rw [List.append_nil,List.append_nil] at hsz1
 exact contract H enc W base args ds [] before hval hW hsz1 hL
end Go.Proofs.YtcbifofjjpfbcaaGreatDoor.renderRegionIsAPart
