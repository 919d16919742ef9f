/- Part of the proof: KB, L3. -/
import Derived.Test.YtmfblbbemekkoaaGreatDoorM35
set_option linter.unusedSimpArgs false
set_option linter.unusedVariables false
set_option maxRecDepth 8000
namespace Go.Proofs.YtmfblbbemekkoaaGreatDoor
open Go Go.SL
open Go.RowKit (wrap64)
theorem OY {l:List Image} {k i j:Nat} {m:Image} (hk:k<l.length):bj aN (l.set k m) i j=if i=k then (aN m).getD j .any else bj aN l i j:=by
 show (aN ((l.set k m).getD i default)).getD j .any=_
 simp only [List.getD_eq_getElem?_getD,List.getElem?_set]
 by_cases h:i=k
 ·subst h
  rw [if_pos rfl,if_pos rfl,if_pos hk];rfl
 ·rw [if_neg (fun q=>h q.symm),if_neg h];rfl
end Go.Proofs.YtmfblbbemekkoaaGreatDoor
set_option maxHeartbeats 4000000
set_option maxRecDepth 16000
namespace Go.Proofs.YtmfblbbemekkoaaGreatDoor
open Go Go.SL
open Go.RowKit (wrap64)
attribute [local go_sem] Int.toNat_natCast ig Dl vG FT
theorem xj {s:Script} (E:EvOk s):EvOk { s with bits:=9 }:=⟨⟨E.len.order,E.len.images,E.len.ops⟩,E.op,fun h=>absurd (show bA { s with bits:=9 }=1 by unfold bA;rw [if_pos (by show ¬ ((9:Int)=8∨(9:Int)=16);decide)]) (by rw [h];decide)⟩
theorem MN {s:Script} (E:EvOk s) (hf:bA s=0) (hn:s.ops.length≤4096) {o:Op} (ho:0≤o.opacity):EvOk { s with ops:=s.ops ++ [o] } :=
 ⟨⟨E.len.order,E.len.images,by show (s.ops ++ [o]).length≤_;rw [List.length_append];simp;omega⟩,fun q hq=>by
  rcases List.mem_append.1 hq with h|h
  ·exact E.op q h
  ·rw [List.mem_singleton.1 h];exact ho,fun _ m hm=>E.im hf m hm⟩
def DJ (s:Script):Script := { s with images:=s.images.set 0 { s.images.getD 0 default with w := -1 } }
theorem MS {s:Script} (E:EvOk s) (hf:bA s=0) (hn:1≤s.images.length):EvOk (DJ s):=by
 refine ⟨⟨E.len.order,by show (List.set _ _ _).length≤_;rw [List.length_set];exact E.len.images,E.len.ops⟩,E.op,fun _ m hm => ?_⟩
 have hm:m ∈ s.images.set 0 { s.images.getD 0 default with w := -1 }:=hm
 rcases List.mem_or_eq_of_mem_set hm with h|h
 ·exact E.im hf m h
 ·have h0:s.images.getD 0 default ∈ s.images:=by
   rw [List.getD_eq_getElem?_getD,List.getElem?_eq_getElem (by omega)];exact List.getElem_mem _
  rw [h]
  refine ⟨.inr (.inl ?_),(E.im hf _ h0).2⟩
  unfold aX
  have:cl (-1) (s.images.getD 0 default).h=false:=by unfold cl;exact decide_eq_false (by omega)
  show (cl (-1) _ && _)=false
  rw [this,Bool.false_and]
theorem lq (s:Script) (x y:Int) (E:EvOk s) (hx:i64 x) (hy:i64 y):aC Sg 28 [ag (aE s),I x,I y] (fun r=>r = .tup [.c (.p (pM (cm s x y))),I (dd s x y)]):=by
 refine ix ?_
 have h:=qi s x y E hx hy
 refine ⟨h.1,fun ok w vs h1 h2 h3 h4=>(h.2 ok w vs h1 h2 h3 h4).mono fun e w' ⟨v,r,he,hr,hq⟩=>⟨v,r,he, ?_,hq⟩⟩
 rw [hr]
 refine gh ⟨kj ?_,kj (PV.le_refl _),trivial⟩
 split
 ·exact PV.le_refl _
 ·rename_i h0
  have e:cm s x y=[]:=by unfold cm;rw [if_neg h0]
  rw [e]
  exact iU
theorem xv (c : Scene) (hc : SceneOk c) (what x y : Int) (hx : i64 x) (hy : i64 y) (o : Op) (ho : 0 ≤ o.opacity) :
  aC Sg 5 [ag (dk c),I what,I x,I y,ag (cT o)] (fun r=>r = .b (B true)):=by
 have ht:True:=trivial
 have hO:=Gt c
 have E:=hO.ev
 have hsm:Small (au c).canvas:=bK c
 have hp:=pd (au c).canvas x y hsm
 have hpi:=BU hsm x y
 have hfr:=hO.V.frame
 have hcnt:=hO.V.cnt
 have hn1:=hO.n1
 have hn2:=hO.n2
 have hx1 : -100≤(au c).canvas.x1∧(au c).canvas.x1≤100:=by
  obtain ⟨b1,b2,b3,b4,b5,b6⟩:=hsm
  have hcx : -6≤(aq c).x0∧(aq c).x0≤6:=by
   unfold aq
   dsimp only
   omega
  have b5:1≤(aq c).x1 - (aq c).x0∧(aq c).x1 - (aq c).x0≤5:=b5
  show -100≤(aq c).x1∧(aq c).x1≤100
  omega
 have hm:=mK what 4 (by omega)
 have hm3:=mK x 3 (by omega)
 have hw4:iJ what 4=0∨iJ what 4=1∨iJ what 4=2∨iJ what 4=3:=by
  unfold iJ
  rw [if_neg (by decide)]
  omega
 have hw3:0≤iJ x 3∧iJ x 3≤2:=by
  unfold iJ
  rw [if_neg (by decide)]
  omega
 have haw:=mn
 have key:∀ (S:Script) (u v:Int),dd S u v≠0→cm S u v=[]:=fun S u v h=>by unfold cm;rw [if_neg h]
 have hbool:∀ (e:Int) (L:List Mic),(e≠0→L=[])→((e == 0) || ((L.length:Int) == 0))=true:=fun e L h=>by
  by_cases h0:e=0
  ·rw [h0];rfl
  ·rw [h h0];simp
 have hg:=lF c hc
 have hgo:=rj c hc
 have hgi:=lN c hc
 generalize Ei (au c).canvas x=pu at *
 generalize Ez (au c).canvas y=pv at *
 generalize au c=s at *
 rcases hw4 with hW4|hW4|hW4|hW4
 ·rw [hW4] at hm
  have e0:((0:Int) == 0)=true:=rfl
  refine aA Tryz.func5 [.tmp 10] ?_
  repeat' (first|((with_reducible refine aT (id:=2) (fun K hW => ?_));(try simp (maxSteps:=999999)(disch:=omega) only [go_sem]);and_intros;(all_goals first|(refine hK _ ?_;clear hK K)|exact aa|skip))|((first|refine ai (fun K hK => ?_)|refine ae (hg) ?_|refine ae (hp) ?_);and_intros;(all_goals first|(refine hK _ ?_;clear hK K)|exact aa|skip)))
  refine hW _ (aQ [(1, .b (I what)),(10, .b (B false)),(11, .b (.c (.ptr 2 0))),(12, .b (I pu)),(13, .b (I pv))] [(2, .fix ((aE s).map CV.p))] 3) ?_ ?_
  ·refine az [(2,some 2)] ?_ ?_
   and_intros
   all_goals first|exact ao|skip
  clear hW
  refine eB ?_
  refine ai fun K hK => ?_
  refine ae hm ?_
  refine hK _ ?_
  clear hK K
  refine dZ fun KB hV => ?_
  repeat' (first|refine aj e0 ?_|(refine ai (fun K hK => ?_);and_intros;(all_goals first|(refine hK _ ?_;clear hK K)|exact aa|skip)))
  rw [ee,ah]
  refine hV _ (aQ [(10, .b (B false)),(11, .b (.c (.ptr 2 0))),(12, .b (I pu)),(13, .b (I pv))] [(2, .fix ((aE { s with bits:=9 }).map CV.p))] 3) ?_ ?_
  ·refine az [(2,some 2)] ?_ ?_
   and_intros
   all_goals first|exact ao|skip
  have q1:=gF _ pu pv (xj E) hpi.1 hpi.2
  have q2:=mI _ pu pv (xj E) hpi.1 hpi.2
  have q3:=lq _ pu pv (xj E) hpi.1 hpi.2
  have q4:=hbool _ _ (key { s with bits:=9 } pu pv)
  generalize dd { s with bits:=9 } pu pv=e at *
  generalize cm { s with bits:=9 } pu pv=L at *
  generalize gv { s with bits:=9 } pu pv=w at *
  repeat' (first|((first|refine ai (fun K hK => ?_)|refine ae (q1) ?_|refine ae (q2) ?_|refine ae (q3) ?_|refine ae (haw) ?_);and_intros;(all_goals first|(refine hK _ ?_;clear hK K)|exact aa|skip))|(refine ak ?_;(try clear hB KB);(try clear hK K)))
  simp only [beq_self_eq_true,Bool.true_and,q4]
 ·rw [hW4] at hm
  have e0:((1:Int) == 0)=false:=rfl
  have e1:((1:Int) == 1)=true:=rfl
  refine aA Tryz.func5 [.tmp 10] ?_
  repeat' (first|((with_reducible refine aT (id:=2) (fun K hW => ?_));(try simp (maxSteps:=999999)(disch:=omega) only [go_sem]);and_intros;(all_goals first|(refine hK _ ?_;clear hK K)|exact aa|skip))|((first|refine ai (fun K hK => ?_)|refine xg (hgo) ?_|refine ae (hp) ?_);and_intros;(all_goals first|(refine hK _ ?_;clear hK K)|exact aa|skip)))
  refine hW _ (aQ [(1, .b (I what)),(9, .b (.c (.ptr 1 0))),(10, .b (B false)),(11, .b (.c (.ptr 3 0))),(12, .b (I pu)),(13, .b (I pv))] [(1, .fix ((cT o).map CV.p)),(2, .arr 29 12 s.ops.length (bj cT s.ops)),
   (3, .fix [.p (PI s.bits), .p (PI s.canvas.x0), .p (PI s.canvas.y0), .p (PI s.canvas.x1), .p (PI s.canvas.y1), .p (PI s.tileW), .p (PI s.tileH), .p (dQ s.order), .p (sC s.images), .own 2 s.ops.length])] 4) ?_ ?_
  ·refine az [(1,some 1),(2,some 2),(3,some 3)] ?_ ?_
   and_intros
   all_goals first|exact ao|skip
  clear hW
  refine eB ?_
  refine ai fun K hK => ?_
  refine ae hm ?_
  refine hK _ ?_
  clear hK K
  refine dZ fun KB hV => ?_
  repeat' (first|refine aj (And.intro e0 e1) ?_|(refine ai (fun K hK => ?_);and_intros;(all_goals first|(refine hK _ ?_;clear hK K)|exact aa|skip)))
  rw [ee,ah]
  refine hV _ (aQ [(10, .b (B false)),(11, .b (.c (.ptr 3 0))),(12, .b (I pu)),(13, .b (I pv))] [(3, .fix ((aE { s with ops:=s.ops ++ [o] }).map CV.p))] 4) ?_ ?_
  ·refine az [(3,some 3)] ?_ ?_
   and_intros
   all_goals first|exact ao|skip
   ·show _=(s.ops ++ [o]).length
    rw [List.length_append];rfl
   ·refine dz (enc:=cT) (xs:=s.ops) (x:=o) (fun j hj => ?_)
    have hivl:j=0∨j=1∨j=2∨j=3∨j=4∨j=5∨j=6∨j=7∨j=8∨j=9∨j=10∨j=11:=by omega
    rcases hivl with rfl|rfl|rfl|rfl|rfl|rfl|rfl|rfl|rfl|rfl|rfl|rfl <;> rfl
  have E2:=MN E hfr hcnt ho
  have q1:=gF _ pu pv E2 hpi.1 hpi.2
  have q2:=mI _ pu pv E2 hpi.1 hpi.2
  have q3:=lq _ pu pv E2 hpi.1 hpi.2
  have q4:=hbool _ _ (key { s with ops:=s.ops ++ [o] } pu pv)
  generalize dd { s with ops:=s.ops ++ [o] } pu pv=e at *
  generalize cm { s with ops:=s.ops ++ [o] } pu pv=L at *
  generalize gv { s with ops:=s.ops ++ [o] } pu pv=w at *
  repeat' (first|((first|refine ai (fun K hK => ?_)|refine ae (q1) ?_|refine ae (q2) ?_|refine ae (q3) ?_|refine ae (haw) ?_);and_intros;(all_goals first|(refine hK _ ?_;clear hK K)|exact aa|skip))|(refine ak ?_;(try clear hB KB);(try clear hK K)))
  simp only [beq_self_eq_true,Bool.true_and,q4]
 ·rw [hW4] at hm
  have e0:((2:Int) == 0)=false:=rfl
  have e1:((2:Int) == 1)=false:=rfl
  have e2:((2:Int) == 2)=true:=rfl
  refine aA Tryz.func5 [.tmp 10] ?_
  repeat' (first|((with_reducible refine aT (id:=2) (fun K hW => ?_));(try simp (maxSteps:=999999)(disch:=omega) only [go_sem]);and_intros;(all_goals first|(refine hK _ ?_;clear hK K)|exact aa|skip))|((first|refine ai (fun K hK => ?_)|refine ae (hg) ?_|refine ae (hp) ?_);and_intros;(all_goals first|(refine hK _ ?_;clear hK K)|exact aa|skip)))
  refine hW _ (aQ [(1, .b (I what)),(2, .b (I x)),(3, .b (I y)),(10, .b (B false)),(11, .b (.c (.ptr 2 0))),(12, .b (I pu)),(13, .b (I pv))] [(2, .fix ((aE s).map CV.p))] 3) ?_ ?_
  ·refine az [(2,some 2)] ?_ ?_
   and_intros
   all_goals first|exact ao|skip
  clear hW
  refine eB ?_
  refine ai fun K hK => ?_
  refine ae hm ?_
  refine hK _ ?_
  clear hK K
  refine dZ fun KB hV => ?_
  repeat' (first|refine aj (And.intro e0 (And.intro e1 e2)) ?_|((first|refine ai (fun K hK => ?_)|refine ae (hm3) ?_);and_intros;(all_goals first|(refine hK _ ?_;clear hK K)|exact aa|skip)))
  rw [ee,ah]
  refine hV _ (aQ [(10, .b (B false)),(11, .b (.c (.ptr 2 0))),(12, .b (I (s.canvas.x1+iJ x 3))),(13, .b (I y))] [(2, .fix ((aE s).map CV.p))] 3) ?_ ?_
  ·refine az [(2,some 2)] ?_ ?_
   and_intros
   all_goals first|exact ao|skip
  have q1:=gF _ (s.canvas.x1+iJ x 3) y E ⟨by omega,by omega⟩ hy
  have q2:=mI _ (s.canvas.x1+iJ x 3) y E ⟨by omega,by omega⟩ hy
  have q3:=lq _ (s.canvas.x1+iJ x 3) y E ⟨by omega,by omega⟩ hy
  have q4:=hbool _ _ (key s (s.canvas.x1+iJ x 3) y)
  generalize dd s (s.canvas.x1+iJ x 3) y=e at *
  generalize cm s (s.canvas.x1+iJ x 3) y=L at *
  generalize gv s (s.canvas.x1+iJ x 3) y=w at *
  repeat' (first|((first|refine ai (fun K hK => ?_)|refine ae (q1) ?_|refine ae (q2) ?_|refine ae (q3) ?_|refine ae (haw) ?_);and_intros;(all_goals first|(refine hK _ ?_;clear hK K)|exact aa|skip))|(refine ak ?_;(try clear hB KB);(try clear hK K)))
  simp only [beq_self_eq_true,Bool.true_and,q4]
 ·rw [hW4] at hm
  have e0:((3:Int) == 0)=false:=rfl
  have e1:((3:Int) == 1)=false:=rfl
  have e2:((3:Int) == 2)=false:=rfl
  refine aA Tryz.func5 [.tmp 10] ?_
  repeat' (first|((with_reducible refine aT (id:=2) (fun K hW => ?_));(try simp (maxSteps:=999999)(disch:=omega) only [go_sem]);and_intros;(all_goals first|(refine hK _ ?_;clear hK K)|exact aa|skip))|((first|refine ai (fun K hK => ?_)|refine xg (hgi) ?_|refine ae (hp) ?_);and_intros;(all_goals first|(refine hK _ ?_;clear hK K)|exact aa|skip)))
  refine hW _ (aQ [(1, .b (I what)),(10, .b (B false)),(11, .b (.c (.ptr 3 0))),(12, .b (I pu)),(13, .b (I pv))] [(2, .arr 47 28 s.images.length (bj aN s.images)),
   (3, .fix [.p (PI s.bits), .p (PI s.canvas.x0), .p (PI s.canvas.y0), .p (PI s.canvas.x1), .p (PI s.canvas.y1), .p (PI s.tileW), .p (PI s.tileH), .p (dQ s.order), .own 2 s.images.length, .p (ma s.ops)])] 4) ?_ ?_
  ·refine az [(2,some 2),(3,some 3)] ?_ ?_
   and_intros
   all_goals first|exact ao|skip
  clear hW
  refine eB ?_
  refine ai fun K hK => ?_
  refine ae hm ?_
  refine hK _ ?_
  clear hK K
  refine dZ fun KB hV => ?_
  repeat' (first|refine aj (And.intro e0 (And.intro e1 e2)) ?_|(refine ai (fun K hK => ?_);and_intros;(all_goals first|(refine hK _ ?_;clear hK K)|exact aa|skip)))
  rw [ee,ah]
  refine hV _ (aQ [(10, .b (B false)),(11, .b (.c (.ptr 3 0))),(12, .b (I pu)),(13, .b (I pv))] [(3, .fix ((aE (DJ s)).map CV.p))] 4) ?_ ?_
  ·refine az [(3,some 3)] ?_ ?_
   and_intros
   all_goals first|exact ao|skip
   ·exact List.length_set.symm
   ·intro i hi j hj
    show PV.le _ (bj aN (s.images.set 0 { s.images.getD 0 default with w := -1 }) i j)
    rw [OY (by omega)]
    by_cases e:i=0
    ·subst e
     rw [if_pos rfl,if_pos rfl]
     have hivl:j=0∨j=1∨j=2∨j=3∨j=4∨j=5∨j=6∨j=7∨j=8∨j=9∨j=10∨j=11∨j=12∨j=13∨j=14∨j=15∨j=16∨j=17∨j=18∨j=19∨j=20∨j=21∨j=22∨j=23∨j=24∨j=25∨j=26∨j=27:=by omega
     rcases hivl with rfl|rfl|rfl|rfl|rfl|rfl|rfl|rfl|rfl|rfl|rfl|rfl|rfl|rfl|rfl|rfl|rfl|rfl|rfl|rfl|rfl|rfl|rfl|rfl|rfl|rfl|rfl|rfl <;> exact fun _ _ _ h=>h
    ·rw [if_neg e,if_neg e]
     exact fun _ _ _ h=>h
  have E2:=MS E hfr hn1
  have q1:=gF _ pu pv E2 hpi.1 hpi.2
  have q2:=mI _ pu pv E2 hpi.1 hpi.2
  have q3:=lq _ pu pv E2 hpi.1 hpi.2
  have q4:=hbool _ _ (key (DJ s) pu pv)
  generalize dd (DJ s) pu pv=e at *
  generalize cm (DJ s) pu pv=L at *
  generalize gv (DJ s) pu pv=w at *
  repeat' (first|((first|refine ai (fun K hK => ?_)|refine ae (q1) ?_|refine ae (q2) ?_|refine ae (q3) ?_|refine ae (haw) ?_);and_intros;(all_goals first|(refine hK _ ?_;clear hK K)|exact aa|skip))|(refine ak ?_;(try clear hB KB);(try clear hK K)))
  simp only [beq_self_eq_true,Bool.true_and,q4]
end Go.Proofs.YtmfblbbemekkoaaGreatDoor
