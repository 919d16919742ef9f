/- Part of the proof: F24, U9. -/
import Derived.Test.YtcbifofjjpfbcaaGreatDoorM14
set_option linter.unusedSimpArgs false
set_option linter.unusedVariables false
set_option maxHeartbeats 8000000
set_option maxRecDepth 16000
namespace Go.Proofs.YtcbifofjjpfbcaaGreatDoor
open Go Go.SL
open Go.RowKit (wrap64)
theorem wg {l jk : List Op} {x : Op} {g : Nat → Nat → PV} (hg : ∀ j, j < 12 → g 0 j = (eA x).getD j .any) :
  ∀ i,i<l.length+1→∀ j,j<12→PV.le (gh l.length (dG eA (l ++ jk)) g i j) (dG eA (l ++ [x]) i j):=fun i hi j hj=>by
 have:=fy (enc:=eA) (xs:=l) (x:=x) (s:=12) (g:=g) hg i hi j hj
 unfold gh at this ⊢
 by_cases h:i<l.length
 ·rw [if_pos h] at this ⊢
  have e:(l ++ jk).getD i default=l.getD i default:=by
   rw [List.getD_eq_getElem?_getD,List.getD_eq_getElem?_getD,List.getElem?_append_left h]
  unfold dG at this ⊢
  rw [e];exact this
 ·rw [if_neg h] at this ⊢
  exact this
def Pp (s:Script):List (Option PV):=[some (PI s.bits),some (PI s.canvas.x0),some (PI s.canvas.y0),some (PI s.canvas.x1),some (PI s.canvas.y1),some (PI s.tileW),some (PI s.tileH),some (eZ s.order),some (vL s.images),none]
attribute [local go_sem] Pp
theorem Aw (s:Scene) (hs:SceneOk s):vl Sg 10 [ag (gI s)] (Pp (aD s)) 9 74 12 (aD s).ops.length (dG eA (aD s).ops):=by
 obtain ⟨hb,⟨x1,x2⟩,⟨y1,y2⟩,⟨w1,w2⟩,⟨v1,v2⟩,⟨t1,t2⟩,⟨u1,u2⟩,ho,hp,hop,hpic,hraw⟩:=hs
 have hm:=mL s.bits
 have hsm:=cY s
 have htw:=fu (aG s) (cT s) (cW s)
 have hw0:1≤1+s.w % 5∧1+s.w % 5≤5:=by omega
 have hh0:1≤1+s.h % 4∧1+s.h % 4≤4:=by omega
 have ew:s.tileW % (1+s.w % 5)=cT s - 1:=by unfold cT;omega
 have eh:s.tileH % (1+s.h % 4)=cW s - 1:=by unfold cW;omega
 have bw:=Int.emod_nonneg s.tileW (show 1+s.w % 5≠0 by omega)
 have bw2:=Int.emod_lt_of_pos s.tileW (show 0<1+s.w % 5 by omega)
 have bh:=Int.emod_nonneg s.tileH (show 1+s.h % 4≠0 by omega)
 have bh2:=Int.emod_lt_of_pos s.tileH (show 0<1+s.h % 4 by omega)
 have hmx:aF Sg 32 [I s.bits] (fun r=>r = .b (U (dF s.bits))):=Kj _
 refine Lz Tryz.func10 rfl (rs:=[.cell 2 32]) rfl rfl gp (by decide +kernel) (Nat.le_of_ble_eq_true rfl) (cG (by simp (maxSteps:=999999)(disch:=omega) only [go_sem])) ?_
 repeat' (first|refine an ?_|((with_reducible refine cd (id:=10) (fun K hW => ?_));(try simp (maxSteps:=999999)(disch:=omega) only [go_sem]);and_intros;all_goals first|(refine hK _ ?_;clear hK K)|try exact aa)|((first|refine aj (fun K hK => ?_)|refine ae (hmx) ?_|refine ae (cL _ _ (by omega) (by omega)) ?_|refine ae (ic ⟨_,_,_,_⟩ _ _) ?_);and_intros;all_goals first|(refine hK _ ?_;clear hK K)|try exact aa)|(apply aC;(case hf=>rfl);(case hc=>exact aS);(all_goals first|(intro hb;(try simp only [bZ] at hb))|skip))|exact ao)
 refine yA ?_ ?_ (by simp (maxSteps:=999999)(disch:=omega) only [go_sem]) (ly s.order (aX (aG s) (cT s) (cW s) * bz (aG s) (cT s) (cW s)) ho htw.2)
 try simp (maxSteps:=999999)(disch:=omega) only [go_sem]
 try (refine hK _ ?_;clear hK K)
 rotate_left
 ·rw [← htw.1]
  have e1:1+s.tileW % (1+s.w % 5)=cT s:=rfl
  have e2:1+s.tileH % (1+s.h % 4)=cW s:=rfl
  simp only [e1,e2]
  rfl
 refine hW _ (bg [(1, .b (.c (.ptr 0 0))),(2, .b (.c (.ptr 1 0))),(3, .b (U (dF s.bits))),(4, .b (.c (.ptr 2 0))),(7, .b (I (1+s.w % 5))),(8, .b (I (1+s.h % 4)))]
  [(0, .fix ((gI s).map CV.p)),(1, .fix ((List.range 10).map fun _=>CV.p .any)),(2, .fix [.p (PI (aD s).bits), .p (PI (aG s).x0), .p (PI (aG s).y0), .p (PI (aG s).x1), .p (PI (aG s).y1), .p (PI (cT s)), .p (PI (cW s)), .p (eZ (aD s).order), .p Ls, .p Ls])] 3) ?_ ?_
 ·clear hW
  refine aE [(1,some 1),(2,some 2)] ?_ ?_
  and_intros
  all_goals first|exact aw|skip
 clear hW
 refine mw ?_
 refine lT fun K hK => ?_
 simp (maxSteps:=999999)(disch:=omega) only [go_sem]
 and_intros
 all_goals first|(refine hK _ ?_;clear hK K)|exact aa|skip
 refine ig fun KB hV => ?_
 refine aM (X:=Nat) (fun i=>bg [(1, .b (.c (.ptr 0 0))),(2, .b (.c (.ptr 1 0))),(3, .b (U (dF s.bits))),(4, .b (.c (.ptr 2 0))),(7, .b (I (1+s.w % 5))),(8, .b (I (1+s.h % 4))),(12, .b (I i))]
  [(0, .fix ((gI s).map CV.p)),(1, .fix ((List.range 10).map fun _=>CV.p .any)),(2, .fix [.p (PI (aD s).bits), .p (PI (aG s).x0), .p (PI (aG s).y0), .p (PI (aG s).x1), .p (PI (aG s).y1), .p (PI (cT s)), .p (PI (cW s)), .p (eZ (aD s).order), .own 3 i, .p Ls]),
   (3, .arr 43 28 i (dG bl ((bS s).take i)))] 4) (fun i=>i≤s.pics.length∧i≤4) (fun i=>4 - i) 0 ?_ ?_ ?_
 ·omega
 ·refine aE [(1,some 1),(2,some 2),(3,none)] ?_ ?_
  and_intros
  all_goals first|exact aw|skip
 ·rintro i ⟨hi,hi4⟩
  have him:i<s.pics.length→PicOk (s.pics.getD i default):=hpic i
  repeat' (first|(((with_reducible refine ch (id:=14) [] (by decide +kernel) (by decide +kernel) ?_ (fun K hK => ?_));(first|(refine And.intro (fun iw hiw => ?_) ?_;(focus ((try simp (maxSteps:=999999)(disch:=omega) only [go_sem] at hiw ⊢);(repeat (refine Eq.trans (if_neg ?_) ?_;(focus omega)));(first|exact hw iw (by omega)|rfl)));(focus (first|exact Nat.zero_le _|(simp (maxSteps:=999999)(disch:=omega) only [go_sem];done)|(simp (maxSteps:=999999)(disch:=omega) only [go_sem];omega))))|exact cS));(try simp (maxSteps:=999999)(disch:=omega) only [go_sem]);and_intros;(all_goals first|(refine hK _ (by simp (maxSteps:=999999)(disch:=omega) only [go_sem]) ?_;clear hK K)|exact aa|skip))|refine an ?_|(refine aj (fun K hK => ?_);and_intros;all_goals first|(refine hK _ ?_;clear hK K)|try exact aa)|(refine aH (fun hb => ?_) (fun hb => ?_);all_goals try exact ax))
  ·refine zo (CW (s.pics.getD (i:Int).toNat default) (aG s) (dF s.bits) (by rw [Int.toNat_natCast];exact hpic i (by omega)) hsm (by unfold u16;omega)) (by simp (maxSteps:=999999)(disch:=omega) only [go_sem]) ?_
   try simp (maxSteps:=999999)(disch:=omega) only [go_sem]
   and_intros
   all_goals first|(refine hK _ ?_;clear hK K)|exact aa|skip
   refine hK _ trivial ?_
   clear hK
   repeat' (first|refine an ?_|(refine aj (fun K hK => ?_);and_intros;all_goals first|(refine hK _ ?_;clear hK K)|try exact aa))
   rw [ah]
   refine au (i+1) ?_ (by omega) (by omega)
   have hl1:((bS s).take i).length=i:=by simp [bS];omega
   have he:(bS s).take (i+1)=(bS s).take i ++ [kM (s.pics.getD i default) (aG s) (dF s.bits)]:=by
    have h1:i<(s.pics.take 4).length:=by rw [List.length_take];omega
    have h2:i<s.pics.length:=by omega
    simp only [bS,← List.map_take]
    rw [List.take_add_one,List.map_append,List.getElem?_eq_getElem h1,List.getD_eq_getElem?_getD,List.getElem?_eq_getElem h2,List.getElem_take]
    rfl
   refine aE [(1,some 1),(2,some 2),(3,some 5)] ?_ ?_
   and_intros
   all_goals first|exact aw|skip
   have key:=fun g hg=>fy (enc:=bl) (xs:=(bS s).take i) (x:=kM (s.pics.getD i default) (aG s) (dF s.bits)) (s:=28) (g:=g) hg
   simp only [hl1,← he] at key
   refine .inr (key _ fun j hj => ?_)
   simp only [Int.toNat_natCast]
   have hivl:j=0∨j=1∨j=2∨j=3∨j=4∨j=5∨j=6∨j=7∨j=8∨j=9∨j=10∨j=11∨j=12∨j=13∨j=14∨j=15∨j=16∨j=17∨j=18∨j=19∨j=20∨j=21∨j=22∨j=23∨j=24∨j=25∨j=26∨j=27:=by omega
   rcases hivl with rfl|rfl|rfl|rfl|rfl|rfl|rfl|rfl|rfl|rfl|rfl|rfl|rfl|rfl|rfl|rfl|rfl|rfl|rfl|rfl|rfl|rfl|rfl|rfl|rfl|rfl|rfl|rfl <;> rfl
  ·have hn0:i=(bS s).length:=by simp [bS];omega
   refine hV _ (bg [(1, .b (.c (.ptr 0 0))),(2, .b (.c (.ptr 1 0))),(3, .b (U (dF s.bits))),(4, .b (.c (.ptr 2 0))),(7, .b (I (1+s.w % 5))),(8, .b (I (1+s.h % 4)))]
    [(0, .fix ((gI s).map CV.p)),(1, .fix ((List.range 10).map fun _=>CV.p .any)),(2, .fix [.p (PI (aD s).bits), .p (PI (aG s).x0), .p (PI (aG s).y0), .p (PI (aG s).x1), .p (PI (aG s).y1), .p (PI (cT s)), .p (PI (cW s)), .p (eZ (aD s).order), .own 3 (bS s).length, .p Ls]),(3, .arr 43 28 (bS s).length (dG bl (bS s)))] 4) ?_ ?_
   ·rw [hn0,List.take_of_length_le (Nat.le_refl _)]
    refine aE [(1,some 1),(2,some 2),(3,some 3)] ?_ ?_
    and_intros
    all_goals first|exact aw|skip
   clear hV hn0 him
   refine mw ?_
   refine lT fun K hK => ?_
   simp (maxSteps:=999999)(disch:=omega) only [go_sem]
   and_intros
   all_goals first|(refine hK _ ?_;clear hK K)|exact aa|skip
   refine Qv (t:=(((bS s).length:Int) == 0)) (bg [(1, .b (.c (.ptr 0 0))),(2, .b (.c (.ptr 1 0))),(3, .b (U (dF s.bits))),(4, .b (.c (.ptr 2 0)))]
    [(0, .fix ((gI s).map CV.p)),(1, .fix ((List.range 10).map fun _=>CV.p .any)),(2, .fix [.p (PI (aD s).bits), .p (PI (aG s).x0), .p (PI (aG s).y0), .p (PI (aG s).x1), .p (PI (aG s).y1), .p (PI (cT s)), .p (PI (cW s)), .p (eZ (aD s).order), .p (vL (bq s)), .p Ls])] 3) ?_ ?_ ?_ ?_
   ·simp (maxSteps:=999999)(disch:=omega) only [go_sem]
   ·intro hb
    have h0:(bS s).length=0:=by simpa using hb
    have hi1:bq s=[ky (1+s.w % 5) (1+s.h % 4) ⟨dF s.bits,0,0,dF s.bits,dF s.bits⟩]:=by rw [bq,if_pos h0]
    repeat' (first|(((with_reducible refine ch (id:=16) [] (by decide +kernel) (by decide +kernel) ?_ (fun K hK => ?_));(first|(refine And.intro (fun iw hiw => ?_) ?_;(focus ((try simp (maxSteps:=999999)(disch:=omega) only [go_sem] at hiw ⊢);(repeat (refine Eq.trans (if_neg ?_) ?_;(focus omega)));(first|exact hw iw (by omega)|rfl)));(focus (first|exact Nat.zero_le _|(simp (maxSteps:=999999)(disch:=omega) only [go_sem];done)|(simp (maxSteps:=999999)(disch:=omega) only [go_sem];omega))))|exact cS));(try simp (maxSteps:=999999)(disch:=omega) only [go_sem]);and_intros;(all_goals first|(refine hK _ (by simp (maxSteps:=999999)(disch:=omega) only [go_sem]) ?_;clear hK K)|exact aa|skip))|(refine ae (vD (1+s.w % 5) (1+s.h % 4) ⟨dF s.bits,0,0,dF s.bits,dF s.bits⟩) ?_;and_intros;all_goals first|(refine hK _ ?_;clear hK K)|try exact aa))
    refine hK _ trivial ?_
    clear hK
    rw [ah,hi1]
    refine ⟨_, ?_,rfl⟩
    refine aE [(1,some 1),(2,some 2)] ?_ ?_
    and_intros
    all_goals first|exact aw|skip
    have h00:bS s=[]:=List.eq_nil_of_length_eq_zero h0
    rw [h00]
    intro a ha j hj
    have:a=0:=by simpa using ha
    subst this
    have hivl:j=0∨j=1∨j=2∨j=3∨j=4∨j=5∨j=6∨j=7∨j=8∨j=9∨j=10∨j=11∨j=12∨j=13∨j=14∨j=15∨j=16∨j=17∨j=18∨j=19∨j=20∨j=21∨j=22∨j=23∨j=24∨j=25∨j=26∨j=27:=by omega
    rcases hivl with rfl|rfl|rfl|rfl|rfl|rfl|rfl|rfl|rfl|rfl|rfl|rfl|rfl|rfl|rfl|rfl|rfl|rfl|rfl|rfl|rfl|rfl|rfl|rfl|rfl|rfl|rfl|rfl <;> exact PV.le_refl _
   ·intro hb
    have h0:¬ (bS s).length=0:=by simpa using hb
    have hi1:bq s=bS s:=by rw [bq,if_neg h0]
    refine ET ?_
    rw [ah,hi1]
    refine ⟨_, ?_,rfl⟩
    refine aE [(1,some 1),(2,some 2)] ?_ ?_
    and_intros
    all_goals first|exact aw|skip
    exact fun _ _ _ _=>PV.le_refl _
   have h3m:u16 (dF s.bits):=by unfold u16;omega
   have him1:1≤(bq s).length∧(bq s).length≤4:=by
    unfold bq
    split
    ·simp
    ·have:(bS s).length≤4:=by simp [bS];omega
     omega
   refine lT fun K hK => ?_
   simp (maxSteps:=999999)(disch:=omega) only [go_sem]
   and_intros
   all_goals first|(refine hK _ ?_;clear hK K)|exact aa|skip
   refine mw ?_
   refine lT fun K hK => ?_
   simp (maxSteps:=999999)(disch:=omega) only [go_sem]
   and_intros
   all_goals first|(refine hK _ ?_;clear hK K)|exact aa|skip
   refine ig fun KB2 hV2 => ?_
   refine aM (X:=Nat × List Op × List Op × List Op) (fun x=>bg [(1, .b (.c (.ptr 0 0))),(2, .b (.c (.ptr 1 0))),(3, .b (U (dF s.bits))),(4, .b (.c (.ptr 2 0))),(13, .b (.c (.own 4 x.2.2.1.length))),(14, .b (I x.1))]
    [(0, .fix ((gI s).map CV.p)),(1, .fix ((List.range 10).map fun _=>CV.p .any)),(2, .fix [.p (PI (aD s).bits), .p (PI (aG s).x0), .p (PI (aG s).y0), .p (PI (aG s).x1), .p (PI (aG s).y1), .p (PI (cT s)), .p (PI (cW s)), .p (eZ (aD s).order), .p (vL (bq s)), .own 3 x.2.1.length]),
     (3, .arr 74 12 x.2.1.length (dG eA x.2.1)),(4, .arr 74 12 (x.2.2.1.length+x.2.2.2.length) (dG eA (x.2.2.1 ++ x.2.2.2)))] 5)
    (fun x=>x.1≤s.ops.length∧x.1≤9∧(s.ops.take x.1).foldl (ob (bq s).length (aG s) (dF s.bits)) ([],[])=(x.2.1,x.2.2.1)∧x.2.1.length≤x.1∧x.2.2.1.length≤x.1) (fun x=>9 - x.1) (0,[],[],[]) ?_ ?_ ?_
   ·exact ⟨by omega,by omega,rfl,Nat.le_refl _,Nat.le_refl _⟩
   ·refine aE [(1,some 1),(2,some 2),(3,none),(4,none)] ?_ ?_
    and_intros
    all_goals first|exact aw|skip
   ·rintro ⟨i,ops,l,jk⟩ ⟨hi,hi9,hf,ho1,hl1⟩
    dsimp only at hi hi9 hf ho1 hl1 ⊢
    have hstep:∀ (hlt:i<s.ops.length) (q:List Op × List Op),ob (bq s).length (aG s) (dF s.bits) (ops,l) (s.ops.getD i default)=q→(s.ops.take (i+1)).foldl (ob (bq s).length (aG s) (dF s.bits)) ([],[])=q:=by
     rintro hlt q rfl
     rw [List.take_add_one,List.getElem?_eq_getElem hlt,List.foldl_append,hf,List.getD_eq_getElem?_getD,List.getElem?_eq_getElem hlt]
     rfl
    by_cases hc:i<s.ops.length∧i<9
    ·by_cases hk0:(s.ops.getD i default).kind % 8=0∧0<l.length
     ·have hkT:((s.ops.getD i default).kind % 8 == 0 && decide ((l.length:Int)>0))=true:=by
       simp only [Bool.and_eq_true,beq_iff_eq,decide_eq_true_eq];omega
      repeat' (first|refine ak hkT ?_|refine an ?_|((first|refine aj (fun K hK => ?_)|refine ae (cL _ _ (by omega) (by omega)) ?_);and_intros;all_goals first|(refine hK _ ?_;clear hK K)|try exact aa)|(refine aH (fun hb => ?_) (fun hb => ?_);all_goals try exact ax))
      rw [ah]
      have hp:=hk0.2
      have hne:l≠[]:=fun h=>by rw [h] at hp;simp at hp
      have hj:l.dropLast ++ (l.getLast hne :: jk)=l ++ jk:=by
       conv=>rhs;rw [← List.dropLast_concat_getLast hne]
       simp
      refine au (i+1,ops ++ [iF],l.dropLast,l.getLast hne :: jk) ?_ ⟨by dsimp only;omega,by dsimp only;omega,hstep hc.1 _ (by rw [ob,if_pos hk0]),by simp;omega,by rw [List.length_dropLast];dsimp only;omega⟩ (by dsimp only;omega)
      dsimp only
      rw [hj]
      refine aE [(1,some 1),(2,some 2),(3,some 6),(4,some 4)] ?_ ?_
      and_intros
      all_goals first|exact aw|skip
      ·rw [List.length_dropLast];omega
      ·simp
      ·simp
      ·refine .inr fun a ha j hj=>fy (fun j hj => ?_) a ha j hj
       have hivl:j=0∨j=1∨j=2∨j=3∨j=4∨j=5∨j=6∨j=7∨j=8∨j=9∨j=10∨j=11:=by omega
       rcases hivl with rfl|rfl|rfl|rfl|rfl|rfl|rfl|rfl|rfl|rfl|rfl|rfl <;> rfl
      ·rw [List.length_dropLast];omega
     ·have hkF:((s.ops.getD i default).kind % 8 == 0 && decide ((l.length:Int)>0))=false:=by
       rw [Bool.eq_false_iff]
       intro h
       simp only [Bool.and_eq_true,beq_iff_eq,decide_eq_true_eq] at h
       exact hk0 ⟨h.1,by omega⟩
      have hraw1:RawOk (s.ops.getD (i:Int).toNat default):=hraw i hc.1
      have hcb : -2000000000≤(aG s).x0∧(aG s).x0≤2000000000 ∧ -2000000000≤(aG s).y0∧(aG s).y0≤2000000000:=by
       unfold aG
       dsimp only
       omega
      repeat' (first|refine ak hkF ?_|refine an ?_|((first|refine aj (fun K hK => ?_)|refine ae (cL _ _ (by omega) (by omega)) ?_);and_intros;all_goals first|(refine hK _ ?_;clear hK K)|try exact aa)|(refine aH (fun hb => ?_) (fun hb => ?_);all_goals try exact ax))
      any_goals (focus (simp only [beq_eq_false_iff_ne,ne_eq];omega))
      any_goals (focus (rintro ⟨q1,q2⟩;refine ⟨⟨q1,q2⟩, ?_⟩;simp only [beq_eq_false_iff_ne,ne_eq] at q1;omega))
      repeat' (first|(((with_reducible refine bC (id:=27) [] (by decide +kernel) (by decide +kernel) ?_ (fun K hK => ?_));(first|(refine And.intro (fun iw hiw => ?_) ?_;(focus ((try simp (maxSteps:=999999)(disch:=omega) only [go_sem] at hiw ⊢);(repeat (refine Eq.trans (if_neg ?_) ?_;(focus omega)));(first|exact hw iw (by omega)|rfl)));(focus (first|exact Nat.zero_le _|(simp (maxSteps:=999999)(disch:=omega) only [go_sem];done)|(simp (maxSteps:=999999)(disch:=omega) only [go_sem];omega))))|exact cS));(try simp (maxSteps:=999999)(disch:=omega) only [go_sem]);and_intros;(all_goals first|(refine hK _ (by simp (maxSteps:=999999)(disch:=omega) only [go_sem]) ?_;clear hK K)|exact aa|skip))|(refine ae (Pj _ _ _ (aG s) _ (dF s.bits) hraw1 (by omega) (by omega) hcb.1 hcb.2.1 hcb.2.2.1 hcb.2.2.2 h3m) ?_;and_intros;all_goals first|(refine hK _ ?_;clear hK K)|try exact aa))
      refine hK _ trivial ?_
      clear hK
      have hfr:((l.length:Int) == 0 || ((l ++ jk).getD ((l.length:Int) - 1).toNat default).isolated && !((l ++ jk).getD ((l.length:Int) - 1).toNat default).knockout)=gX l:=by
       cases hl0:l with
       | nil=>rfl
       | cons a r =>
        rw [← hl0]
        have hpos:0<l.length:=by rw [hl0];simp
        have e1:((l.length:Int) - 1).toNat=l.length - 1:=by omega
        have e2:(l ++ jk).getD (l.length - 1) default=l.getD (l.length - 1) default:=by
         rw [List.getD_eq_getElem?_getD,List.getD_eq_getElem?_getD,List.getElem?_append_left (by omega)]
        have e3:((l.length:Int) == 0)=false:=beq_eq_false_iff_ne.2 (by omega)
        have e4:l.isEmpty=false:=by rw [hl0];rfl
        rw [e1,e2,e3,gX,e4]
      generalize hO:nB (s.ops.getD i default) (decide ((s.ops.getD i default).kind % 8<3)) (bq s).length (aG s).x0 (aG s).y0 (gX l) (dF s.bits)=O at *
      by_cases hp:(s.ops.getD i default).kind % 8<3
      ·have gk:∀ f x y,((nB (s.ops.getD i default) (decide ((s.ops.getD i default).kind % 8<3)) (bq s).length x y f (dF s.bits)).kind == 2)=true:=fun f x y=>by rw [decide_eq_true hp];rfl
       repeat' (first|refine ak gk ?_|refine an ?_|(refine aj (fun K hK => ?_);and_intros;all_goals first|(refine hK _ ?_;clear hK K)|try exact aa))
       rw [ah]
       simp only [hfr,Int.toNat_natCast,hO]
       refine au (i+1,ops ++ [O],l ++ [O],[]) ?_ ⟨by dsimp only;omega,by dsimp only;omega,hstep hc.1 _ (by rw [ob,if_neg hk0,if_pos hp];dsimp only;rw [hO]),by simp;omega,by simp;omega⟩ (by dsimp only;omega)
       simp only [List.append_nil,List.length_nil,Nat.add_zero]
       refine aE [(1,some 1),(2,some 2),(3,some 7),(4,some 9)] ?_ ?_
       and_intros
       all_goals first|exact aw|skip
       ·simp
       ·simp
       ·simp
       ·refine .inr fun a ha j hj=>fy (fun j hj => ?_) a ha j hj
        have hivl:j=0∨j=1∨j=2∨j=3∨j=4∨j=5∨j=6∨j=7∨j=8∨j=9∨j=10∨j=11:=by omega
        rcases hivl with rfl|rfl|rfl|rfl|rfl|rfl|rfl|rfl|rfl|rfl|rfl|rfl <;> rfl
       ·simp
       ·refine .inr fun a ha j hj=>wg (fun j hj => ?_) a ha j hj
        have hivl:j=0∨j=1∨j=2∨j=3∨j=4∨j=5∨j=6∨j=7∨j=8∨j=9∨j=10∨j=11:=by omega
        rcases hivl with rfl|rfl|rfl|rfl|rfl|rfl|rfl|rfl|rfl|rfl|rfl|rfl <;> rfl
      ·have gk:∀ f x y,((nB (s.ops.getD i default) (decide ((s.ops.getD i default).kind % 8<3)) (bq s).length x y f (dF s.bits)).kind == 2)=false:=fun f x y=>by rw [decide_eq_false hp];rfl
       repeat' (first|refine ak gk ?_|refine an ?_|(refine aj (fun K hK => ?_);and_intros;all_goals first|(refine hK _ ?_;clear hK K)|try exact aa))
       rw [ah]
       simp only [hfr,Int.toNat_natCast,hO]
       refine au (i+1,ops ++ [O],l,jk) ?_ ⟨by dsimp only;omega,by dsimp only;omega,hstep hc.1 _ (by rw [ob,if_neg hk0,if_neg hp];dsimp only;rw [hO]),by simp;omega,by dsimp only;omega⟩ (by dsimp only;omega)
       dsimp only
       refine aE [(1,some 1),(2,some 2),(3,some 7),(4,some 4)] ?_ ?_
       and_intros
       all_goals first|exact aw|skip
       ·simp
       ·simp
       ·refine .inr fun a ha j hj=>fy (fun j hj => ?_) a ha j hj
        have hivl:j=0∨j=1∨j=2∨j=3∨j=4∨j=5∨j=6∨j=7∨j=8∨j=9∨j=10∨j=11:=by omega
        rcases hivl with rfl|rfl|rfl|rfl|rfl|rfl|rfl|rfl|rfl|rfl|rfl|rfl <;> rfl
    ·repeat' (first|refine an ?_|(refine aj (fun K hK => ?_);and_intros;all_goals first|(refine hK _ ?_;clear hK K)|try exact aa)|(refine aH (fun hb => ?_) (fun hb => ?_);all_goals try exact ax))
     have hc2:i=s.ops.length∨i=9:=by omega
     have hfin:vK s=(ops,l):=by
      rw [vK,← hf]
      rcases hc2 with h|h
      ·rw [h,List.take_of_length_le (Nat.le_refl _),List.take_of_length_le (by omega)]
      ·rw [h]
     refine hV2 _ (bg [(1, .b (.c (.ptr 0 0))),(2, .b (.c (.ptr 1 0))),(4, .b (.c (.ptr 2 0))),(13, .b (.c (.own 4 l.length)))]
      [(0, .fix ((gI s).map CV.p)),(1, .fix ((List.range 10).map fun _=>CV.p .any)),(2, .fix [.p (PI (aD s).bits), .p (PI (aG s).x0), .p (PI (aG s).y0), .p (PI (aG s).x1), .p (PI (aG s).y1), .p (PI (cT s)), .p (PI (cW s)), .p (eZ (aD s).order), .p (vL (bq s)), .own 3 ops.length]),
       (3, .arr 74 12 ops.length (dG eA ops)),(4, .arr 74 12 (l.length+jk.length) (dG eA (l ++ jk)))] 5) ?_ ?_
     ·refine aE [(1,some 1),(2,some 2),(3,some 3),(4,some 4)] ?_ ?_
      and_intros
      all_goals first|exact aw|skip
     clear hV2 hraw hstep hf
     refine mw ?_
     refine lT fun K hK => ?_
     simp (maxSteps:=999999)(disch:=omega) only [go_sem]
     and_intros
     all_goals first|(refine hK _ ?_;clear hK K)|exact aa|skip
     refine ar fun KB3 hB3 => ?_
     refine aM (X:=Nat) (fun k=>bg [(1, .b (.c (.ptr 0 0))),(2, .b (.c (.ptr 1 0))),(4, .b (.c (.ptr 2 0))),(13, .b (.c (.own 4 l.length))),(19, .b (I k))]
      [(0, .fix ((gI s).map CV.p)),(1, .fix ((List.range 10).map fun _=>CV.p .any)),(2, .fix [.p (PI (aD s).bits), .p (PI (aG s).x0), .p (PI (aG s).y0), .p (PI (aG s).x1), .p (PI (aG s).y1), .p (PI (cT s)), .p (PI (cW s)), .p (eZ (aD s).order), .p (vL (bq s)), .own 3 (ops.length+k)]),
       (3, .arr 74 12 (ops.length+k) (dG eA (ops ++ List.replicate k iF))),(4, .arr 74 12 (l.length+jk.length) (dG eA (l ++ jk)))] 5) (fun k=>k≤l.length) (fun k=>l.length - k) 0 ?_ ?_ ?_
     ·omega
     ·refine aE [(1,some 1),(2,some 2),(3,some 3),(4,some 4)] ?_ ?_
      and_intros
      all_goals first|exact aw|skip
      exact .inl (by rw [List.replicate_zero,List.append_nil])
     ·intro k hk
      repeat' (first|refine an ?_|(refine aj (fun K hK => ?_);and_intros;all_goals first|(refine hK _ ?_;clear hK K)|try exact aa)|(refine aH (fun hb => ?_) (fun hb => ?_);all_goals try exact ax)|refine aA (S:=Sg) (by assumption) ?_|(refine ai ?_;(try clear hB KB);(try clear hK K)))
      ·rw [ah]
       refine au (k+1) ?_ (by omega) (by omega)
       have hl1:(ops ++ List.replicate k iF).length=ops.length+k:=by simp
       have he:(ops ++ List.replicate k iF) ++ [iF]=ops ++ List.replicate (k+1) iF:=by rw [List.append_assoc,List.replicate_succ']
       refine aE [(1,some 1),(2,some 2),(3,some 6),(4,some 4)] ?_ ?_
       and_intros
       all_goals first|exact aw|skip
       have key:=fun g hg=>fy (enc:=eA) (xs:=ops ++ List.replicate k iF) (x:=iF) (s:=12) (g:=g) hg
       simp only [hl1,he] at key
       refine .inr (key _ fun j hj => ?_)
       have hivl:j=0∨j=1∨j=2∨j=3∨j=4∨j=5∨j=6∨j=7∨j=8∨j=9∨j=10∨j=11:=by omega
       rcases hivl with rfl|rfl|rfl|rfl|rfl|rfl|rfl|rfl|rfl|rfl|rfl|rfl <;> rfl
      ·have hk2:k=l.length:=by omega
       have e2:ops ++ List.replicate k iF=(aD s).ops:=by
        rw [hk2]
        show _=(vK s).1 ++ List.replicate (vK s).2.length iF
        rw [hfin]
       have e1:ops.length+k=(aD s).ops.length:=by rw [← e2];simp
       rw [e1,e2]
       refine ⟨⟨_,rfl,rfl,fun _ _ _ _=>PV.le_refl _⟩, ?_⟩
       and_intros
       all_goals first|exact .inl rfl|trivial|skip
theorem lW (s:Scene) (hs:SceneOk s):aF Sg 10 [ag (gI s)] (fun r=>r = .b (ag (aL (aD s)))) :=
 Gm (Aw s hs) rfl
end Go.Proofs.YtcbifofjjpfbcaaGreatDoor
set_option maxHeartbeats 2000000
set_option maxRecDepth 16000
namespace Go.Proofs.YtcbifofjjpfbcaaGreatDoor
open Go Go.SL
open Go.RowKit (wrap64)
attribute [local go_sem] cH
theorem PixV.pre {p:Pixel} {m:Int} (h:PixV p m):Pre p.c0 p.a m∧Pre p.c1 p.a m∧Pre p.c2 p.a m:=⟨⟨h.n0,h.l0,h.am⟩,⟨h.n1,h.l1,h.am⟩,⟨h.n2,h.l2,h.am⟩⟩
theorem AccV.pre {x:Acc} {b:Pixel} {m:Int} (h:AccV x b m):Pre x.c0 x.a m∧Pre x.c1 x.a m∧Pre x.c2 x.a m:=⟨⟨h.n0,h.l0,h.am⟩,⟨h.n1,h.l1,h.am⟩,⟨h.n2,h.l2,h.am⟩⟩
end Go.Proofs.YtcbifofjjpfbcaaGreatDoor
