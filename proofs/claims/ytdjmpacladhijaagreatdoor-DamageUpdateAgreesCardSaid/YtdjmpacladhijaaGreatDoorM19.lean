/- Part of the proof: F24, WF. -/
import Derived.Test.YtdjmpacladhijaaGreatDoorM18
set_option linter.unusedSimpArgs false
set_option linter.unusedVariables false
set_option maxHeartbeats 8000000
set_option maxRecDepth 16000
namespace Go.Proofs.YtdjmpacladhijaaGreatDoor
open Go Go.SL
open Go.RowKit (wrap64)
section
theorem Cl {l jk : List Op} {x : Op} {g : Nat → Nat → PV} (hg : ∀ j, j < 12 → g 0 j = (cC x).getD j .any) :
  ∀ i,i<l.length+1→∀ j,j<12→PV.le (dV l.length (aQ cC (l ++ jk)) g i j) (aQ cC (l ++ [x]) i j):=fun i hi j hj=>by
 have:=gD (enc:=cC) (xs:=l) (x:=x) (s:=12) (g:=g) hg i hi j hj;unfold dV at this ⊢;by_cases h:i<l.length
 ·rw [if_pos h] at this ⊢;have e:(l ++ jk).getD i default=l.getD i default:=by rw [List.getD_eq_getElem?_getD,List.getD_eq_getElem?_getD,List.getElem?_append_left h]
  unfold aQ at this ⊢;rw [e];exact this
 ·rw [if_neg h] at this ⊢;exact this
def Um (s:Script):List (Option PV):=[some (PI s.bits),some (PI s.canvas.x0),some (PI s.canvas.y0),some (PI s.canvas.x1),some (PI s.canvas.y1),some (PI s.tileW),some (PI s.tileH),some (dq s.order),some (qq s.images),none]
attribute [local go_sem] Um
theorem xY (s:Scene) (hs:SceneOk s):pB Sg 10 [ag (fW s)] (Um (aI s)) 9 33 12 (aI s).ops.length (aQ cC (aI s).ops):=by
 obtain ⟨hb,⟨x1,x2⟩,⟨y1,y2⟩,⟨w1,w2⟩,⟨v1,v2⟩,⟨t1,t2⟩,⟨u1,u2⟩,ho,hp,hop,hpic,hraw⟩:=hs;have hm:=la s.bits;have hsm:=cI s;have htw:=nu (aG s) (eF s) (eB s);have hw0:1≤1+s.w % 5∧1+s.w % 5≤5:=by omega
 have hh0:1≤1+s.h % 4∧1+s.h % 4≤4:=by omega
 have ew:s.tileW % (1+s.w % 5)=eF s - 1:=by unfold eF;omega
 have eh:s.tileH % (1+s.h % 4)=eB s - 1:=by unfold eB;omega
 have bw:=Int.emod_nonneg s.tileW (show 1+s.w % 5≠0 by omega);have bw2:=Int.emod_lt_of_pos s.tileW (show 0<1+s.w % 5 by omega);have bh:=Int.emod_nonneg s.tileH (show 1+s.h % 4≠0 by omega);have bh2:=Int.emod_lt_of_pos s.tileH (show 0<1+s.h % 4 by omega);have hmx:aB Sg 34 [I s.bits] (fun r=>r = .b (U (eZ s.bits))):=SO _;refine Md Tryz.func10 rfl (rs:=[.cell 2 39]) rfl rfl dI (by decide +kernel) (Nat.le_of_ble_eq_true rfl) (bN ba) ?_;repeat' (first|refine aw ?_|((with_reducible refine aX (id:=10) (fun K hW => ?_));(try simp (maxSteps:=999999)(disch:=omega) only [go_sem]);and_intros;all_goals first|(refine hK _ ?_;clear hK K)|try exact ai)|refine an (fun K hK => ?_)|refine aa (hmx) ?_|refine aa (bD _ _ (by omega) (by omega)) ?_|refine aa (Ab ⟨_,_,_,_⟩ _ _) ?_|(apply dC;(case hf=>rfl);(case hc=>exact du);(all_goals first|(intro hb;(try simp only [nR] at hb))|skip))|exact bd|(refine aq hK ?_;try clear hK K))
 refine FD ?_ ?_ ba (xk s.order (bA (aG s) (eF s) (eB s) * cF (aG s) (eF s) (eB s)) ho htw.2);try simp (maxSteps:=999999)(disch:=omega) only [go_sem]
 try (refine hK _ ?_;clear hK K)
 rotate_left
 ·rw [← htw.1];have e1:1+s.tileW % (1+s.w % 5)=eF s:=rfl;have e2:1+s.tileH % (1+s.h % 4)=eB s:=rfl;simp only [e1,e2];rfl
 refine hW _ (aP [(1, .b (.c (.ptr 0 0))),(2, .b (.c (.ptr 1 0))),(3, .b (U (eZ s.bits))),(4, .b (.c (.ptr 2 0))),(7, .b (I (1+s.w % 5))),(8, .b (I (1+s.h % 4)))]
  [(0, .fix ((fW s).map CV.p)),(1, .fix ((List.range 10).map fun _=>CV.p .any)),(2, .fix [.p (PI (aI s).bits), .p (PI (aG s).x0), .p (PI (aG s).y0), .p (PI (aG s).x1), .p (PI (aG s).y1), .p (PI (eF s)), .p (PI (eB s)), .p (dq (aI s).order), .p Jl, .p Jl])] 3) ?_ ?_
 ·clear hW;refine ar [(1,some 1),(2,some 2)] ?_ ?_;and_intros;all_goals try exact ak
 clear hW;refine gQ ?_;refine jM fun K hK => ?_;refine bV ?_;and_intros;all_goals first|(refine hK _ ?_;clear hK K)|exact ai|skip
 refine fx fun KB hV => ?_
 refine aK (X:=Nat) (fun i=>aP [(1, .b (.c (.ptr 0 0))),(2, .b (.c (.ptr 1 0))),(3, .b (U (eZ s.bits))),(4, .b (.c (.ptr 2 0))),(7, .b (I (1+s.w % 5))),(8, .b (I (1+s.h % 4))),(12, .b (I i))]
  [(0, .fix ((fW s).map CV.p)),(1, .fix ((List.range 10).map fun _=>CV.p .any)),(2, .fix [.p (PI (aI s).bits), .p (PI (aG s).x0), .p (PI (aG s).y0), .p (PI (aG s).x1), .p (PI (aG s).y1), .p (PI (eF s)), .p (PI (eB s)), .p (dq (aI s).order), .own 3 i, .p Jl]),
   (3, .arr 49 28 i (aQ aF ((cL s).take i)))] 4) (fun i=>i≤s.pics.length∧i≤4) (fun i=>4 - i) 0 ?_ ?_ ?_
 ·omega
 ·refine ar [(1,some 1),(2,some 2),(3,none)] ?_ ?_;and_intros;all_goals try exact ak
 ·rintro i ⟨hi,hi4⟩;have him:i<s.pics.length→PicOk (s.pics.getD i default):=hpic i
  repeat' (first|((with_reducible refine IG (id:=14) [] ?_ (fun K hK => ?_));exact bZ;refine bV ?_)|refine aw ?_|refine an (fun K hK => ?_)|(refine aH (fun hb => ?_) (fun hb => ?_) <;> try exact ax)|(refine aq hK ?_;try clear hK K)|(refine pz hK ?_;try clear hK K))
  ·refine zp (Lo (s.pics.getD (i:Int).toNat default) (aG s) (eZ s.bits) (by rw [Int.toNat_natCast];exact hpic i (by omega)) hsm (by unfold u16;omega)) ba ?_;try simp (maxSteps:=999999)(disch:=omega) only [go_sem]
   and_intros;all_goals first|(refine hK _ ?_;clear hK K)|exact ai|skip
   refine hK _ trivial ?_;clear hK;repeat' (refine aC ?_)
   rw [ae];refine ao (i+1) ?_ (by omega) (by omega);have hl1:((cL s).take i).length=i:=by simp [cL];omega
   have he:(cL s).take (i+1)=(cL s).take i ++ [jR (s.pics.getD i default) (aG s) (eZ s.bits)]:=by
    have h1:i<(s.pics.take 4).length:=by rw [List.length_take];omega
    have h2:i<s.pics.length:=by omega
    simp only [cL,← List.map_take];rw [List.take_add_one,List.map_append,List.getElem?_eq_getElem h1,List.getD_eq_getElem?_getD,List.getElem?_eq_getElem h2,List.getElem_take];rfl
   refine ar [(1,some 1),(2,some 2),(3,some 5)] ?_ ?_;and_intros;all_goals try exact ak
   have key:=fun g hg=>gD (enc:=aF) (xs:=(cL s).take i) (x:=jR (s.pics.getD i default) (aG s) (eZ s.bits)) (s:=28) (g:=g) hg;simp only [hl1,← he] at key;refine .inr (key _ fun j hj => ?_);simp only [Int.toNat_natCast];have hivl:j=0∨j=1∨j=2∨j=3∨j=4∨j=5∨j=6∨j=7∨j=8∨j=9∨j=10∨j=11∨j=12∨j=13∨j=14∨j=15∨j=16∨j=17∨j=18∨j=19∨j=20∨j=21∨j=22∨j=23∨j=24∨j=25∨j=26∨j=27:=by omega
   rcases hivl with rfl|rfl|rfl|rfl|rfl|rfl|rfl|rfl|rfl|rfl|rfl|rfl|rfl|rfl|rfl|rfl|rfl|rfl|rfl|rfl|rfl|rfl|rfl|rfl|rfl|rfl|rfl|rfl <;> rfl
  ·have hn0:i=(cL s).length:=by simp [cL];omega
   refine hV _ (aP [(1, .b (.c (.ptr 0 0))),(2, .b (.c (.ptr 1 0))),(3, .b (U (eZ s.bits))),(4, .b (.c (.ptr 2 0))),(7, .b (I (1+s.w % 5))),(8, .b (I (1+s.h % 4)))]
    [(0, .fix ((fW s).map CV.p)),(1, .fix ((List.range 10).map fun _=>CV.p .any)),(2, .fix [.p (PI (aI s).bits), .p (PI (aG s).x0), .p (PI (aG s).y0), .p (PI (aG s).x1), .p (PI (aG s).y1), .p (PI (eF s)), .p (PI (eB s)), .p (dq (aI s).order), .own 3 (cL s).length, .p Jl]),(3, .arr 49 28 (cL s).length (aQ aF (cL s)))] 4) ?_ ?_
   ·rw [hn0,List.take_of_length_le (Nat.le_refl _)];refine ar [(1,some 1),(2,some 2),(3,some 3)] ?_ ?_;and_intros;all_goals try exact ak
   clear hV hn0 him;refine gQ ?_;refine jM fun K hK => ?_;refine bV ?_;and_intros;all_goals first|(refine hK _ ?_;clear hK K)|exact ai|skip
   refine zL (t:=(((cL s).length:Int) == 0)) (aP [(1, .b (.c (.ptr 0 0))),(2, .b (.c (.ptr 1 0))),(3, .b (U (eZ s.bits))),(4, .b (.c (.ptr 2 0)))]
    [(0, .fix ((fW s).map CV.p)),(1, .fix ((List.range 10).map fun _=>CV.p .any)),(2, .fix [.p (PI (aI s).bits), .p (PI (aG s).x0), .p (PI (aG s).y0), .p (PI (aG s).x1), .p (PI (aG s).y1), .p (PI (eF s)), .p (PI (eB s)), .p (dq (aI s).order), .p (qq (aT s)), .p Jl])] 3) ?_ ?_ ?_ ?_
   ·exact ba
   ·intro hb;have h0:(cL s).length=0:=by simpa using hb
    have hi1:aT s=[jq (1+s.w % 5) (1+s.h % 4) ⟨eZ s.bits,0,0,eZ s.bits,eZ s.bits⟩]:=by rw [aT,if_pos h0]
    repeat' (first|(((with_reducible refine gx (id:=16) [] (by decide +kernel) (by decide +kernel) ?_ (fun K hK => ?_));exact bZ);(try simp (maxSteps:=999999)(disch:=omega) only [go_sem]);and_intros;(all_goals first|(refine hK _ ba ?_;clear hK K)|exact ai|skip))|(refine aa (iq (1+s.w % 5) (1+s.h % 4) ⟨eZ s.bits,0,0,eZ s.bits,eZ s.bits⟩) ?_;and_intros;all_goals first|(refine hK _ ?_;clear hK K)|try exact ai))
    refine hK _ trivial ?_;clear hK;rw [ae,hi1];refine ⟨_, ?_,rfl⟩;refine ar [(1,some 1),(2,some 2)] ?_ ?_;and_intros;all_goals try exact ak
    have h00:cL s=[]:=List.eq_nil_of_length_eq_zero h0;rw [h00];intro a ha j hj;have:a=0:=by simpa using ha
    subst this;have hivl:j=0∨j=1∨j=2∨j=3∨j=4∨j=5∨j=6∨j=7∨j=8∨j=9∨j=10∨j=11∨j=12∨j=13∨j=14∨j=15∨j=16∨j=17∨j=18∨j=19∨j=20∨j=21∨j=22∨j=23∨j=24∨j=25∨j=26∨j=27:=by omega
    rcases hivl with rfl|rfl|rfl|rfl|rfl|rfl|rfl|rfl|rfl|rfl|rfl|rfl|rfl|rfl|rfl|rfl|rfl|rfl|rfl|rfl|rfl|rfl|rfl|rfl|rfl|rfl|rfl|rfl <;> exact PV.le_refl _
   ·intro hb;have h0:¬ (cL s).length=0:=by simpa using hb
    have hi1:aT s=cL s:=by rw [aT,if_neg h0]
    refine MN ?_;rw [ae,hi1];refine ⟨_, ?_,rfl⟩;refine ar [(1,some 1),(2,some 2)] ?_ ?_;and_intros;all_goals try exact ak
    exact fun _ _ _ _=>PV.le_refl _
   have h3m:u16 (eZ s.bits):=by unfold u16;omega
   have him1:1≤(aT s).length∧(aT s).length≤4:=by
    unfold aT;split
    ·simp
    ·have:(cL s).length≤4:=by simp [cL];omega
     omega
   refine jM fun K hK => ?_;refine bV ?_;and_intros;all_goals first|(refine hK _ ?_;clear hK K)|exact ai|skip
   refine gQ ?_;refine jM fun K hK => ?_;refine bV ?_;and_intros;all_goals first|(refine hK _ ?_;clear hK K)|exact ai|skip
   refine fx fun KB2 hV2 => ?_
   refine aK (X:=Nat × List Op × List Op × List Op) (fun x=>aP [(1, .b (.c (.ptr 0 0))),(2, .b (.c (.ptr 1 0))),(3, .b (U (eZ s.bits))),(4, .b (.c (.ptr 2 0))),(13, .b (.c (.own 4 x.2.2.1.length))),(14, .b (I x.1))]
    [(0, .fix ((fW s).map CV.p)),(1, .fix ((List.range 10).map fun _=>CV.p .any)),(2, .fix [.p (PI (aI s).bits), .p (PI (aG s).x0), .p (PI (aG s).y0), .p (PI (aG s).x1), .p (PI (aG s).y1), .p (PI (eF s)), .p (PI (eB s)), .p (dq (aI s).order), .p (qq (aT s)), .own 3 x.2.1.length]),
     (3, .arr 33 12 x.2.1.length (aQ cC x.2.1)),(4, .arr 33 12 (x.2.2.1.length+x.2.2.2.length) (aQ cC (x.2.2.1 ++ x.2.2.2)))] 5)
    (fun x=>x.1≤s.ops.length∧x.1≤9∧(s.ops.take x.1).foldl (tI (aT s).length (aG s) (eZ s.bits)) ([],[])=(x.2.1,x.2.2.1)∧x.2.1.length≤x.1∧x.2.2.1.length≤x.1) (fun x=>9 - x.1) (0,[],[],[]) ?_ ?_ ?_
   ·exact ⟨by omega,by omega,rfl,Nat.le_refl _,Nat.le_refl _⟩
   ·refine ar [(1,some 1),(2,some 2),(3,none),(4,none)] ?_ ?_;and_intros;all_goals try exact ak
   ·rintro ⟨i,ops,l,jk⟩ ⟨hi,hi9,hf,ho1,hl1⟩;dsimp only at hi hi9 hf ho1 hl1 ⊢;have hstep:∀ (hlt:i<s.ops.length) (q:List Op × List Op),tI (aT s).length (aG s) (eZ s.bits) (ops,l) (s.ops.getD i default)=q→(s.ops.take (i+1)).foldl (tI (aT s).length (aG s) (eZ s.bits)) ([],[])=q:=by
     rintro hlt q rfl;rw [List.take_add_one,List.getElem?_eq_getElem hlt,List.foldl_append,hf,List.getD_eq_getElem?_getD,List.getElem?_eq_getElem hlt];rfl
    by_cases hc:i<s.ops.length∧i<9
    ·by_cases hk0:(s.ops.getD i default).kind % 8=0∧0<l.length
     ·have hkT:((s.ops.getD i default).kind % 8 == 0 && decide ((l.length:Int)>0))=true:=by simp only [Bool.and_eq_true,beq_iff_eq,decide_eq_true_eq];omega
      repeat' (first|refine aj hkT ?_|refine aw ?_|refine an (fun K hK => ?_)|refine aa (bD _ _ (by omega) (by omega)) ?_|(refine aH (fun hb => ?_) (fun hb => ?_) <;> try exact ax)|(refine aq hK ?_;try clear hK K))
      rw [ae];have hp:=hk0.2;have hne:l≠[]:=fun h=>by rw [h] at hp;simp at hp
      have hj:l.dropLast ++ (l.getLast hne :: jk)=l ++ jk:=by
       conv=>rhs;rw [← List.dropLast_concat_getLast hne]
       simp
      refine ao (i+1,ops ++ [kV],l.dropLast,l.getLast hne :: jk) ?_ ⟨by dsimp only;omega,by dsimp only;omega,hstep hc.1 _ (by rw [tI,if_pos hk0]),by simp;omega,by rw [List.length_dropLast];dsimp only;omega⟩ (by dsimp only;omega);dsimp only;rw [hj];refine ar [(1,some 1),(2,some 2),(3,some 6),(4,some 4)] ?_ ?_;and_intros;all_goals try exact ak
      ·rw [List.length_dropLast];omega
      ·simp
      ·simp
      ·refine .inr fun a ha j hj=>gD (fun j hj => ?_) a ha j hj;have hivl:j=0∨j=1∨j=2∨j=3∨j=4∨j=5∨j=6∨j=7∨j=8∨j=9∨j=10∨j=11:=by omega
       rcases hivl with rfl|rfl|rfl|rfl|rfl|rfl|rfl|rfl|rfl|rfl|rfl|rfl <;> rfl
      ·rw [List.length_dropLast];omega
     ·have hkF:((s.ops.getD i default).kind % 8 == 0 && decide ((l.length:Int)>0))=false:=by
       rw [Bool.eq_false_iff];intro h;simp only [Bool.and_eq_true,beq_iff_eq,decide_eq_true_eq] at h;exact hk0 ⟨h.1,by omega⟩
      have hraw1:RawOk (s.ops.getD (i:Int).toNat default):=hraw i hc.1;have hcb : -2000000000≤(aG s).x0∧(aG s).x0≤2000000000 ∧ -2000000000≤(aG s).y0∧(aG s).y0≤2000000000:=by
       unfold aG;dsimp only;omega
      repeat' (first|refine aj hkF ?_|refine bL ?_|((first|refine an (fun K hK => ?_)|refine aa (bD _ _ (by omega) (by omega)) ?_);and_intros;all_goals first|(refine hK _ ?_;clear hK K)|try exact ai)|(refine aH (fun hb => ?_) (fun hb => ?_);all_goals try exact ax))
      any_goals (focus (simp only [beq_eq_false_iff_ne,ne_eq];omega))
      any_goals (focus (rintro ⟨q1,q2⟩;refine ⟨⟨q1,q2⟩, ?_⟩;simp only [beq_eq_false_iff_ne,ne_eq] at q1;omega))
      repeat' (first|(((with_reducible refine bT (id:=27) [] (by decide +kernel) (by decide +kernel) ?_ (fun K hK => ?_));exact bZ);(try simp (maxSteps:=999999)(disch:=omega) only [go_sem]);and_intros;(all_goals first|(refine hK _ ba ?_;clear hK K)|exact ai|skip))|(refine aa (Xd _ _ _ (aG s) _ (eZ s.bits) hraw1 (by omega) (by omega) hcb.1 hcb.2.1 hcb.2.2.1 hcb.2.2.2 h3m) ?_;and_intros;all_goals first|(refine hK _ ?_;clear hK K)|try exact ai))
      refine hK _ trivial ?_;clear hK;have hfr:((l.length:Int) == 0 || ((l ++ jk).getD ((l.length:Int) - 1).toNat default).isolated && !((l ++ jk).getD ((l.length:Int) - 1).toNat default).knockout)=eS l:=by
       cases hl0:l with
       | nil=>rfl
       | cons a r =>
        rw [← hl0];have hpos:0<l.length:=by rw [hl0];simp
        have e1:((l.length:Int) - 1).toNat=l.length - 1:=by omega
        have e2:(l ++ jk).getD (l.length - 1) default=l.getD (l.length - 1) default:=by rw [List.getD_eq_getElem?_getD,List.getD_eq_getElem?_getD,List.getElem?_append_left (by omega)]
        have e3:((l.length:Int) == 0)=false:=beq_eq_false_iff_ne.2 (by omega);have e4:l.isEmpty=false:=by rw [hl0];rfl
        rw [e1,e2,e3,eS,e4]
      generalize hO:tM (s.ops.getD i default) (decide ((s.ops.getD i default).kind % 8<3)) (aT s).length (aG s).x0 (aG s).y0 (eS l) (eZ s.bits)=O at *
      by_cases hp:(s.ops.getD i default).kind % 8<3
      ·have gk:∀ f x y,((tM (s.ops.getD i default) (decide ((s.ops.getD i default).kind % 8<3)) (aT s).length x y f (eZ s.bits)).kind == 2)=true:=fun f x y=>by rw [decide_eq_true hp];rfl
       repeat' (first|refine aj gk ?_|refine aC ?_)
       rw [ae];simp only [hfr,Int.toNat_natCast,hO];refine ao (i+1,ops ++ [O],l ++ [O],[]) ?_ ⟨by dsimp only;omega,by dsimp only;omega,hstep hc.1 _ (by rw [tI,if_neg hk0,if_pos hp];dsimp only;rw [hO]),by simp;omega,by simp;omega⟩ (by dsimp only;omega);simp only [List.append_nil,List.length_nil,Nat.add_zero];refine ar [(1,some 1),(2,some 2),(3,some 7),(4,some 9)] ?_ ?_;and_intros;all_goals try exact ak
       ·simp
       ·simp
       ·simp
       ·refine .inr fun a ha j hj=>gD (fun j hj => ?_) a ha j hj;have hivl:j=0∨j=1∨j=2∨j=3∨j=4∨j=5∨j=6∨j=7∨j=8∨j=9∨j=10∨j=11:=by omega
        rcases hivl with rfl|rfl|rfl|rfl|rfl|rfl|rfl|rfl|rfl|rfl|rfl|rfl <;> rfl
       ·simp
       ·refine .inr fun a ha j hj=>Cl (fun j hj => ?_) a ha j hj;have hivl:j=0∨j=1∨j=2∨j=3∨j=4∨j=5∨j=6∨j=7∨j=8∨j=9∨j=10∨j=11:=by omega
        rcases hivl with rfl|rfl|rfl|rfl|rfl|rfl|rfl|rfl|rfl|rfl|rfl|rfl <;> rfl
      ·have gk:∀ f x y,((tM (s.ops.getD i default) (decide ((s.ops.getD i default).kind % 8<3)) (aT s).length x y f (eZ s.bits)).kind == 2)=false:=fun f x y=>by rw [decide_eq_false hp];rfl
       repeat' (first|refine aj gk ?_|refine aC ?_)
       rw [ae];simp only [hfr,Int.toNat_natCast,hO];refine ao (i+1,ops ++ [O],l,jk) ?_ ⟨by dsimp only;omega,by dsimp only;omega,hstep hc.1 _ (by rw [tI,if_neg hk0,if_neg hp];dsimp only;rw [hO]),by simp;omega,by dsimp only;omega⟩ (by dsimp only;omega);dsimp only;refine ar [(1,some 1),(2,some 2),(3,some 7),(4,some 4)] ?_ ?_;and_intros;all_goals try exact ak
       ·simp
       ·simp
       ·refine .inr fun a ha j hj=>gD (fun j hj => ?_) a ha j hj;have hivl:j=0∨j=1∨j=2∨j=3∨j=4∨j=5∨j=6∨j=7∨j=8∨j=9∨j=10∨j=11:=by omega
        rcases hivl with rfl|rfl|rfl|rfl|rfl|rfl|rfl|rfl|rfl|rfl|rfl|rfl <;> rfl
    ·repeat' (first|refine aC ?_|(refine aH (fun hb => ?_) (fun hb => ?_) <;> try exact ax))
     have hc2:i=s.ops.length∨i=9:=by omega
     have hfin:BS s=(ops,l):=by
      rw [BS,← hf];rcases hc2 with h|h
      ·rw [h,List.take_of_length_le (Nat.le_refl _),List.take_of_length_le (by omega)]
      ·rw [h]
     refine hV2 _ (aP [(1, .b (.c (.ptr 0 0))),(2, .b (.c (.ptr 1 0))),(4, .b (.c (.ptr 2 0))),(13, .b (.c (.own 4 l.length)))]
      [(0, .fix ((fW s).map CV.p)),(1, .fix ((List.range 10).map fun _=>CV.p .any)),(2, .fix [.p (PI (aI s).bits), .p (PI (aG s).x0), .p (PI (aG s).y0), .p (PI (aG s).x1), .p (PI (aG s).y1), .p (PI (eF s)), .p (PI (eB s)), .p (dq (aI s).order), .p (qq (aT s)), .own 3 ops.length]),
       (3, .arr 33 12 ops.length (aQ cC ops)),(4, .arr 33 12 (l.length+jk.length) (aQ cC (l ++ jk)))] 5) ?_ ?_
     ·refine ar [(1,some 1),(2,some 2),(3,some 3),(4,some 4)] ?_ ?_;and_intros;all_goals try exact ak
     clear hV2 hraw hstep hf;refine gQ ?_;refine jM fun K hK => ?_;refine bV ?_;and_intros;all_goals first|(refine hK _ ?_;clear hK K)|exact ai|skip
     refine eo fun KB3 hB3 => ?_
     refine aK (X:=Nat) (fun k=>aP [(1, .b (.c (.ptr 0 0))),(2, .b (.c (.ptr 1 0))),(4, .b (.c (.ptr 2 0))),(13, .b (.c (.own 4 l.length))),(19, .b (I k))]
      [(0, .fix ((fW s).map CV.p)),(1, .fix ((List.range 10).map fun _=>CV.p .any)),(2, .fix [.p (PI (aI s).bits), .p (PI (aG s).x0), .p (PI (aG s).y0), .p (PI (aG s).x1), .p (PI (aG s).y1), .p (PI (eF s)), .p (PI (eB s)), .p (dq (aI s).order), .p (qq (aT s)), .own 3 (ops.length+k)]),
       (3, .arr 33 12 (ops.length+k) (aQ cC (ops ++ List.replicate k kV))),(4, .arr 33 12 (l.length+jk.length) (aQ cC (l ++ jk)))] 5) (fun k=>k≤l.length) (fun k=>l.length - k) 0 ?_ ?_ ?_
     ·omega
     ·refine ar [(1,some 1),(2,some 2),(3,some 3),(4,some 4)] ?_ ?_;and_intros;all_goals try exact ak
      exact .inl (by rw [List.replicate_zero,List.append_nil])
     ·intro k hk
      repeat' (first|refine aC ?_|(refine aH (fun hb => ?_) (fun hb => ?_) <;> try exact ax)|refine gM (S:=Sg) (by assumption) ?_)
      ·rw [ae];refine ao (k+1) ?_ (by omega) (by omega);have hl1:(ops ++ List.replicate k kV).length=ops.length+k:=by simp
       have he:(ops ++ List.replicate k kV) ++ [kV]=ops ++ List.replicate (k+1) kV:=by rw [List.append_assoc,List.replicate_succ']
       refine ar [(1,some 1),(2,some 2),(3,some 6),(4,some 4)] ?_ ?_;and_intros;all_goals try exact ak
       have key:=fun g hg=>gD (enc:=cC) (xs:=ops ++ List.replicate k kV) (x:=kV) (s:=12) (g:=g) hg;simp only [hl1,he] at key;refine .inr (key _ fun j hj => ?_);have hivl:j=0∨j=1∨j=2∨j=3∨j=4∨j=5∨j=6∨j=7∨j=8∨j=9∨j=10∨j=11:=by omega
       rcases hivl with rfl|rfl|rfl|rfl|rfl|rfl|rfl|rfl|rfl|rfl|rfl|rfl <;> rfl
      ·have hk2:k=l.length:=by omega
       have e2:ops ++ List.replicate k kV=(aI s).ops:=by
        rw [hk2];show _=(BS s).1 ++ List.replicate (BS s).2.length kV;rw [hfin]
       have e1:ops.length+k=(aI s).ops.length:=by rw [← e2];simp
       rw [e1,e2];refine ⟨⟨_,rfl,rfl,fun _ _ _ _=>PV.le_refl _⟩, ?_⟩;and_intros;all_goals first|exact .inl rfl|trivial|skip
theorem kE (s:Scene) (hs:SceneOk s):aB Sg 10 [ag (fW s)] (fun r=>r = .b (ag (ay (aI s)))) :=
 Ed (xY s hs) rfl
end
section
attribute [local go_sem] qE mh
theorem Ot (m:Int):aB Sg 196 [I m] (fun r=>r = .b (B (decide (1≤m∧m≤12)))):=by
 refine az Tryz.func196 [.tmp 2] ?_;repeat' (refine aC ?_)
 refine ga ?_
 (try simp only [Bool.and_eq_true,Bool.or_eq_true,Bool.not_eq_true',Bool.not_eq_false',decide_eq_true_eq,decide_eq_false_iff_not,ge_iff_le,gt_iff_lt,beq_iff_eq,bne_iff_ne,ne_eq,Bool.or_eq_false_iff,Bool.and_eq_false_imp,Bool.not_true,Bool.not_false])
 try omega
theorem Yv (mode s a d b:Int) (hm:1≤mode∧mode≤12) (h:Sm4 s a d b):aB Sg 258 [I mode,cY s,cY a,cY d,cY b] (fun r=>r = .b (ag (mh (aR mode s a d b)))):=by
 have hso:=RX s a d b h;have hdo:=Pu s a d b h;have hbu:=SU s a d b h;have hh:=h;obtain ⟨s0,sa,am,d0,db,bm⟩:=h;have sb:0≤s * b∧s * b≤65535 * 65535:=⟨au (by omega) (by omega),aD (by omega) (by omega) (by omega) (by omega)⟩
 have sd:0≤s * d∧s * d≤65535 * 65535:=⟨au (by omega) (by omega),aD (by omega) (by omega) (by omega) (by omega)⟩
 have da:0≤d * a∧d * a≤65535 * 65535:=⟨au (by omega) (by omega),aD (by omega) (by omega) (by omega) (by omega)⟩
 have ab:0≤a * b∧a * b≤65535 * 65535:=⟨au (by omega) (by omega),aD (by omega) (by omega) (by omega) (by omega)⟩
 have hmin:(if d * a<s * b then d * a else s * b)=min (s * b) (d * a):=by split <;> omega
 have hmax:(if d * a>s * b then d * a else s * b)=max (s * b) (d * a):=by split <;> omega
 have qmin:Q64 (if d * a<s * b then d * a else s * b):=⟨by split <;> omega,by split <;> omega⟩
 have qmax:Q64 (if d * a>s * b then d * a else s * b):=⟨by split <;> omega,by split <;> omega⟩
 have hv:mode=1∨mode=2∨mode=3∨mode=4∨mode=5∨mode=6∨mode=7∨mode=8∨mode=9∨mode=10∨mode=11∨mode=12:=by omega
 have ht:True:=trivial;refine az Tryz.func258 [.cell 10 274] ?_;rcases hv with rfl|rfl|rfl|rfl|rfl|rfl|rfl|rfl|rfl|rfl|rfl|rfl
 ·repeat' (first|refine aj ht ?_|refine aw ?_|refine an (fun K hK => ?_)|refine aa (ct (s * b) 1 ⟨by omega,by omega⟩) ?_|(refine aq hK ?_;try clear hK K))
  rfl
 ·repeat' (first|refine aj ht ?_|refine aw ?_|refine an (fun K hK => ?_)|refine aa (ct (s * d) 1 ⟨by omega,by omega⟩) ?_|(refine aq hK ?_;try clear hK K))
  rfl
 ·have hn:0≤s * b+d * a - s * d:=by have:=aD (Int.le_refl s) db d0 s0;omega
  repeat' (first|refine aj ht ?_|refine aw ?_|refine an (fun K hK => ?_)|refine aa (ct (s * b+d * a - s * d) 1 ⟨by omega,by omega⟩) ?_|(refine aq hK ?_;try clear hK K))
  rfl
 ·have hb:=qm d0 db s0 sa;have hb2:b * a≤65535 * 65535:=by rw [Int.mul_comm];omega
  have h1:=GO s a d b (decide (2 * d≤b)) hh (fun q=>by
   rw [decide_eq_false_iff_not] at q;have:=aD (show 2 * (b - d)≤b by omega) (show a - s≤a by omega) (by omega) (by omega)
   rw [Int.mul_comm a b];omega)
  rw [show (if decide (2 * d≤b)=true then 2 * s * d else a * b - 2 * (b - d) * (a - s))=nj d b s a by
   unfold nj;simp only [decide_eq_true_eq];split
   ·rw [Int.mul_right_comm]
   ·rw [Int.mul_comm a b,Int.mul_right_comm 2 (b - d)]] at h1
  repeat' (first|refine aj ht ?_|refine aw ?_|refine an (fun K hK => ?_)|refine aa (h1) ?_|refine aa (ct (nj d b s a) 1 ⟨by omega,by omega⟩) ?_|(refine aq hK ?_;try clear hK K))
  rfl
 ·repeat' (first|refine aj ht ?_|refine aw ?_|refine an (fun K hK => ?_)|refine aa (ct (if d * a<s * b then d * a else s * b) 1 qmin) ?_|(refine aq hK ?_;try clear hK K))
  rw [hmin];rfl
 ·repeat' (first|refine aj ht ?_|refine aw ?_|refine an (fun K hK => ?_)|refine aa (ct (if d * a>s * b then d * a else s * b) 1 qmax) ?_|(refine aq hK ?_;try clear hK K))
  rw [hmax];rfl
 ·repeat' (first|refine aj ht ?_|refine aw ?_|refine an (fun K hK => ?_)|refine aa (hdo) ?_|(refine aq hK ?_;try clear hK K))
  rfl
 ·repeat' (first|refine aj ht ?_|refine aw ?_|refine an (fun K hK => ?_)|refine aa (hbu) ?_|(refine aq hK ?_;try clear hK K))
  rfl
 ·have hb:=qm s0 sa d0 db
  have h1:=GO s a d b (decide (2 * s≤a)) hh (fun q=>by
   rw [decide_eq_false_iff_not] at q;have:=aD (show b - d≤b by omega) (show 2 * (a - s)≤a by omega) (by omega) (by omega);rw [Int.mul_comm b a] at this
   rw [Int.mul_right_comm,Int.mul_comm];omega)
  rw [show (if decide (2 * s≤a)=true then 2 * s * d else a * b - 2 * (b - d) * (a - s))=nj s a d b by
   unfold nj
   simp only [decide_eq_true_eq]] at h1
  repeat' (first|refine aj ht ?_|refine aw ?_|refine an (fun K hK => ?_)|refine aa (h1) ?_|refine aa (ct (nj s a d b) 1 ⟨by omega,by omega⟩) ?_|(refine aq hK ?_;try clear hK K))
  rfl
 ·repeat' (first|refine aj ht ?_|refine aw ?_|refine an (fun K hK => ?_)|refine aa (hso) ?_|(refine aq hK ?_;try clear hK K))
  rfl
 ·have hmm:(if d * a>s * b then d * a else s * b) - (if d * a<s * b then d * a else s * b)=max (s * b) (d * a) - min (s * b) (d * a):=by rw [hmin,hmax]
  have qd:Q64 ((if d * a>s * b then d * a else s * b) - (if d * a<s * b then d * a else s * b)):=⟨by split <;> split <;> omega,by split <;> split <;> omega⟩
  repeat' (first|refine aj ht ?_|refine aw ?_|refine an (fun K hK => ?_)|refine aa (ct ((if d * a>s * b then d * a else s * b) - (if d * a<s * b then d * a else s * b)) 1 qd) ?_|(refine aq hK ?_;try clear hK K))
  rw [hmm];rfl
 ·have hn:0≤s * b+d * a - 2 * s * d:=by
   have h1:=aD (Int.le_refl s) db d0 s0;have h2:=aD sa (Int.le_refl d) d0 (by omega);rw [Int.mul_comm a d] at h2;rw [Int.mul_assoc];omega
  have h4:0≤2 * s * d∧2 * s * d≤131070 * 65535:=⟨au (by omega) d0,aD (by omega) (by omega) d0 (by omega)⟩
  repeat' (first|refine aj ht ?_|refine aw ?_|refine an (fun K hK => ?_)|refine aa (ct (s * b+d * a - 2 * s * d) 1 ⟨by omega,by omega⟩) ?_|(refine aq hK ?_;try clear hK K))
  rfl
theorem De (mode s a d b:Int) (hm:1≤mode∧mode≤12) (h:Sm4 s a d b):aB Sg 246 [I mode,U s,U a,U d,U b] (fun r=>r = .tup [ag (mh (aR mode s a d b)),B true]):=by
 have h1:=Ot mode;rw [decide_eq_true hm] at h1;have h2:=Yv mode s a d b hm h;obtain ⟨s0,sa,am,d0,db,bm⟩:=h;have d1:decide (s>a)=false:=decide_eq_false (by omega);have d2:decide (d>b)=false:=decide_eq_false (by omega);generalize aR mode s a d b=X at *
 refine az Tryz.func246 [.cell 10 274, .tmp 11] ?_;repeat' (first|refine aj (And.intro d1 d2) ?_|refine aw ?_|refine an (fun K hK => ?_)|refine aa (h1) ?_|refine aa (h2) ?_|(refine aq hK ?_;try clear hK K))
 rfl
end
end Go.Proofs.YtdjmpacladhijaaGreatDoor
