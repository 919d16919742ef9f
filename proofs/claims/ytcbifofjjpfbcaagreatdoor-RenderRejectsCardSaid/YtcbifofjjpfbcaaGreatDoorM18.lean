/- Part of the proof: D6, F24, EB, SlZa, SlZb, SlZc, SlZd, SlRd, SlRe, Y1. -/
import Derived.RangeFuncKeeps
import Derived.RangeFuncLeaves
import Derived.RangeFuncCalls
import Derived.LoopNIn
import Derived.OrdersIn
import Derived.TacticsIn
import Derived.RangeFuncWrites
import Derived.Shelf.Abstract
import Derived.WalkKit
import Derived.OwnWalkIn
import Derived.TacticsInMore
import Derived.LoopIn
import Derived.Test.YtcbifofjjpfbcaaGreatDoorM14
set_option linter.unusedSimpArgs false
set_option linter.unusedVariables false
set_option maxHeartbeats 8000000
set_option maxRecDepth 16000
namespace Go.Proofs.YtcbifofjjpfbcaaGreatDoor
open Go Go.SL
open Go.RowKit (wrap64)
section
def qM (n:Nat) (f:Nat→Rect):PV := .lst 4 n (fun a j=>(aQ (f a)).getD j .any)
def rF (l junk:List Rect) (a:Nat):Rect:=(l.reverse ++ junk).getD a dt
theorem sZ {p:Rect} {t junk:List Rect}:rF (p :: t) junk t.length=p:=by
 rw [rF,List.reverse_cons,List.append_assoc,List.getD_eq_getElem?_getD,List.getElem?_append_right (by simp)];simp
theorem KO {p:Rect} {t junk:List Rect}:rF (p :: t) junk=rF t (p :: junk):=by funext a;rw [rF,rF,List.reverse_cons,List.append_assoc];rfl
theorem QO {q p:Rect} {t junk:List Rect}:rF (q :: p :: t) junk t.length=p:=by rw [KO,sZ]
theorem QR {q p:Rect} {t junk:List Rect}:rF (q :: p :: t) junk (t.length+1)=q:=sZ (t:=p :: t)
theorem Vr {l:List Rect} {i:Rect} {a:Nat} {junk:List Rect} (h:a<l.length):rF (i :: l) [] a=rF l junk a:=by rw [rF,rF,List.reverse_cons,List.append_nil,List.getD_eq_getElem?_getD,List.getD_eq_getElem?_getD,List.getElem?_append_left (by simpa using h),List.getElem?_append_left (by simpa using h)]
theorem Jt {l:List Rect} {x y:Rect} {a:Nat} {junk:List Rect} (h:a≠l.length):rF (x :: l) junk a=rF (y :: l) junk a:=by
 rw [rF,rF,List.reverse_cons,List.reverse_cons,List.append_assoc,List.append_assoc,List.getD_eq_getElem?_getD,List.getD_eq_getElem?_getD];rcases Nat.lt_or_ge a l.reverse.length with q|q
 ·rw [List.getElem?_append_left q,List.getElem?_append_left q]
 ·rw [List.getElem?_append_right q,List.getElem?_append_right q];have:a - l.reverse.length≠0:=by simp at q ⊢;omega
  cases hk:a - l.reverse.length with
  | zero=>exact absurd hk this
  | succ k=>rfl
attribute [local go_sem] np Int.toNat_natCast nG sZ QO QR
theorem sA (r:Rect):(SV.b (ag (aQ r))).flat:=fun c hc=>by
 obtain ⟨x,hx,rfl⟩:=List.mem_map.1 hc;simp only [aQ,List.mem_cons,List.not_mem_nil,or_false] at hx;rcases hx with rfl|rfl|rfl|rfl <;> trivial
theorem KU {s:Script} (W:Wf s.ops):∀ i,i≤s.ops.length→(dW s i).2.length=(bZ s.ops i).length+1
 | 0,_=>rfl
 | i+1,hi=>by
  have ih:=KU W i (by omega);rcases W.kinds i (by omega) with k|k|k
  ·rw [dM k,dW,if_neg (by omega),if_pos k];simp [rv];omega
  ·rw [dR k,dW,if_pos k];simp;omega
  ·have:=W.pops i (by omega) k;rw [fy k,dW,if_neg (by omega),if_neg (by omega)];simp [rv];have:0<(bZ s.ops i).length:=List.length_pos_iff.2 this;omega
theorem zN {s:Script} (V:VOps s) {i:Nat} (hi:i<s.ops.length) (hk:(aB s.ops i).kind≠3):0≤(aB s.ops i).mask∧(aB s.ops i).mask≤1000000:=by
 have h:=((ee.1 (V.ok i hi)).2.2.2 hk).1;have:=V.imgs;omega
theorem Cr {s:Script} (V:VOps s):∀ i,i≤s.ops.length→lh s.bits s.images.length (s.ops.drop (s.ops.length - i)) (cI (s.ops.take (s.ops.length - i)) [])
 | 0,_=>by rw [Nat.sub_zero,List.drop_length];trivial
 | i+1,hi=>by
  have hl:s.ops.length - (i+1)<s.ops.length:=by omega
  have e:aB s.ops (s.ops.length - (i+1))=s.ops[s.ops.length - (i+1)]:=by rw [aB,List.getD_eq_getElem?_getD,List.getElem?_eq_getElem hl];rfl
  have ih:=Cr V i (by omega);rw [List.drop_eq_getElem_cons hl];refine ⟨?_, ?_⟩
  ·rw [mR _ (by omega),← e];exact V.ok _ hl
  ·have e2:s.ops.length - (i+1)+1=s.ops.length - i:=by omega
   rw [e2];rw [← e2,List.take_add_one,List.getElem?_eq_getElem hl,fI,e2] at ih;exact ih
theorem DI {s:Script} (V:VOps s):kt s=(0,0):=by
 rw [kt,if_pos V.frame];refine xo ?_ ?_
 ·have:=Cr V _ (Nat.le_refl _);rw [Nat.sub_self] at this;exact this
 ·have:=mR (ops:=s.ops) s.ops.length (Nat.le_refl _);rw [List.take_length,V.wf.fin] at this;exact this
theorem Ft (s:Script) (V:VOps s) (hs':ScriptLen s):aA Sg 81 [ag (aF s)] (fun x=>x = .tup [.c (.p (qM s.ops.length (bp s))),I 0]):=by
 have hn:=V.cnt;have W:=V.wf;have ho:=yX s hs';rw [DI V] at ho;refine aD Tryz.func81 [.tmp 2, .tmp 3] ?_
 repeat' (first|refine ax ?_|refine an (fun K hK => ?_)|refine aa (ho) ?_|(refine aK (fun hb => ?_) (fun hb => ?_) <;> try exact aE)|(refine aq hK ?_;try clear hK K))
 ·simp at hb
 refine aH (X:=Nat × List Nat × List Rect) (fun x=>aT [(1, .b (.c (.ptr 0 0))),(2, .b (.c (.p (.val (.slice none 0 0))))),(3, .b (I 0)),(6, .b (.c (.own 1 s.ops.length))),(7, .b (.c (.own 3 (bZ s.ops x.1).length))),
  (8, .b (.c (.own 2 (dW s x.1).2.length))),(28, .b (.c (.p (yU s.ops)))),(29, .b (I s.ops.length)),(30, .b (I x.1))]
  [(0, .fix ((aF s).map CV.p)),(1, .arr 28 4 s.ops.length (fun a j=>(aQ ((dW s x.1).1 a)).getD j .any)),(2, .arr 28 4 ((dW s x.1).2.length+x.2.2.length) (fun a j=>(aQ (rF (dW s x.1).2 x.2.2 a)).getD j .any)),
   (3, .arr 3 1 ((bZ s.ops x.1).length+x.2.1.length) (fun a _=>PI (HX (bZ s.ops x.1) x.2.1 a)))] 4)
  (fun x=>x.1≤s.ops.length) (fun x=>s.ops.length - x.1) (0,[],[]) ?_ ?_ ?_
 ·exact Nat.zero_le _
 ·refine au [(1,some 1),(2,some 2),(3,none)] ?_ ?_;and_intros;all_goals try exact aj
  ·refine .inr fun a ha j hj => ?_;have hivl:j=0∨j=1∨j=2∨j=3:=by omega
   rcases hivl with rfl|rfl|rfl|rfl <;> exact fun _ _ _ h=>h
  ·refine .inr fun a ha j hj => ?_;have ea:a=0:=by omega
   subst ea;have hivl:j=0∨j=1∨j=2∨j=3:=by omega
   rcases hivl with rfl|rfl|rfl|rfl <;> exact fun _ _ _ h=>h
 ·rintro ⟨i,junk,junk2⟩ hi;dsimp only at hi ⊢;have hsl:=uR s.ops i;have hbl:=KU W i hi;rcases Nat.lt_or_ge i s.ops.length with hlt|hge
  ·cases hh:(dW s i).2 with
   | nil=>rw [hh] at hbl;simp at hbl
   | cons h0 hs0 =>
    have hl0:hs0.length≤4096:=by rw [hh] at hbl;simp at hbl;omega
    rcases W.kinds i hlt with hk|hk|hk
    ·have hk2:(s.ops.getD i default).kind=1:=hk;have hm:=zN V hlt (by omega)
     repeat' (first|refine ah hk2 ?_|refine ax ?_|refine an (fun K hK => ?_)|refine aa (xd s (s.ops.getD i default) hs') ?_|refine aa (By s (s.ops.getD i default) (bB s (s.ops.getD i default)) hs' hm) ?_|(refine aK (fun hb => ?_) (fun hb => ?_) <;> try exact aE)|(refine aq hK ?_;try clear hK K))
     refine gF ?_ ?_ bG ?_ (yx [h0,gZ s (aB s.ops i) (bB s (aB s.ops i))] (by simp));try simp (maxSteps:=999999)(disch:=omega) only [go_sem]
     try (refine hK _ ?_;clear hK K)
     ·refine And.intro (by omega) (hK _ ?_);clear hK;repeat' (refine aC ?_)
      rw [ae];refine ak (i+1,junk,junk2) ?_ (by dsimp only;omega) (by dsimp only;omega);dsimp only;rw [dM hk,show dW s (i+1)=(upd (dW s i).1 i (gZ s (aB s.ops i) (bB s (aB s.ops i))),rv (dW s i).2 (gZ s (aB s.ops i) (bB s (aB s.ops i)))) from by rw [dW,if_neg (by omega),if_pos hk],hh];dsimp only [rv,List.headD,List.tail];refine au [(1,some 1),(2,some 2),(3,some 3)] ?_ ?_;and_intros;all_goals try exact aj
      ·refine .inr fun a ha j hj => ?_;by_cases e:a=i
       ·rw [if_pos e,if_pos (by omega),e,cB];have hivl:j=0∨j=1∨j=2∨j=3:=by omega
        rcases hivl with rfl|rfl|rfl|rfl <;> exact fun _ _ _ h=>h
       ·rw [if_neg e,di _ _ e];exact fun _ _ _ h=>h
      ·refine .inr fun a ha j hj => ?_;by_cases e:a=hs0.length
       ·rw [if_pos e,if_pos (by omega),e,sZ];have hivl:j=0∨j=1∨j=2∨j=3:=by omega
        rcases hivl with rfl|rfl|rfl|rfl <;> exact fun _ _ _ h=>h
       ·rw [if_neg e,Jt (x:=dZ [h0,gZ s (aB s.ops i) (bB s (aB s.ops i))]) (y:=h0) e];exact fun _ _ _ h=>h
     ·simp (maxSteps:=1000000) (disch:=omega) only [go_sem,fA,fN];refine oG (gX fun a ha j hj => ?_);have ea:a=0∨a=1:=by omega
      rcases ea with rfl|rfl
      ·have hivl:j=0∨j=1∨j=2∨j=3:=by omega
       rcases hivl with rfl|rfl|rfl|rfl <;> rfl
      ·have hivl:j=0∨j=1∨j=2∨j=3:=by omega
       rcases hivl with rfl|rfl|rfl|rfl <;> rfl
     ·exact sA _
    ·have hk2:(s.ops.getD i default).kind=2:=hk
     repeat' (first|refine ah hk2 ?_|refine aC ?_|(refine aK (fun hb => ?_) (fun hb => ?_) <;> try exact aE))
     rw [ae];refine ak (i+1,[],[]) ?_ (by dsimp only;omega) (by dsimp only;omega);dsimp only;rw [dR hk,show dW s (i+1)=((dW s i).1,dt :: (dW s i).2) from by rw [dW,if_pos hk],hh];refine au [(1,some 1),(2,some 8),(3,some 6)] ?_ ?_;and_intros;all_goals try exact aj
     ·refine .inr fun a ha j hj => ?_;unfold gY;by_cases h:a<hs0.length+1
      ·rw [if_pos h,Vr (l:=h0 :: hs0) (junk:=junk2) (by simpa using h)];exact fun _ _ _ h=>h
      ·have ea:a=(h0 :: hs0).length:=by simp;omega
       rw [if_neg h,ea,sZ,show (h0 :: hs0).length - (hs0.length+1)=0 by simp];have hivl:j=0∨j=1∨j=2∨j=3:=by omega
       rcases hivl with rfl|rfl|rfl|rfl <;> exact fun _ _ _ h=>h
     ·refine .inr fun a ha j hj => ?_;have h2:j=0:=by omega
      subst h2;unfold gY;by_cases h:a<(bZ s.ops i).length
      ·rw [if_pos h,zT h];exact fun _ _ _ h=>h
      ·have ea:a=(bZ s.ops i).length:=by omega
       rw [if_neg h,ea,nG,Nat.sub_self];exact fun _ _ _ h=>h
    ·have hk2:(s.ops.getD i default).kind=3:=hk;cases hs:bZ s.ops i with
     | nil=>exact absurd hs (W.pops i hlt hk)
     | cons p t =>
      cases hs0 with
      | nil=>rw [hh,hs] at hbl;simp at hbl
      | cons h1 hs1 =>
      have hl1:hs1.length≤4096:=by simp at hl0;omega
      have hpi:p<i:=fg (ops:=s.ops) (by rw [hs];exact List.mem_cons_self ..);have hpk:(aB s.ops p).kind=2:=il (i:=i) (by rw [hs];exact List.mem_cons_self ..);have hm:=zN V (show p<s.ops.length by omega) (by omega);have htl:t.length≤4096:=by rw [hs] at hsl;simp at hsl;omega
      repeat' (first|refine ah hk2 ?_|refine ax ?_|refine an (fun K hK => ?_)|refine aa (By s (s.ops.getD p default) h0 hs' hm) ?_|(refine aK (fun hb => ?_) (fun hb => ?_) <;> try exact aE)|(refine aq hK ?_;try clear hK K))
      refine gF ?_ ?_ bG ?_ (yx [h1,gZ s (aB s.ops p) h0] (by simp));try simp (maxSteps:=999999)(disch:=omega) only [go_sem]
      try (refine hK _ ?_;clear hK K)
      ·refine And.intro (by omega) (hK _ ?_);clear hK;repeat' (refine aC ?_)
       rw [ae];refine ak (i+1,p :: junk,h0 :: junk2) ?_ (by dsimp only;omega) (by dsimp only;omega);dsimp only
       rw [fy hk,show dW s (i+1)=(upd (upd (dW s i).1 i (gZ s (aB s.ops ((bZ s.ops i).headD 0)) ((dW s i).2.headD dt))) ((bZ s.ops i).headD 0) (gZ s (aB s.ops ((bZ s.ops i).headD 0)) ((dW s i).2.headD dt)),
        rv (dW s i).2.tail (gZ s (aB s.ops ((bZ s.ops i).headD 0)) ((dW s i).2.headD dt))) from by rw [dW,if_neg (by omega),if_neg (by omega)],hh,hs]
       dsimp only [rv,List.headD,List.tail];refine au [(1,some 1),(2,some 2),(3,some 3)] ?_ ?_;and_intros;all_goals try exact aj
       ·refine .inr fun a ha j hj => ?_;by_cases e:a=p
        ·rw [if_pos e,if_pos (by omega),e,cB];have hivl:j=0∨j=1∨j=2∨j=3:=by omega
         rcases hivl with rfl|rfl|rfl|rfl <;> exact fun _ _ _ h=>h
        ·rw [if_neg e,di _ _ e];by_cases e2:a=i
         ·rw [if_pos e2,if_pos (by omega),e2,cB];have hivl:j=0∨j=1∨j=2∨j=3:=by omega
          rcases hivl with rfl|rfl|rfl|rfl <;> exact fun _ _ _ h=>h
         ·rw [if_neg e2,di _ _ e2];exact fun _ _ _ h=>h
       ·refine .inr fun a ha j hj => ?_;by_cases e:a=hs1.length
        ·rw [if_pos e,if_pos (by omega),e,sZ];have hivl:j=0∨j=1∨j=2∨j=3:=by omega
         rcases hivl with rfl|rfl|rfl|rfl <;> exact fun _ _ _ h=>h
        ·rw [if_neg e,KO,Jt (x:=dZ [h1,gZ s (aB s.ops p) h0]) (y:=h1) e];exact fun _ _ _ h=>h
       ·exact .inl (by rw [AD])
      ·simp (maxSteps:=1000000) (disch:=omega) only [go_sem,fA,fN];simp only [if_neg (show ¬ (i=p) by omega)];refine oG (gX fun a ha j hj => ?_);have ea:a=0∨a=1:=by omega
       rcases ea with rfl|rfl
       ·have hivl:j=0∨j=1∨j=2∨j=3:=by omega
        rcases hivl with rfl|rfl|rfl|rfl <;> rfl
       ·have hivl:j=0∨j=1∨j=2∨j=3:=by omega
        rcases hivl with rfl|rfl|rfl|rfl <;> rfl
      ·exact sA _
  ·have hi2:i=s.ops.length:=by omega
   subst hi2
   repeat' (first|refine aC ?_|(refine aK (fun hb => ?_) (fun hb => ?_) <;> try exact aE))
   rfl
end
section
theorem pS {l jk : List Op} {x : Op} {g : Nat → Nat → PV} (hg : ∀ j, j < 12 → g 0 j = (fZ x).getD j .any) :
  ∀ i,i<l.length+1→∀ j,j<12→PV.le (gY l.length (bK fZ (l ++ jk)) g i j) (bK fZ (l ++ [x]) i j):=fun i hi j hj=>by
 have:=cL (enc:=fZ) (xs:=l) (x:=x) (s:=12) (g:=g) hg i hi j hj;unfold gY at this ⊢;by_cases h:i<l.length
 ·rw [if_pos h] at this ⊢;have e:(l ++ jk).getD i default=l.getD i default:=by rw [List.getD_eq_getElem?_getD,List.getD_eq_getElem?_getD,List.getElem?_append_left h]
  unfold bK at this ⊢;rw [e];exact this
 ·rw [if_neg h] at this ⊢;exact this
def KP (s:Script):List (Option PV):=[some (PI s.bits),some (PI s.canvas.x0),some (PI s.canvas.y0),some (PI s.canvas.x1),some (PI s.canvas.y1),some (PI s.tileW),some (PI s.tileH),some (eI s.order),some (tx s.images),none]
attribute [local go_sem] KP
theorem tR (s:Scene) (hs:SceneOk s):mq Sg 10 [ag (fi s)] (KP (ay s)) 9 74 12 (ay s).ops.length (bK fZ (ay s).ops):=by
 obtain ⟨hb,⟨x1,x2⟩,⟨y1,y2⟩,⟨w1,w2⟩,⟨v1,v2⟩,⟨t1,t2⟩,⟨u1,u2⟩,ho,hp,hop,hpic,hraw⟩:=hs;have hm:=nw s.bits;have hsm:=cJ s;have htw:=iz (ar s) (cd s) (cc s);have hw0:1≤1+s.w % 5∧1+s.w % 5≤5:=by omega
 have hh0:1≤1+s.h % 4∧1+s.h % 4≤4:=by omega
 have ew:s.tileW % (1+s.w % 5)=cd s - 1:=by unfold cd;omega
 have eh:s.tileH % (1+s.h % 4)=cc s - 1:=by unfold cc;omega
 have bw:=Int.emod_nonneg s.tileW (show 1+s.w % 5≠0 by omega);have bw2:=Int.emod_lt_of_pos s.tileW (show 0<1+s.w % 5 by omega);have bh:=Int.emod_nonneg s.tileH (show 1+s.h % 4≠0 by omega);have bh2:=Int.emod_lt_of_pos s.tileH (show 0<1+s.h % 4 by omega);have hmx:aA Sg 32 [I s.bits] (fun r=>r = .b (U (cl s.bits))):=Ci _;refine FN Tryz.func10 rfl (rs:=[.cell 2 32]) rfl rfl fG (by decide +kernel) (Nat.le_of_ble_eq_true rfl) (bS bG) ?_;repeat' (first|refine ax ?_|((with_reducible refine bN (id:=10) (fun K hW => ?_));(try simp (maxSteps:=999999)(disch:=omega) only [go_sem]);and_intros;all_goals first|(refine hK _ ?_;clear hK K)|try exact ai)|refine an (fun K hK => ?_)|refine aa (hmx) ?_|refine aa (bD _ _ (by omega) (by omega)) ?_|refine aa (kS ⟨_,_,_,_⟩ _ _) ?_|(apply bn;(case hf=>rfl);(case hc=>exact bM);(all_goals first|(intro hb;(try simp only [gL] at hb))|skip))|exact aG|(refine aq hK ?_;try clear hK K))
 refine uX ?_ ?_ bG (mz s.order (bj (ar s) (cd s) (cc s) * bY (ar s) (cd s) (cc s)) ho htw.2);try simp (maxSteps:=999999)(disch:=omega) only [go_sem]
 try (refine hK _ ?_;clear hK K)
 rotate_left
 ·rw [← htw.1];have e1:1+s.tileW % (1+s.w % 5)=cd s:=rfl;have e2:1+s.tileH % (1+s.h % 4)=cc s:=rfl;simp only [e1,e2];rfl
 refine hW _ (aT [(1, .b (.c (.ptr 0 0))),(2, .b (.c (.ptr 1 0))),(3, .b (U (cl s.bits))),(4, .b (.c (.ptr 2 0))),(7, .b (I (1+s.w % 5))),(8, .b (I (1+s.h % 4)))]
  [(0, .fix ((fi s).map CV.p)),(1, .fix ((List.range 10).map fun _=>CV.p .any)),(2, .fix [.p (PI (ay s).bits), .p (PI (ar s).x0), .p (PI (ar s).y0), .p (PI (ar s).x1), .p (PI (ar s).y1), .p (PI (cd s)), .p (PI (cc s)), .p (eI (ay s).order), .p EI, .p EI])] 3) ?_ ?_
 ·clear hW;refine au [(1,some 1),(2,some 2)] ?_ ?_;and_intros;all_goals try exact aj
 clear hW;refine fV ?_;refine ix fun K hK => ?_;refine dz ?_;and_intros;all_goals first|(refine hK _ ?_;clear hK K)|exact ai|skip
 refine eO fun KB hV => ?_
 refine aH (X:=Nat) (fun i=>aT [(1, .b (.c (.ptr 0 0))),(2, .b (.c (.ptr 1 0))),(3, .b (U (cl s.bits))),(4, .b (.c (.ptr 2 0))),(7, .b (I (1+s.w % 5))),(8, .b (I (1+s.h % 4))),(12, .b (I i))]
  [(0, .fix ((fi s).map CV.p)),(1, .fix ((List.range 10).map fun _=>CV.p .any)),(2, .fix [.p (PI (ay s).bits), .p (PI (ar s).x0), .p (PI (ar s).y0), .p (PI (ar s).x1), .p (PI (ar s).y1), .p (PI (cd s)), .p (PI (cc s)), .p (eI (ay s).order), .own 3 i, .p EI]),
   (3, .arr 43 28 i (bK aI ((aX s).take i)))] 4) (fun i=>i≤s.pics.length∧i≤4) (fun i=>4 - i) 0 ?_ ?_ ?_
 ·omega
 ·refine au [(1,some 1),(2,some 2),(3,none)] ?_ ?_;and_intros;all_goals try exact aj
 ·rintro i ⟨hi,hi4⟩;have him:i<s.pics.length→PicOk (s.pics.getD i default):=hpic i
  repeat' (first|((with_reducible refine Tw (id:=14) [] ?_ (fun K hK => ?_));exact dK;refine dz ?_)|refine ax ?_|refine an (fun K hK => ?_)|(refine aK (fun hb => ?_) (fun hb => ?_) <;> try exact aE)|(refine aq hK ?_;try clear hK K)|(refine Bi hK ?_;try clear hK K))
  ·refine vb (vT (s.pics.getD (i:Int).toNat default) (ar s) (cl s.bits) (by rw [Int.toNat_natCast];exact hpic i (by omega)) hsm (by unfold u16;omega)) bG ?_;try simp (maxSteps:=999999)(disch:=omega) only [go_sem]
   and_intros;all_goals first|(refine hK _ ?_;clear hK K)|exact ai|skip
   refine hK _ trivial ?_;clear hK;repeat' (refine aC ?_)
   rw [ae];refine ak (i+1) ?_ (by omega) (by omega);have hl1:((aX s).take i).length=i:=by simp [aX];omega
   have he:(aX s).take (i+1)=(aX s).take i ++ [jd (s.pics.getD i default) (ar s) (cl s.bits)]:=by
    have h1:i<(s.pics.take 4).length:=by rw [List.length_take];omega
    have h2:i<s.pics.length:=by omega
    simp only [aX,← List.map_take];rw [List.take_add_one,List.map_append,List.getElem?_eq_getElem h1,List.getD_eq_getElem?_getD,List.getElem?_eq_getElem h2,List.getElem_take];rfl
   refine au [(1,some 1),(2,some 2),(3,some 5)] ?_ ?_;and_intros;all_goals try exact aj
   have key:=fun g hg=>cL (enc:=aI) (xs:=(aX s).take i) (x:=jd (s.pics.getD i default) (ar s) (cl s.bits)) (s:=28) (g:=g) hg;simp only [hl1,← he] at key;refine .inr (key _ fun j hj => ?_);simp only [Int.toNat_natCast];have hivl:j=0∨j=1∨j=2∨j=3∨j=4∨j=5∨j=6∨j=7∨j=8∨j=9∨j=10∨j=11∨j=12∨j=13∨j=14∨j=15∨j=16∨j=17∨j=18∨j=19∨j=20∨j=21∨j=22∨j=23∨j=24∨j=25∨j=26∨j=27:=by omega
   rcases hivl with rfl|rfl|rfl|rfl|rfl|rfl|rfl|rfl|rfl|rfl|rfl|rfl|rfl|rfl|rfl|rfl|rfl|rfl|rfl|rfl|rfl|rfl|rfl|rfl|rfl|rfl|rfl|rfl <;> rfl
  ·have hn0:i=(aX s).length:=by simp [aX];omega
   refine hV _ (aT [(1, .b (.c (.ptr 0 0))),(2, .b (.c (.ptr 1 0))),(3, .b (U (cl s.bits))),(4, .b (.c (.ptr 2 0))),(7, .b (I (1+s.w % 5))),(8, .b (I (1+s.h % 4)))]
    [(0, .fix ((fi s).map CV.p)),(1, .fix ((List.range 10).map fun _=>CV.p .any)),(2, .fix [.p (PI (ay s).bits), .p (PI (ar s).x0), .p (PI (ar s).y0), .p (PI (ar s).x1), .p (PI (ar s).y1), .p (PI (cd s)), .p (PI (cc s)), .p (eI (ay s).order), .own 3 (aX s).length, .p EI]),(3, .arr 43 28 (aX s).length (bK aI (aX s)))] 4) ?_ ?_
   ·rw [hn0,List.take_of_length_le (Nat.le_refl _)];refine au [(1,some 1),(2,some 2),(3,some 3)] ?_ ?_;and_intros;all_goals try exact aj
   clear hV hn0 him;refine fV ?_;refine ix fun K hK => ?_;refine dz ?_;and_intros;all_goals first|(refine hK _ ?_;clear hK K)|exact ai|skip
   refine Li (t:=(((aX s).length:Int) == 0)) (aT [(1, .b (.c (.ptr 0 0))),(2, .b (.c (.ptr 1 0))),(3, .b (U (cl s.bits))),(4, .b (.c (.ptr 2 0)))]
    [(0, .fix ((fi s).map CV.p)),(1, .fix ((List.range 10).map fun _=>CV.p .any)),(2, .fix [.p (PI (ay s).bits), .p (PI (ar s).x0), .p (PI (ar s).y0), .p (PI (ar s).x1), .p (PI (ar s).y1), .p (PI (cd s)), .p (PI (cc s)), .p (eI (ay s).order), .p (tx (aO s)), .p EI])] 3) ?_ ?_ ?_ ?_
   ·exact bG
   ·intro hb;have h0:(aX s).length=0:=by simpa using hb
    have hi1:aO s=[kr (1+s.w % 5) (1+s.h % 4) ⟨cl s.bits,0,0,cl s.bits,cl s.bits⟩]:=by rw [aO,if_pos h0]
    repeat' (first|(((with_reducible refine iM (id:=16) [] (by decide +kernel) (by decide +kernel) ?_ (fun K hK => ?_));exact dK);(try simp (maxSteps:=999999)(disch:=omega) only [go_sem]);and_intros;(all_goals first|(refine hK _ bG ?_;clear hK K)|exact ai|skip))|(refine aa (qG (1+s.w % 5) (1+s.h % 4) ⟨cl s.bits,0,0,cl s.bits,cl s.bits⟩) ?_;and_intros;all_goals first|(refine hK _ ?_;clear hK K)|try exact ai))
    refine hK _ trivial ?_;clear hK;rw [ae,hi1];refine ⟨_, ?_,rfl⟩;refine au [(1,some 1),(2,some 2)] ?_ ?_;and_intros;all_goals try exact aj
    have h00:aX s=[]:=List.eq_nil_of_length_eq_zero h0;rw [h00];intro a ha j hj;have:a=0:=by simpa using ha
    subst this;have hivl:j=0∨j=1∨j=2∨j=3∨j=4∨j=5∨j=6∨j=7∨j=8∨j=9∨j=10∨j=11∨j=12∨j=13∨j=14∨j=15∨j=16∨j=17∨j=18∨j=19∨j=20∨j=21∨j=22∨j=23∨j=24∨j=25∨j=26∨j=27:=by omega
    rcases hivl with rfl|rfl|rfl|rfl|rfl|rfl|rfl|rfl|rfl|rfl|rfl|rfl|rfl|rfl|rfl|rfl|rfl|rfl|rfl|rfl|rfl|rfl|rfl|rfl|rfl|rfl|rfl|rfl <;> exact PV.le_refl _
   ·intro hb;have h0:¬ (aX s).length=0:=by simpa using hb
    have hi1:aO s=aX s:=by rw [aO,if_neg h0]
    refine zP ?_;rw [ae,hi1];refine ⟨_, ?_,rfl⟩;refine au [(1,some 1),(2,some 2)] ?_ ?_;and_intros;all_goals try exact aj
    exact fun _ _ _ _=>PV.le_refl _
   have h3m:u16 (cl s.bits):=by unfold u16;omega
   have him1:1≤(aO s).length∧(aO s).length≤4:=by
    unfold aO;split
    ·simp
    ·have:(aX s).length≤4:=by simp [aX];omega
     omega
   refine ix fun K hK => ?_;refine dz ?_;and_intros;all_goals first|(refine hK _ ?_;clear hK K)|exact ai|skip
   refine fV ?_;refine ix fun K hK => ?_;refine dz ?_;and_intros;all_goals first|(refine hK _ ?_;clear hK K)|exact ai|skip
   refine eO fun KB2 hV2 => ?_
   refine aH (X:=Nat × List Op × List Op × List Op) (fun x=>aT [(1, .b (.c (.ptr 0 0))),(2, .b (.c (.ptr 1 0))),(3, .b (U (cl s.bits))),(4, .b (.c (.ptr 2 0))),(13, .b (.c (.own 4 x.2.2.1.length))),(14, .b (I x.1))]
    [(0, .fix ((fi s).map CV.p)),(1, .fix ((List.range 10).map fun _=>CV.p .any)),(2, .fix [.p (PI (ay s).bits), .p (PI (ar s).x0), .p (PI (ar s).y0), .p (PI (ar s).x1), .p (PI (ar s).y1), .p (PI (cd s)), .p (PI (cc s)), .p (eI (ay s).order), .p (tx (aO s)), .own 3 x.2.1.length]),
     (3, .arr 74 12 x.2.1.length (bK fZ x.2.1)),(4, .arr 74 12 (x.2.2.1.length+x.2.2.2.length) (bK fZ (x.2.2.1 ++ x.2.2.2)))] 5)
    (fun x=>x.1≤s.ops.length∧x.1≤9∧(s.ops.take x.1).foldl (ke (aO s).length (ar s) (cl s.bits)) ([],[])=(x.2.1,x.2.2.1)∧x.2.1.length≤x.1∧x.2.2.1.length≤x.1) (fun x=>9 - x.1) (0,[],[],[]) ?_ ?_ ?_
   ·exact ⟨by omega,by omega,rfl,Nat.le_refl _,Nat.le_refl _⟩
   ·refine au [(1,some 1),(2,some 2),(3,none),(4,none)] ?_ ?_;and_intros;all_goals try exact aj
   ·rintro ⟨i,ops,l,jk⟩ ⟨hi,hi9,hf,ho1,hl1⟩;dsimp only at hi hi9 hf ho1 hl1 ⊢;have hstep:∀ (hlt:i<s.ops.length) (q:List Op × List Op),ke (aO s).length (ar s) (cl s.bits) (ops,l) (s.ops.getD i default)=q→(s.ops.take (i+1)).foldl (ke (aO s).length (ar s) (cl s.bits)) ([],[])=q:=by
     rintro hlt q rfl;rw [List.take_add_one,List.getElem?_eq_getElem hlt,List.foldl_append,hf,List.getD_eq_getElem?_getD,List.getElem?_eq_getElem hlt];rfl
    by_cases hc:i<s.ops.length∧i<9
    ·by_cases hk0:(s.ops.getD i default).kind % 8=0∧0<l.length
     ·have hkT:((s.ops.getD i default).kind % 8 == 0 && decide ((l.length:Int)>0))=true:=by simp only [Bool.and_eq_true,beq_iff_eq,decide_eq_true_eq];omega
      repeat' (first|refine ah hkT ?_|refine ax ?_|refine an (fun K hK => ?_)|refine aa (bD _ _ (by omega) (by omega)) ?_|(refine aK (fun hb => ?_) (fun hb => ?_) <;> try exact aE)|(refine aq hK ?_;try clear hK K))
      rw [ae];have hp:=hk0.2;have hne:l≠[]:=fun h=>by rw [h] at hp;simp at hp
      have hj:l.dropLast ++ (l.getLast hne :: jk)=l ++ jk:=by
       conv=>rhs;rw [← List.dropLast_concat_getLast hne]
       simp
      refine ak (i+1,ops ++ [fE],l.dropLast,l.getLast hne :: jk) ?_ ⟨by dsimp only;omega,by dsimp only;omega,hstep hc.1 _ (by rw [ke,if_pos hk0]),by simp;omega,by rw [List.length_dropLast];dsimp only;omega⟩ (by dsimp only;omega);dsimp only;rw [hj];refine au [(1,some 1),(2,some 2),(3,some 6),(4,some 4)] ?_ ?_;and_intros;all_goals try exact aj
      ·rw [List.length_dropLast];omega
      ·simp
      ·simp
      ·refine .inr fun a ha j hj=>cL (fun j hj => ?_) a ha j hj;have hivl:j=0∨j=1∨j=2∨j=3∨j=4∨j=5∨j=6∨j=7∨j=8∨j=9∨j=10∨j=11:=by omega
       rcases hivl with rfl|rfl|rfl|rfl|rfl|rfl|rfl|rfl|rfl|rfl|rfl|rfl <;> rfl
      ·rw [List.length_dropLast];omega
     ·have hkF:((s.ops.getD i default).kind % 8 == 0 && decide ((l.length:Int)>0))=false:=by
       rw [Bool.eq_false_iff];intro h;simp only [Bool.and_eq_true,beq_iff_eq,decide_eq_true_eq] at h;exact hk0 ⟨h.1,by omega⟩
      have hraw1:RawOk (s.ops.getD (i:Int).toNat default):=hraw i hc.1;have hcb : -2000000000≤(ar s).x0∧(ar s).x0≤2000000000 ∧ -2000000000≤(ar s).y0∧(ar s).y0≤2000000000:=by
       unfold ar;dsimp only;omega
      repeat' (first|refine ah hkF ?_|refine bU ?_|((first|refine an (fun K hK => ?_)|refine aa (bD _ _ (by omega) (by omega)) ?_);and_intros;all_goals first|(refine hK _ ?_;clear hK K)|try exact ai)|(refine aK (fun hb => ?_) (fun hb => ?_);all_goals try exact aE))
      any_goals (focus (simp only [beq_eq_false_iff_ne,ne_eq];omega))
      any_goals (focus (rintro ⟨q1,q2⟩;refine ⟨⟨q1,q2⟩, ?_⟩;simp only [beq_eq_false_iff_ne,ne_eq] at q1;omega))
      repeat' (first|(((with_reducible refine bT (id:=27) [] (by decide +kernel) (by decide +kernel) ?_ (fun K hK => ?_));exact dK);(try simp (maxSteps:=999999)(disch:=omega) only [go_sem]);and_intros;(all_goals first|(refine hK _ bG ?_;clear hK K)|exact ai|skip))|(refine aa (GD _ _ _ (ar s) _ (cl s.bits) hraw1 (by omega) (by omega) hcb.1 hcb.2.1 hcb.2.2.1 hcb.2.2.2 h3m) ?_;and_intros;all_goals first|(refine hK _ ?_;clear hK K)|try exact ai))
      refine hK _ trivial ?_;clear hK;have hfr:((l.length:Int) == 0 || ((l ++ jk).getD ((l.length:Int) - 1).toNat default).isolated && !((l ++ jk).getD ((l.length:Int) - 1).toNat default).knockout)=hZ l:=by
       cases hl0:l with
       | nil=>rfl
       | cons a r =>
        rw [← hl0];have hpos:0<l.length:=by rw [hl0];simp
        have e1:((l.length:Int) - 1).toNat=l.length - 1:=by omega
        have e2:(l ++ jk).getD (l.length - 1) default=l.getD (l.length - 1) default:=by rw [List.getD_eq_getElem?_getD,List.getD_eq_getElem?_getD,List.getElem?_append_left (by omega)]
        have e3:((l.length:Int) == 0)=false:=beq_eq_false_iff_ne.2 (by omega);have e4:l.isEmpty=false:=by rw [hl0];rfl
        rw [e1,e2,e3,hZ,e4]
      generalize hO:oo (s.ops.getD i default) (decide ((s.ops.getD i default).kind % 8<3)) (aO s).length (ar s).x0 (ar s).y0 (hZ l) (cl s.bits)=O at *
      by_cases hp:(s.ops.getD i default).kind % 8<3
      ·have gk:∀ f x y,((oo (s.ops.getD i default) (decide ((s.ops.getD i default).kind % 8<3)) (aO s).length x y f (cl s.bits)).kind == 2)=true:=fun f x y=>by rw [decide_eq_true hp];rfl
       repeat' (first|refine ah gk ?_|refine aC ?_)
       rw [ae];simp only [hfr,Int.toNat_natCast,hO];refine ak (i+1,ops ++ [O],l ++ [O],[]) ?_ ⟨by dsimp only;omega,by dsimp only;omega,hstep hc.1 _ (by rw [ke,if_neg hk0,if_pos hp];dsimp only;rw [hO]),by simp;omega,by simp;omega⟩ (by dsimp only;omega);simp only [List.append_nil,List.length_nil,Nat.add_zero];refine au [(1,some 1),(2,some 2),(3,some 7),(4,some 9)] ?_ ?_;and_intros;all_goals try exact aj
       ·simp
       ·simp
       ·simp
       ·refine .inr fun a ha j hj=>cL (fun j hj => ?_) a ha j hj;have hivl:j=0∨j=1∨j=2∨j=3∨j=4∨j=5∨j=6∨j=7∨j=8∨j=9∨j=10∨j=11:=by omega
        rcases hivl with rfl|rfl|rfl|rfl|rfl|rfl|rfl|rfl|rfl|rfl|rfl|rfl <;> rfl
       ·simp
       ·refine .inr fun a ha j hj=>pS (fun j hj => ?_) a ha j hj;have hivl:j=0∨j=1∨j=2∨j=3∨j=4∨j=5∨j=6∨j=7∨j=8∨j=9∨j=10∨j=11:=by omega
        rcases hivl with rfl|rfl|rfl|rfl|rfl|rfl|rfl|rfl|rfl|rfl|rfl|rfl <;> rfl
      ·have gk:∀ f x y,((oo (s.ops.getD i default) (decide ((s.ops.getD i default).kind % 8<3)) (aO s).length x y f (cl s.bits)).kind == 2)=false:=fun f x y=>by rw [decide_eq_false hp];rfl
       repeat' (first|refine ah gk ?_|refine aC ?_)
       rw [ae];simp only [hfr,Int.toNat_natCast,hO];refine ak (i+1,ops ++ [O],l,jk) ?_ ⟨by dsimp only;omega,by dsimp only;omega,hstep hc.1 _ (by rw [ke,if_neg hk0,if_neg hp];dsimp only;rw [hO]),by simp;omega,by dsimp only;omega⟩ (by dsimp only;omega);dsimp only;refine au [(1,some 1),(2,some 2),(3,some 7),(4,some 4)] ?_ ?_;and_intros;all_goals try exact aj
       ·simp
       ·simp
       ·refine .inr fun a ha j hj=>cL (fun j hj => ?_) a ha j hj;have hivl:j=0∨j=1∨j=2∨j=3∨j=4∨j=5∨j=6∨j=7∨j=8∨j=9∨j=10∨j=11:=by omega
        rcases hivl with rfl|rfl|rfl|rfl|rfl|rfl|rfl|rfl|rfl|rfl|rfl|rfl <;> rfl
    ·repeat' (first|refine aC ?_|(refine aK (fun hb => ?_) (fun hb => ?_) <;> try exact aE))
     have hc2:i=s.ops.length∨i=9:=by omega
     have hfin:qK s=(ops,l):=by
      rw [qK,← hf];rcases hc2 with h|h
      ·rw [h,List.take_of_length_le (Nat.le_refl _),List.take_of_length_le (by omega)]
      ·rw [h]
     refine hV2 _ (aT [(1, .b (.c (.ptr 0 0))),(2, .b (.c (.ptr 1 0))),(4, .b (.c (.ptr 2 0))),(13, .b (.c (.own 4 l.length)))]
      [(0, .fix ((fi s).map CV.p)),(1, .fix ((List.range 10).map fun _=>CV.p .any)),(2, .fix [.p (PI (ay s).bits), .p (PI (ar s).x0), .p (PI (ar s).y0), .p (PI (ar s).x1), .p (PI (ar s).y1), .p (PI (cd s)), .p (PI (cc s)), .p (eI (ay s).order), .p (tx (aO s)), .own 3 ops.length]),
       (3, .arr 74 12 ops.length (bK fZ ops)),(4, .arr 74 12 (l.length+jk.length) (bK fZ (l ++ jk)))] 5) ?_ ?_
     ·refine au [(1,some 1),(2,some 2),(3,some 3),(4,some 4)] ?_ ?_;and_intros;all_goals try exact aj
     clear hV2 hraw hstep hf;refine fV ?_;refine ix fun K hK => ?_;refine dz ?_;and_intros;all_goals first|(refine hK _ ?_;clear hK K)|exact ai|skip
     refine aU fun KB3 hB3 => ?_
     refine aH (X:=Nat) (fun k=>aT [(1, .b (.c (.ptr 0 0))),(2, .b (.c (.ptr 1 0))),(4, .b (.c (.ptr 2 0))),(13, .b (.c (.own 4 l.length))),(19, .b (I k))]
      [(0, .fix ((fi s).map CV.p)),(1, .fix ((List.range 10).map fun _=>CV.p .any)),(2, .fix [.p (PI (ay s).bits), .p (PI (ar s).x0), .p (PI (ar s).y0), .p (PI (ar s).x1), .p (PI (ar s).y1), .p (PI (cd s)), .p (PI (cc s)), .p (eI (ay s).order), .p (tx (aO s)), .own 3 (ops.length+k)]),
       (3, .arr 74 12 (ops.length+k) (bK fZ (ops ++ List.replicate k fE))),(4, .arr 74 12 (l.length+jk.length) (bK fZ (l ++ jk)))] 5) (fun k=>k≤l.length) (fun k=>l.length - k) 0 ?_ ?_ ?_
     ·omega
     ·refine au [(1,some 1),(2,some 2),(3,some 3),(4,some 4)] ?_ ?_;and_intros;all_goals try exact aj
      exact .inl (by rw [List.replicate_zero,List.append_nil])
     ·intro k hk
      repeat' (first|refine aC ?_|(refine aK (fun hb => ?_) (fun hb => ?_) <;> try exact aE)|refine bt (S:=Sg) (by assumption) ?_)
      ·rw [ae];refine ak (k+1) ?_ (by omega) (by omega);have hl1:(ops ++ List.replicate k fE).length=ops.length+k:=by simp
       have he:(ops ++ List.replicate k fE) ++ [fE]=ops ++ List.replicate (k+1) fE:=by rw [List.append_assoc,List.replicate_succ']
       refine au [(1,some 1),(2,some 2),(3,some 6),(4,some 4)] ?_ ?_;and_intros;all_goals try exact aj
       have key:=fun g hg=>cL (enc:=fZ) (xs:=ops ++ List.replicate k fE) (x:=fE) (s:=12) (g:=g) hg;simp only [hl1,he] at key;refine .inr (key _ fun j hj => ?_);have hivl:j=0∨j=1∨j=2∨j=3∨j=4∨j=5∨j=6∨j=7∨j=8∨j=9∨j=10∨j=11:=by omega
       rcases hivl with rfl|rfl|rfl|rfl|rfl|rfl|rfl|rfl|rfl|rfl|rfl|rfl <;> rfl
      ·have hk2:k=l.length:=by omega
       have e2:ops ++ List.replicate k fE=(ay s).ops:=by
        rw [hk2];show _=(qK s).1 ++ List.replicate (qK s).2.length fE;rw [hfin]
       have e1:ops.length+k=(ay s).ops.length:=by rw [← e2];simp
       rw [e1,e2];refine ⟨⟨_,rfl,rfl,fun _ _ _ _=>PV.le_refl _⟩, ?_⟩;and_intros;all_goals first|exact .inl rfl|trivial|skip
theorem qP (s:Scene) (hs:SceneOk s):aA Sg 10 [ag (fi s)] (fun r=>r = .b (ag (aF (ay s)))) :=
 Ht (tR s hs) rfl
end
section
def UM:Bx := .fix [.p (PI 0), .p (PI 0), .p (PI 0), .p (PI 0), .p (PI 0), .p (PI 0), .p (PI 0), .p (.val (.slice none 0 0)), .p (.val (.slice none 0 0)), .p (.val (.slice none 0 0))]
attribute [local go_sem] Int.toNat_natCast UM
def Ds (s:Script):List (Option PV):=[some (PI s.bits),some (PI s.canvas.x0),some (PI s.canvas.y0),some (PI s.canvas.x1),some (PI s.canvas.y1),some (PI s.tileW),some (PI s.tileH),some (eI s.order),none,some (yU s.ops)]
attribute [local go_sem] Ds
end
end Go.Proofs.YtcbifofjjpfbcaaGreatDoor
namespace Go.SL
section
open Go
def rG (n0:Nat) (r:List (Nat × Option Nat)) (i:Nat):Option Nat:=if i<n0 then some i else xY r i
theorem jm {n0 i:Nat} {r:List (Nat × Option Nat)} (h:i<n0):rG n0 r i=some i:=if_pos h
theorem kM {n0 i:Nat} {r:List (Nat × Option Nat)} (h:n0≤i):rG n0 r i=xY r i:=if_neg (by omega)
def vk (l:List (Nat × SV)) (B:Nat→Option Bx) (nx:Nat) (kf:Nat→SV):St:=⟨lW l,B,nx,kf⟩
section
variable {l:List (Nat × SV)} {B:Nat→Option Bx} {nx:Nat} {kf:Nat→SV}
theorem UJ {s:Nat}:(vk l B nx kf).fr s=lW l s:=rfl
theorem SP:(vk l B nx kf).bx=B:=rfl
theorem Sv:(vk l B nx kf).nx=nx:=rfl
theorem Vc:(vk l B nx kf).kf=kf:=rfl
end
attribute [go_sem] UJ SP Sv Vc jm kM
theorem DX {r : Nat → Option Nat} {bx B : Nat → Option Bx} {id n sz e m : Nat} {f f' : Nat → Nat → PV} (hb : bx id = some (.arr e sz m f)) (hn : n ≤ m) (h : ∀ i, i < n → ∀ j, j < sz → PV.le (f i j) (f' i j)) (hr : ∀ id', B id' ≠ none → r id' ≠ some id) :
  Bq r bx B (.own id n) (.p (.lst sz n f')):=⟨e,m,f,hb,rfl,hn,h,hr⟩
theorem ES {r:Nat→Option Nat} {bx B:Nat→Option Bx} {n:Nat} (hr:∀ id,id<n→r id=some id):∀ {x:Bx},x.lt n→Si r bx B x x
 | .fix l,h=>vZ hr h
 | .arr ..,_=>⟨rfl,rfl,rfl, .inl rfl⟩
theorem ZI {st : St} {l : List (Nat × SV)} {B : Nat → Option Bx} {nx : Nat} {kf : Nat → SV} (n0 : Nat) (r : List (Nat × Option Nat)) (ns : List Nat) (hkf : st.kf = kf) (hkl : ∀ s, (kf s).lt n0) (hn0 : n0 ≤ nx) (h0 : 0 < n0)
  (hfr:ou (rG n0 r) st B nx l) (hns:∀ i,B i≠none→n0≤i→i ∈ ns) (hge:∀ i ∈ ns,∀ k,xY r i=some k→n0≤k) (hinj:HT (xY r) ns=true)
  (hb:∀ i x,B i=some x→(i<n0∧st.bx i=some x∧x.lt n0)∨(gh (rG n0 r) st.bx B i x∧i<nx∧x.lt nx)):Le st (vk l B nx kf):=by
 have hid:∀ i,i<n0→rG n0 r i=some i:=fun i h=>jm h;refine ⟨⟨rG n0 r,hid 0 h0,fun _=>by show 0<nx;omega,fun i j k hi hj h1 h2 => ?_,fun s => ?_,fun i x hx => ?_,fun s => ?_⟩,fun s => ?_,fun i x hx => ?_,fun s=>SV.lt_mono hn0 (hkl s)⟩
 ·rcases Nat.lt_or_ge i n0 with q1|q1 <;> rcases Nat.lt_or_ge j n0 with q2|q2
  ·rw [jm q1] at h1;rw [jm q2] at h2;exact (Option.some.inj h1).trans (Option.some.inj h2).symm
  ·rw [jm q1] at h1;rw [kM q2] at h2;have:=hge j (hns j hj q2) k h2;have:=Option.some.inj h1;omega
  ·rw [kM q1] at h1;rw [jm q2] at h2;have:=hge i (hns i hi q1) k h1;have:=Option.some.inj h2;omega
  ·rw [kM q1] at h1;rw [kM q2] at h2;exact tj hinj i j k (hns i hi q1) (hns j hj q2) h1 h2
 ·show Br _ _ _ _ (lW l s);rcases kW (s:=s) (l:=l) with h|h
  ·rw [h,vi];trivial
  ·exact (ln hfr h).1
 ·rcases hb i x hx with ⟨h1,h2,h3⟩|h
  ·unfold gh;rw [hid i h1];exact ⟨x,h2,ES hid h3⟩
  ·exact h.1
 ·show Br _ _ _ (st.kf s) (kf s);rw [hkf];exact Ke hid (hkl s)
 ·show SV.lt nx (lW l s);rcases kW (s:=s) (l:=l) with h|h
  ·rw [h];trivial
  ·exact (ln hfr h).2
 ·rcases hb i x hx with ⟨h1,h2,h3⟩|h
  ·exact ⟨by show i<nx;omega,Bx.lt_mono hn0 h3⟩
  ·exact h.2
section
variable {S:Env}
theorem rR {f : FuncId} {fn : Func} {c : Code} {rs : List ResultVar} {args : List BV} {X : SV} {bx bx' : Nat → Option Bx} {nx nx' : Nat} (hf : S.P.funcs[f]? = some fn) (hb : fn.body = some c) (hrs : fn.results.toList = rs)
  (hname : (fn.name == "runtime.NumGoroutine") = false) (hm : S.P.follows .mixedOrders = true) (hN : dk fn.ntmps c = true) (hlen : args.length ≤ fn.ntmps) (hl : ∀ x ∈ args, BV.lt nx x)
  (h:∀ kf:Nat→SV,(∀ s,(kf s).lt nx)→(∀ i y,bx i=some y→i<nx∧y.lt nx)→cw S c (FG S rs X bx' nx' kf) (Jf args bx nx kf)):lU S bx nx f args X bx' nx':=by
 refine ⟨⟨fn,hf,hname,by rw [hb];rfl⟩,fun E st ρ a w vs hbx hnx g hsz hden => ?_⟩;have hwf:∀ i y,bx i=some y→i<nx∧y.lt nx:=fun i y hi=>by
  subst hbx;subst hnx;exact g.wfb i y hi
 exact (Qv hf hb hrs hname hm hN hlen hl fun kf hk=>h kf hk hwf).2 E st ρ a w vs hbx hnx g hsz hden
end
end
section
open Go
def CA (n0:Nat) (base:Nat→Option Bx) (L:List (Nat × Bx)) (i:Nat):Option Bx:=if i<n0 then base i else js L i
theorem Tq {n0 i:Nat} {base:Nat→Option Bx} {L:List (Nat × Bx)} (h:i<n0):CA n0 base L i=base i:=if_pos h
theorem Vq {n0 k:Nat} {base:Nat→Option Bx} {L:List (Nat × Bx)}:CA n0 base L (n0+k)=js L (n0+k):=if_neg (by omega)
theorem WS {n0:Nat} {base:Nat→Option Bx} {L:List (Nat × Bx)}:CA n0 base L n0=js L n0:=if_neg (by omega)
attribute [go_sem] Tq Vq WS
def TZ (n0:Nat) (r:List (Nat × Option Nat)) (st:St) (base:Nat→Option Bx) (L:List (Nat × Bx)):Prop :=
 ∀ i x,i<n0→base i=some x→x.lt n0∧(st.bx i=some x∨gh (rG n0 r) st.bx (CA n0 base L) i x)
theorem DD {st : St} {l : List (Nat × SV)} {B : Nat → Option Bx} {nx : Nat} {kf : Nat → SV} (n0 : Nat) (r : List (Nat × Option Nat)) (ns : List Nat) (hkf : st.kf = kf) (hkl : ∀ s, (kf s).lt n0) (hn0 : n0 ≤ nx) (h0 : 0 < n0)
  (hfr:ou (rG n0 r) st B nx l) (hns:∀ i,B i≠none→n0≤i→i ∈ ns) (hge:∀ i ∈ ns,∀ k,xY r i=some k→n0≤k) (hinj:∀ i j k,i ∈ ns→j ∈ ns→xY r i=some k→xY r j=some k→i=j)
  (hb:∀ i x,B i=some x→(i<n0∧st.bx i=some x∧x.lt n0)∨(gh (rG n0 r) st.bx B i x∧i<nx∧x.lt nx)):Le st (vk l B nx kf):=by
 have hid:∀ i,i<n0→rG n0 r i=some i:=fun i h=>jm h;refine ⟨⟨rG n0 r,hid 0 h0,fun _=>by show 0<nx;omega,fun i j k hi hj h1 h2 => ?_,fun s => ?_,fun i x hx => ?_,fun s => ?_⟩,fun s => ?_,fun i x hx => ?_,fun s=>SV.lt_mono hn0 (hkl s)⟩
 ·rcases Nat.lt_or_ge i n0 with q1|q1 <;> rcases Nat.lt_or_ge j n0 with q2|q2
  ·rw [jm q1] at h1;rw [jm q2] at h2;exact (Option.some.inj h1).trans (Option.some.inj h2).symm
  ·rw [jm q1] at h1;rw [kM q2] at h2;have:=hge j (hns j hj q2) k h2;have:=Option.some.inj h1;omega
  ·rw [kM q1] at h1;rw [jm q2] at h2;have:=hge i (hns i hi q1) k h1;have:=Option.some.inj h2;omega
  ·rw [kM q1] at h1;rw [kM q2] at h2;exact hinj i j k (hns i hi q1) (hns j hj q2) h1 h2
 ·show Br _ _ _ _ (lW l s);rcases kW (s:=s) (l:=l) with h|h
  ·rw [h,vi];trivial
  ·exact (ln hfr h).1
 ·rcases hb i x hx with ⟨h1,h2,h3⟩|h
  ·unfold gh;rw [hid i h1];exact ⟨x,h2,ES hid h3⟩
  ·exact h.1
 ·show Br _ _ _ (st.kf s) (kf s);rw [hkf];exact Ke hid (hkl s)
 ·show SV.lt nx (lW l s);rcases kW (s:=s) (l:=l) with h|h
  ·rw [h];trivial
  ·exact (ln hfr h).2
 ·rcases hb i x hx with ⟨h1,h2,h3⟩|h
  ·exact ⟨by show i<nx;omega,Bx.lt_mono hn0 h3⟩
  ·exact h.2
def rD (n0:Nat) (ids:List (Nat × Nat)):List (Nat × Option Nat):=ids.map fun p=>(n0+p.1,some (n0+p.2))
theorem VA {n0:Nat}:rD n0 []=[]:=rfl
theorem FL {n0 a b:Nat} {l:List (Nat × Nat)}:rD n0 ((a,b) :: l)=(n0+a,some (n0+b)) :: rD n0 l:=rfl
attribute [go_sem] VA FL
theorem BM {n0 i k:Nat}:∀ {ids:List (Nat × Nat)},i ∈ ids.map (fun p=>n0+p.1)→xY (rD n0 ids) i=some k→∃ p ∈ ids,i=n0+p.1∧k=n0+p.2
 | [],hm,h=>by cases hm
 | (a,b) :: l,hm,h=>by
  rw [FL,dU] at h;split at h
  ·rename_i e;cases h;exact ⟨_,List.mem_cons_self ..,e,rfl⟩
  ·rename_i e;rcases List.mem_cons.1 hm with q|q
   ·exact absurd q e
   ·obtain ⟨p,hp,h1,h2⟩:=BM q h;exact ⟨p,List.mem_cons_of_mem _ hp,h1,h2⟩
theorem yh {st : St} {l : List (Nat × SV)} {L : List (Nat × Bx)} {base : Nat → Option Bx} {n0 nx : Nat} {kf : Nat → SV} (ids : List (Nat × Nat)) (hkf : st.kf = kf) (hkl : ∀ s, (kf s).lt n0) (hn0 : n0 ≤ nx) (h0 : 0 < n0)
  (hbase:TZ n0 (rD n0 ids) st base L) (hfr:ou (rG n0 (rD n0 ids)) st (CA n0 base L) nx l) (hL:Cl (rG n0 (rD n0 ids)) st (CA n0 base L) nx L)
  (hcov:L.map (·.1)=ids.map (fun p=>n0+p.1):=by rfl) (hinj:(ids.all fun p=>ids.all fun q=>p.2 != q.2 || p.1 == q.1)=true:=by rfl):Le st (vk l (CA n0 base L) nx kf):=by
 refine DD n0 (rD n0 ids) (L.map (·.1)) hkf hkl hn0 h0 hfr (fun i hi hn => ?_) (fun i hm k h => ?_) (fun i j k hm hm2 h1 h2 => ?_) (fun i x hx => ?_)
 ·unfold CA at hi;rw [if_neg (by omega)] at hi;cases h:js L i with
  | none=>exact absurd h hi
  | some x=>exact List.mem_map.2 ⟨(i,x),jI h,rfl⟩
 ·obtain ⟨p,_,_,e⟩:=BM (hcov ▸ hm) h;omega
 ·obtain ⟨p,hp,e1,e2⟩:=BM (hcov ▸ hm) h1;obtain ⟨q,hq,e3,e4⟩:=BM (hcov ▸ hm2) h2;have h:=List.all_eq_true.1 (List.all_eq_true.1 hinj p hp) q hq;simp only [Bool.or_eq_true,bne_iff_ne,beq_iff_eq] at h;rcases h with h|h
  ·exact absurd (by omega) h
  ·omega
 ·unfold CA at hx;split at hx
  ·rename_i hi;obtain ⟨h1,h2⟩:=hbase i x hi hx;rcases h2 with h2|h2
   ·exact .inl ⟨hi,h2,h1⟩
   ·exact .inr ⟨h2,by omega,Bx.lt_mono hn0 h1⟩
  ·exact .inr (rV hL (jI hx))
end
section
open Go
theorem GS {n0 c:Nat} {ids:List (Nat × Nat)} {base:Nat→Option Bx} {L:List (Nat × Bx)} (hcov:L.map (·.1)=ids.map (fun p=>n0+p.1)) (hc:(ids.all fun p=>p.2 != c)=true):∀ id',CA n0 base L id'≠none→rG n0 (rD n0 ids) id'≠some (n0+c):=fun id' h e=>by
 rcases Nat.lt_or_ge id' n0 with q|q
 ·rw [jm q] at e;have:=Option.some.inj e;omega
 ·unfold CA at h;rw [if_neg (by omega)] at h;rw [kM q] at e;cases hx:js L id' with
  | none=>exact h hx
  | some x =>
   have hm:id' ∈ ids.map (fun p=>n0+p.1):=by rw [← hcov];exact List.mem_map.2 ⟨_,jI hx,rfl⟩
   obtain ⟨p,hp,_,e2⟩:=BM hm e;have:=List.all_eq_true.1 hc p hp;simp only [bne_iff_ne] at this;omega
theorem XZ {st : St} {l : List (Nat × SV)} {B : Nat → Option Bx} {nx : Nat} {kf : Nat → SV} (hkf : st.kf = kf) (hkl : ∀ s, (kf s).lt nx) (h0 : 0 < nx) (hfr : ou (rG nx []) st B nx l)
  (hb:∀ i x,B i=some x→i<nx∧x.lt nx∧gh (rG nx []) st.bx B i x):Le st (vk l B nx kf) :=
 DD nx [] [] hkf hkl (Nat.le_refl _) h0 hfr (fun i hi hn=>by
  cases hx:B i with
  | none=>exact absurd hx hi
  | some x=>have:=(hb i x hx).1;omega) (fun i h=>by cases h) (fun i j k h=>by cases h) (fun i x hx => .inr ⟨(hb i x hx).2.2,(hb i x hx).1,(hb i x hx).2.1⟩)
theorem iF {nx i:Nat} {bx B:Nat→Option Bx} {x y:Bx} (hi:i<nx) (h:bx i=some y) (hx:Si (rG nx []) bx B y x):gh (rG nx []) bx B i x:=by
 unfold gh;rw [jm hi];exact ⟨y,h,hx⟩
theorem rI {nx:Nat} {bx B:Nat→Option Bx} {x:Bx} (h:x.lt nx):Si (rG nx []) bx B x x:=ES (fun id hid=>jm hid) h
def FA (b k:Nat) (cs:List CV) (n T sz N:Nat) (f:Nat→Nat→PV) (base:Nat→Option Bx):Nat→Option Bx:=aJ b (.fix (cs ++ [.own k n])) (aJ k (.arr T sz N f) base)
section
variable {b k n T sz N:Nat} {cs:List CV} {f:Nat→Nat→PV} {base:Nat→Option Bx}
theorem Kk:FA b k cs n T sz N f base b=some (.fix (cs ++ [.own k n])):=by simp [FA,aJ]
theorem JR (h:k≠b):FA b k cs n T sz N f base k=some (.arr T sz N f):=by simp [FA,aJ,h]
theorem CO {i:Nat} (h:i≠b) (h2:i≠k):FA b k cs n T sz N f base i=base i:=by simp [FA,aJ,h,h2]
end
theorem Zt {st : St} {l : List (Nat × SV)} {b k n T sz N n0 nx : Nat} {cs : List CV} {f f' : Nat → Nat → PV} {base : Nat → Option Bx} {kf : Nat → SV} (hkf : st.kf = kf) (hkl : ∀ s, (kf s).lt n0) (hn0 : n0 ≤ nx) (h0 : 0 < nx) (hbn : b < nx) (hkn : k < nx) (hkb : k ≠ b)
  (hcs:∀ c ∈ cs,CV.lt 0 c) (h1:st.bx b=some (.fix (cs ++ [.own k n]))) (h2:st.bx k=some (.arr T sz N f)) (hf:f=f'∨∀ i,i<N→∀ j,j<sz→PV.le (f i j) (f' i j))
  (hoth:∀ i x,i≠b→i≠k→base i=some x→i<nx∧x.lt nx∧gh (rG nx []) st.bx (FA b k cs n T sz N f' base) i x) (hfr:ou (rG nx []) st (FA b k cs n T sz N f' base) nx l):Le st (vk l (FA b k cs n T sz N f' base) nx kf):=by
 refine XZ hkf (fun s=>SV.lt_mono hn0 (hkl s)) h0 hfr (fun i x hx => ?_);by_cases e1:i=b
 ·subst e1;rw [Kk] at hx;cases hx;have hl:(Bx.fix (cs ++ [.own k n])).lt nx:=fun c hc=>by
   rcases List.mem_append.1 hc with q|q
   ·exact CV.lt_mono (Nat.zero_le _) (hcs c q)
   ·rw [List.mem_singleton.1 q];exact hkn
  exact ⟨hbn,hl,iF hbn h1 (rI hl)⟩
 by_cases e2:i=k
 ·subst e2;rw [JR hkb] at hx;cases hx;exact ⟨hkn,trivial,iF hkn h2 ⟨rfl,rfl,rfl,hf⟩⟩
 ·rw [CO e1 e2] at hx;exact hoth i x e1 e2 hx
theorem Bl {r:Nat→Option Nat} {bx B:Nat→Option Bx}:∀ {l l' m m':List CV},GI r bx B l l'→GI r bx B m m'→GI r bx B (l ++ m) (l' ++ m')
 | [],[],_,_,_,h=>h
 | x :: l,y :: l',_,_,⟨h1,h2⟩,h=>⟨h1,Bl h2 h⟩
theorem Ld {st : St} {l : List (Nat × SV)} {b q n T sz N n0 : Nat} {cs : List CV} {f f' : Nat → Nat → PV} {base : Nat → Option Bx} {kf : Nat → SV} (hkf : st.kf = kf) (hkl : ∀ s, (kf s).lt n0) (hbn : b < n0) (hqn : n0 ≤ q)
  (hcs:∀ c ∈ cs,CV.lt 0 c) (h1:st.bx b=some (.fix (cs ++ [.own q n]))) (h2:st.bx q=some (.arr T sz N f)) (hf:f=f'∨∀ i,i<N→∀ j,j<sz→PV.le (f i j) (f' i j))
  (hoth:∀ i x,i≠b→base i=some x→i<n0∧x.lt n0∧st.bx i=some x) (hfr:ou (rG n0 [(n0,some q)]) st (FA b n0 cs n T sz N f' base) (n0+1) l):Le st (vk l (FA b n0 cs n T sz N f' base) (n0+1) kf):=by
 have hr0:rG n0 [(n0,some q)] n0=some q:=by rw [kM (Nat.le_refl _),dU,if_pos rfl]
 refine DD n0 [(n0,some q)] [n0] hkf hkl (by omega) (by omega) hfr (fun i hi hn => ?_) (fun i hi k hk => ?_) (fun i j k hi hj _ _ => ?_) (fun i x hx => ?_)
 ·by_cases e:i=n0
  ·rw [e];exact List.mem_singleton.2 rfl
  ·rw [CO (by omega) e] at hi;cases hx:base i with
   | none=>exact absurd hx hi
   | some x=>have:=(hoth i x (by omega) hx).1;omega
 ·rw [List.mem_singleton.1 hi,dU,if_pos rfl] at hk;cases hk;exact hqn
 ·rw [List.mem_singleton.1 hi,List.mem_singleton.1 hj]
 ·by_cases e1:i=b
  ·subst e1;rw [Kk] at hx;cases hx;refine .inr ⟨?_,by omega,fun c hc => ?_⟩
   ·unfold gh;rw [jm hbn];refine ⟨_,h1,Bl (vZ (n:=n0) (fun id hid=>jm hid) fun c hc=>CV.lt_mono (Nat.zero_le _) (hcs c hc)) ⟨⟨hr0,rfl⟩,trivial⟩⟩
   ·rcases List.mem_append.1 hc with q|q
    ·exact CV.lt_mono (Nat.zero_le _) (hcs c q)
    ·rw [List.mem_singleton.1 q];exact Nat.lt_succ_self _
  by_cases e2:i=n0
  ·subst e2;rw [JR (by omega)] at hx;cases hx;refine .inr ⟨?_,by omega,trivial⟩;unfold gh;rw [hr0];exact ⟨_,h2,rfl,rfl,rfl,hf⟩
  ·rw [CO e1 e2] at hx;obtain ⟨p1,p2,p3⟩:=hoth i x e1 hx;exact .inl ⟨p1,p3,p2⟩
end
section
open Go
def dj (ops:Array Oper) (x y:Oper):Bool :=
 (match x.dst with|some d => !(bE ops y).contains d|none=>true) && (match y.dst with|some d => !(bE ops x).contains d|none=>true) &&
 (match x.dst,y.dst with|some d,some e=>d != e|_,_=>true)
def FK (ops:Array Oper) (x y:Oper):Bool :=
 (match y.dst with|some d => !(bE ops x).contains d|none=>true) && (match x.dst,y.dst with|some d,some e=>d != e|_,_=>true)
theorem Yy {ops:Array Oper} {x y:Oper} (h:dj ops x y=true):FK ops x y=true:=by grind [FK,dj]
def CE (S:Env) (ops:Array Oper):List Oper→St→Prop
 | [],_=>True
 | h :: r,s=>aY S ops [h] s (fun s2=>s2=s)∧CE S ops r s
def oD (S:Env) (ops:Array Oper) (H:List Oper):Nat→Array Bool→St→(St→Prop)→Prop
 | 0,listed,st,K=>CE S ops H st∧Region.ready .any ops listed=[]∧K st
 | fuel + 1, listed, st, K => CE S ops H st ∧ (Region.ready .any ops listed = [] → K st) ∧
   ∀ i ∈ Region.ready .any ops listed,match ops[i]? with
    | some o=>eX S ops st o fun st'=>oD S ops H fuel (listed.setIfInBounds i true) st' K
    | none=>oD S ops H fuel (listed.setIfInBounds i true) st K
section
variable {S:Env} {ops:Array Oper} {st s1 s2 s':St} {H:List Oper} {K:St→Prop}
theorem ve {o:Oper} {K:St→Prop}:aY S ops [o] st K=eX S ops st o K:=rfl
theorem Gs {h:Oper} {r:List Oper}:CE S ops (h :: r) st=(eX S ops st h (fun s2=>s2=st)∧CE S ops r st):=rfl
theorem MD {H:List Oper} (q:CE S ops H st):∀ h ∈ H,Ex S ops st h st:=by
 induction H with
 | nil=>grind
 | cons h r ih =>
  grind [Ex,eX,CE,Gs]
theorem Sb {H:List Oper} (q:∀ h ∈ H,Ex S ops st h st):CE S ops H st:=by
 induction H with
 | nil=>trivial
 | cons h r ih =>
  rw [Gs];exact ⟨q h (List.mem_cons_self ..),ih fun x hx=>q x (List.mem_cons_of_mem _ hx)⟩
theorem FP:∀ {fuel:Nat} {listed:Array Bool},oD S ops H fuel listed st K→CE S ops H st
 | 0,_,h=>h.1
 | _+1,_,h=>h.1
theorem En:∀ (fuel:Nat) (listed:Array Bool) (st:St),oD S ops [] fuel listed st K→gP S ops fuel listed st K
 | 0,_,_,h=>h.2
 | fuel+1,listed,st,h=>⟨h.2.1,fun i hi=>by
  have:=h.2.2 i hi;cases ho:ops[i]? with
  | some o =>
   rw [ho] at this;exact oH (fun s hs=>En fuel _ s hs) this
  | none =>
   rw [ho] at this
   exact En fuel _ _ this⟩
theorem wj {x:Oper} {s t:St} (hc:mY S.rcv x≤1) (h:Ex S ops s x s) (hn:∀ d ∈ bE ops x,t.fr d=s.fr d) (hd:∀ d,x.dst=some d→t.fr d=s.fr d) (hb:mY S.rcv x=0∨t.bx=s.bx∧t.nx=s.nx):Ex S ops t x t:=by
 obtain ⟨v,b,n,e,k,p,z⟩:=eB h;obtain ⟨rfl,rfl⟩:=k hc;have hv:∀ d,x.dst=some d→v=t.fr d:=fun d q=>by grind [St.set]
 have same:St.set ⟨t.fr,t.bx,t.nx,t.kf⟩ x.dst v=t:=by
  rw [cP];have:(fun s=>if some s=x.dst then v else t.fr s)=t.fr:=by
   funext s;by_cases q:some s=x.dst
   ·grind
   ·grind
  rw [this]
 rcases hb with h0|⟨h1,h2⟩
 ·have:=z h0 t (fun d hd=>(hn d hd).symm);rw [show t.set x.dst v=St.set ⟨t.fr,t.bx,t.nx,t.kf⟩ x.dst v from rfl,same] at this;exact this
 grind
theorem EX {x:Oper} (hc:mY S.rcv x≤1) (hd:(match x.dst with|some d => !(bE ops x).contains d|none=>true)=true) (h:Ex S ops st x s'):Ex S ops s' x s':=by
 obtain ⟨v,b,n,e,k,p,z⟩:=eB h;obtain ⟨rfl,rfl⟩:=k hc;have hn:∀ d ∈ bE ops x,st.fr d=s'.fr d:=fun d q=>by rw [e];exact (fR (nx':=0) (bx':=st.bx) hd d q).symm
 grind [St.set,dG,jb,cP,St.mk.injEq]
theorem Nb {x y:Oper} (h:dj ops x y=true) {v:SV} {bx:Nat→Option Bx} {nx:Nat}:∀ d ∈ bE ops y,(St.set ⟨st.fr,bx,nx,st.kf⟩ x.dst v).fr d=st.fr d:=by
 simp only [dj,Bool.and_eq_true] at h;exact fR (nx':=0) (bx':=st.bx) h.1.1
theorem zM {x y:Oper} (h:FK ops x y=true) {v:SV} {bx:Nat→Option Bx} {nx:Nat}:∀ d,x.dst=some d→(St.set ⟨st.fr,bx,nx,st.kf⟩ y.dst v).fr d=st.fr d:=fun d hd=>by grind [FK,cP]
theorem pG {x y:Oper} (h:FK ops x y=true) {v:SV} {bx:Nat→Option Bx} {nx:Nat}:∀ d ∈ bE ops x,(St.set ⟨st.fr,bx,nx,st.kf⟩ y.dst v).fr d=st.fr d:=by
 simp only [FK,Bool.and_eq_true] at h;exact fR (nx':=0) (bx':=st.bx) h.1
theorem Qu {x h:Oper} (hx:mY S.rcv x≤1) (hh:mY S.rcv h≤1) (hd:FK ops h x=true) (h1:Ex S ops st x s1) (h2:Ex S ops s1 h s1):Ex S ops st h st:=by grind [eB,wj,pG,zM,dG,jb]
theorem VH {x h:Oper} (hx:mY S.rcv x≤1) (hh:mY S.rcv h≤1) (hd:FK ops h x=true) (h1:Ex S ops st x s1) (h2:Ex S ops st h st):Ex S ops s1 h s1:=by grind [eB,wj,pG,zM,dG,jb]
theorem Qo {x y:Oper} (hx:mY S.rcv x=0) (hd:FK ops x y=true) (h1:Ex S ops st x st) (h2:Ex S ops st y s1):Ex S ops s1 x s1:=by grind [eB,wj,pG,zM]
theorem EB {x y:Oper} (hx:mY S.rcv x≤1) (hs:(match x.dst with|some d => !(bE ops x).contains d|none=>true)=true) (hd:dj ops x y=true) (h1:Ex S ops st x s1) (h2:Ex S ops s1 y s2) (h3:Ex S ops s2 x s2):∃ s3,Ex S ops st y s3∧Ex S ops s3 x s2:=by
 obtain ⟨v1,b1,n1,rfl,k1,p1,z1⟩:=eB h1;obtain ⟨rfl,rfl⟩:=k1 hx;obtain ⟨v2,b2,n2,e2,k2,p2,z2⟩:=eB h2;obtain ⟨v3,b3,n3,e3,k3,p3,z3⟩:=eB h3;obtain ⟨rfl,rfl⟩:=k3 hx;have q2:=p2 st (fun d hd'=>Nb hd d hd') dG.symm jb.symm;refine ⟨_,q2, ?_⟩;have hs2:∀ s,s2.fr s=if some s=y.dst then v2 else (if some s=x.dst then v1 else st.fr s):=fun s=>by grind [cP]
 have hbn:s2.bx=b2∧s2.nx=n2∧s2.kf=st.kf:=by
  rw [e2];refine ⟨dG,jb, ?_⟩;rw [cP,cP]
 have hw:∀ s,some s=x.dst→¬ some s=y.dst:=fun s hs hs'=>by grind [dj]
 have hn:∀ d ∈ bE ops x,s2.fr d=(St.set ⟨st.fr,b2,n2,st.kf⟩ y.dst v2).fr d:=fun d hd'=>by
  rw [hs2,pG (Yy hd) d hd'];grind [dj]
 have:=p3 (St.set ⟨st.fr,b2,n2,st.kf⟩ y.dst v2) hn (by grind [dG]) (by grind [jb]);have e:St.set ⟨(St.set ⟨st.fr,b2,n2,st.kf⟩ y.dst v2).fr,s2.bx,s2.nx,(St.set ⟨st.fr,b2,n2,st.kf⟩ y.dst v2).kf⟩ x.dst v3=s2:=by
  rw [show s2=⟨s2.fr,s2.bx,s2.nx,s2.kf⟩ from rfl,cP];rw [St.mk.injEq];refine ⟨?_,rfl,rfl, ?_⟩
  ·funext s;grind [cP]
  ·grind [cP]
 grind
end
def kq (ops:Array Oper) (m:Nat→Nat) (listed:Array Bool) (p:Nat):Bool :=
 match ops[p]? with
 | none=>false
 | some x=>(match x.dst with|some d => !(bE ops x).contains d|none=>true) && (List.range ops.size).all fun i=>listed.getD i true || Nat.beq i p || (match ops[i]? with
  | some o=>FK ops x o && (((m i).testBit p && Nat.blt p i) || dj ops x o)
  | none=>false)
section
variable {S:Env} {ops:Array Oper} {st s1 s2 s':St} {H:List Oper} {K:St→Prop}
theorem tq {m:Nat→Nat} {listed:Array Bool} {i p:Nat} (hi:i<listed.size) (h:kq ops m listed p=true):kq ops m (listed.setIfInBounds i true) p=true:=by
 unfold kq at h ⊢;split at h
 ·cases h
 ·simp only [Bool.and_eq_true] at h ⊢;refine ⟨h.1,List.all_eq_true.2 fun k hk => ?_⟩;have:=List.all_eq_true.1 h.2 k hk;simp only [Bool.or_eq_true] at this ⊢;rw [nM hi];grind
theorem IQ {m : Nat → Nat} {x : Oper} {p : Nat} (hm : cn ops m = true) (hed : ∀ i o, ops[i]? = some o → ∀ e ∈ o.after, Region.binds .any e = true → e.on < i) (hx : ops[p]? = some x) (hc : mY S.rcv x ≤ 1) (hH : ∀ h ∈ H, FK ops h x = true ∧ mY S.rcv h ≤ 1) : ∀ (fuel : Nat) (listed : Array Bool) (st : St),
  listed.size=ops.size→fP ops listed→kq ops m listed p=true→p ∈ Region.ready .any ops listed→(∃ s,Ex S ops st x s∧oD S ops (x :: H) fuel (listed.setIfInBounds p true) s K)→oD S ops H (fuel+1) listed st K:=by
 have back:∀ {st s:St} {fuel:Nat} {listed:Array Bool},Ex S ops st x s→oD S ops (x :: H) fuel listed s K→CE S ops H st:=fun h1 h2=>by
  have:=FP h2;grind [Sb,Qu,MD]
 have self:∀ {s:St} {fuel:Nat} {listed:Array Bool},oD S ops (x :: H) fuel listed s K→Ex S ops s x s:=fun h2=>MD (FP h2) x (List.mem_cons_self ..);have drop:∀ (fuel:Nat) (listed:Array Bool) (s:St),oD S ops (x :: H) fuel listed s K→oD S ops H fuel listed s K:=by
  intro fuel
  induction fuel with
  | zero=>exact fun listed s h=>⟨h.1.2,h.2⟩
  | succ f ih => exact fun listed s h => ⟨h.1.2, h.2.1, fun i hi => by
    have:=h.2.2 i hi
    grind [eX,oH]⟩
 intro fuel
 induction fuel with
 | zero =>
  intro listed st hs hcl hp hr ⟨s,h1,h2⟩;have hplt:=fu hs hr;refine ⟨back h1 h2,fun hno=>(by grind),fun i hi => ?_⟩;by_cases e:i=p
  ·grind [eX,iC]
  ·have:=gR hs (by omega) hi e;rw [h2.2.1] at this;grind
 | succ f ih =>
  intro listed st hs hcl hp hr ⟨s,h1,h2⟩;have hplt:=fu hs hr;obtain ⟨_,_,hpl,_⟩:=(cu hs).1 hr;refine ⟨back h1 h2,fun hno=>(by grind),fun i hi => ?_⟩;by_cases e:i=p
  ·grind [eX,iC]
  obtain ⟨o,ho,hl,hdep⟩:=(cu hs).1 hi;have hlt:=fu hs hi;rw [ho];have h3:=h2.2.2 i (gR hs (by omega) hi e);rw [ho] at h3;obtain ⟨s2,h4,h5⟩:=lf h3;have hq:=hp;unfold kq at hq;rw [hx] at hq;simp only [Bool.and_eq_true] at hq;have hself:=hq.1;have hq:=List.all_eq_true.1 hq.2 i (List.mem_range.2 hlt);rw [ho] at hq;simp only [Bool.or_eq_true,Nat.beq_eq,Bool.and_eq_true] at hq;have hdj:dj ops x o=true:=by
   rcases hq with (q|q)|q
   ·grind
   ·omega
   ·rcases q.2 with q|q
    ·exact absurd hi (sY hm hs hed hcl (by simp_all) q.1 hpl)
    ·exact q
  obtain ⟨s3,h6,h7⟩:=EB hc hself hdj h1 h4 (self h5);grind [iC,iA,tq,gR,vM]
theorem Nk {m : Nat → Nat} {x : Oper} {p : Nat} (hx : ops[p]? = some x) (hc : mY S.rcv x = 0) : ∀ (fuel : Nat) (listed : Array Bool) (st : St),
  listed.size=ops.size→kq ops m listed p=true→listed.getD p true=true→Ex S ops st x st→oD S ops H fuel listed st K→oD S ops (x :: H) fuel listed st K:=by
 intro fuel
 induction fuel with
 | zero=>exact fun listed st hs hp hl h1 h2=>⟨⟨by rw [ve];exact h1,h2.1⟩,h2.2⟩
 | succ f ih =>
  intro listed st hs hp hl h1 h2;refine ⟨⟨by rw [ve];exact h1,h2.1⟩,h2.2.1,fun i hi => ?_⟩;have h3:=h2.2.2 i hi;obtain ⟨o,ho,hil,hdep⟩:=(cu hs).1 hi;have hlt:=fu hs hi;rw [ho] at h3 ⊢;obtain ⟨s2,h4,h5⟩:=lf h3;have hq:=hp;unfold kq at hq;rw [hx] at hq;simp only [Bool.and_eq_true] at hq;have hq:=List.all_eq_true.1 hq.2 i (List.mem_range.2 hlt);rw [ho] at hq;simp only [Bool.or_eq_true,Nat.beq_eq,Bool.and_eq_true] at hq;have hw:FK ops x o=true:=by
   rcases hq with (q|q)|q
   ·grind
   ·grind
   ·exact q.1
  refine iC h4 (ih _ s2 (by grind) (tq (by omega) hp) ?_ (Qo hc hw h1 h4) h5);rw [nM (by omega)];grind
end
inductive Th where
 | leaf
 | nil
 | br (i:Nat) (t r:Th)
 | ho (i:Nat) (b:Bool) (t:Th)
def Df (S:Env) (ops:Array Oper) (L:List Oper):Th→List Nat→St→(St→Prop)→Prop
 | .leaf,_,st,K=>K st
 | .nil,_,_,_=>True
 | .br i t r,H,st,K=>aY S ops [L.getD i default] st (fun s=>CE S ops (H.map fun k=>L.getD k default) s∧Df S ops L t H s K)∧Df S ops L r H st K
 | .ho i b t,H,st,K=>aY S ops [L.getD i default] st (fun s=>Df S ops L t (if b=true then H else i :: H) s K)
def rH:Th→List Nat
 | .br i _ r=>i :: rH r
 | _=>[]
def jr:Th→Nat
 | .br _ t r=>max (jr t+1) (jr r)
 | .ho _ _ t=>jr t+1
 | _=>0
def Nz (rcv:Nat→Bool) (ops:Array Oper) (m:Nat→Nat) (listed:Array Bool) (H:List Nat):Th→Bool
 | .leaf=>Region.ready .any ops listed == []
 | .nil=>false
 | .br i t r=>Region.ready .any ops listed == rH (.br i t r)
 | .ho i _ _=>(Region.ready .any ops listed).contains i && kq ops m listed i && Nat.ble (mY rcv (ops.getD i default)) 1 && H.all fun k=>FK ops (ops.getD k default) (ops.getD i default) && Nat.ble (mY rcv (ops.getD k default)) 1
def uL (rcv:Nat→Bool) (ops:Array Oper) (m:Nat→Nat):Array Bool→List Nat→Th→Bool
 | _,_, .leaf=>true
 | _,_, .nil=>true
 | listed,H, .br i t r=>Nat.blt i ops.size && Nz rcv ops m (listed.setIfInBounds i true) H t && uL rcv ops m (listed.setIfInBounds i true) H t && uL rcv ops m listed H r
 | listed, H, .ho i b t => Nat.blt i ops.size && (if b = true then Nat.beq (mY rcv (ops.getD i default)) 0 && Nz rcv ops m (listed.setIfInBounds i true) H t && uL rcv ops m (listed.setIfInBounds i true) H t
   else Nz rcv ops m (listed.setIfInBounds i true) (i :: H) t && uL rcv ops m (listed.setIfInBounds i true) (i :: H) t)
section
variable {S:Env} {l:List Oper} {m:Nat→Nat} {K:St→Prop}
theorem OP (hm : cn l.toArray m = true) (hf : lL l.toArray = true) (t : Th) :
  (∀ (H:List Nat) (listed:Array Bool) (fuel:Nat) (st:St),listed.size=l.toArray.size→fP l.toArray listed→Nz S.rcv l.toArray m listed H t=true→uL S.rcv l.toArray m listed H t=true→CE S l.toArray (H.map fun k=>l.getD k default) st →
   Df S l.toArray l t H st K→jr t≤fuel→oD S l.toArray (H.map fun k=>l.getD k default) fuel listed st K) ∧
  (∀ (H:List Nat) (listed:Array Bool) (fuel:Nat) (st:St),listed.size=l.toArray.size→fP l.toArray listed→(∀ i ∈ rH t,i ∈ Region.ready .any l.toArray listed)→uL S.rcv l.toArray m listed H t=true →
   Df S l.toArray l t H st K→jr t≤fuel+1→∀ i ∈ rH t,match l.toArray[i]? with
    | some o=>eX S l.toArray st o fun st'=>oD S l.toArray (H.map fun k=>l.getD k default) fuel (listed.setIfInBounds i true) st' K
    | none=>oD S l.toArray (H.map fun k=>l.getD k default) fuel (listed.setIfInBounds i true) st K):=by
 have hget:∀ i,i<l.toArray.size→l.toArray[i]?=some (l.getD i default):=fun i hlt=>by grind
 have hgd:∀ i,l.toArray.getD i default=l.getD i default:=fun i=>by simp_all
 induction t with
 | leaf =>
  refine ⟨fun H listed fuel st hs hcl hn ht hr h hd => ?_,fun _ _ _ _ _ _ _ _ _ _ i hi=>by cases hi⟩;have hno:Region.ready .any l.toArray listed=[]:=by simpa [Nz] using hn
  cases fuel with
  | zero=>exact ⟨hr,hno,h⟩
  | succ f=>exact ⟨hr,fun _=>h,fun i hi=>by grind⟩
 | nil=>exact ⟨fun _ _ _ _ _ _ hn=>(by cases hn),fun _ _ _ _ _ _ _ _ _ _ i hi=>(by cases hi)⟩
 | br k t r iht ihr =>
  have alts : ∀ (H : List Nat) (listed : Array Bool) (fuel : Nat) (st : St), listed.size = l.toArray.size → fP l.toArray listed → (∀ i ∈ rH (.br k t r), i ∈ Region.ready .any l.toArray listed) → uL S.rcv l.toArray m listed H (.br k t r) = true →
    Df S l.toArray l (.br k t r) H st K→jr (.br k t r)≤fuel+1→∀ i ∈ rH (.br k t r),match l.toArray[i]? with
     | some o=>eX S l.toArray st o fun st'=>oD S l.toArray (H.map fun k=>l.getD k default) fuel (listed.setIfInBounds i true) st' K
     | none=>oD S l.toArray (H.map fun k=>l.getD k default) fuel (listed.setIfInBounds i true) st K:=by
   intro H listed fuel st hs hcl hsub hok h hd i hi;have hkr:k ∈ Region.ready .any l.toArray listed:=hsub k (by grind [rH]);simp only [uL,Bool.and_eq_true] at hok;obtain ⟨⟨⟨hk,hn⟩,ht⟩,hr⟩:=hok;simp only [jr] at hd;rcases List.mem_cons.1 hi with rfl|hi
   ·have hlt:i<l.toArray.size:=by simp [Nat.blt] at hk ⊢;omega
    rw [hget i hlt];have h1:=h.1;grind [eX,lf,ve,iC,iA,qC]
   ·exact ihr.2 H listed fuel st hs hcl (fun j hj=>hsub j (by grind [rH])) hr h.2 (by omega) i hi
  refine ⟨fun H listed fuel st hs hcl hn ht hr h hd => ?_,alts⟩;have hrd:Region.ready .any l.toArray listed=rH (.br k t r):=by simpa [Nz] using hn
  cases fuel with
  | zero=>simp only [jr] at hd;omega
  | succ f=>exact ⟨hr,fun h0=>by (rw [hrd] at h0;cases h0),fun j hj=>alts H listed f st hs hcl (fun i hi=>by grind) ht h hd j (by grind)⟩
 | ho p b t iht =>
  refine ⟨fun H listed fuel st hs hcl hn ht hr h hd => ?_,fun _ _ _ _ _ _ _ _ _ _ i hi=>by cases hi⟩;cases fuel with
  | zero=>simp only [jr] at hd;omega
  | succ f =>
   simp only [jr] at hd;simp only [Nz,Bool.and_eq_true,hgd] at hn;obtain ⟨⟨⟨h1,h2⟩,h3⟩,h4⟩:=hn;have hpr:p ∈ Region.ready .any l.toArray listed:=List.contains_iff_mem.1 h1;have hlt:=fu hs hpr;have h3:mY S.rcv (l.getD p default)≤1:=Nat.le_of_ble_eq_true h3;have hdjs:∀ h ∈ H.map fun k=>l.getD k default,FK l.toArray h (l.getD p default)=true∧mY S.rcv h≤1:=fun h hh=>by
    obtain ⟨k,hk,rfl⟩:=List.mem_map.1 hh;simp_all
   have h5:eX S l.toArray st (l.getD p default) fun s=>Df S l.toArray l t (if b=true then H else p :: H) s K:=h;obtain ⟨s,h6,h7⟩:=lf h5;have hself:(match (l.getD p default).dst with|some d => !(bE l.toArray (l.getD p default)).contains d|none=>true)=true:=by
    have hq:=h2;unfold kq at hq;rw [hget p hlt] at hq;simp only [Bool.and_eq_true] at hq;exact hq.1
   have hag:=EX h3 hself h6;have hrs:CE S l.toArray (H.map fun k=>l.getD k default) s:=Sb fun h hh=>VH h3 (hdjs h hh).2 (hdjs h hh).1 h6 (MD hr h hh);have hs2:(listed.setIfInBounds p true).size=l.toArray.size:=by simpa using hs
   have hcl2:=iA hs (qC hf) hcl hpr;refine IQ hm (qC hf) (hget p hlt) h3 hdjs f listed st hs hcl h2 hpr ⟨s,h6, ?_⟩;simp only [uL,Bool.and_eq_true,hgd] at ht;obtain ⟨_,ht⟩:=ht;cases b with
   | true =>
    simp only [if_true,Bool.and_eq_true] at ht h7;refine Nk (hget p hlt) (Nat.eq_of_beq_eq_true ht.1.1) f _ s hs2 (tq (by omega) h2) ?_ hag (iht.1 H _ f s hs2 hcl2 ht.1.2 ht.2 hrs h7 (by omega));simp_all
   | false =>
    simp only [Bool.false_eq_true,if_false,Bool.and_eq_true] at ht h7;exact iht.1 (p :: H) _ f s hs2 hcl2 ht.1 ht.2 ⟨by rw [ve];exact hag,hrs⟩ h7 (by omega)
theorem vz {t : Th} {st : St} (hok : (lL l.toArray && cn l.toArray m && Nz S.rcv l.toArray m (Array.replicate l.toArray.size false) [] t && uL S.rcv l.toArray m (Array.replicate l.toArray.size false) [] t && Nat.ble (jr t) l.toArray.size) = true) (h : Df S l.toArray l t [] st K) :
  gP S l.toArray l.toArray.size (Array.replicate l.toArray.size false) st K:=by
 simp only [Bool.and_eq_true] at hok;obtain ⟨⟨⟨⟨hf,hm⟩,h1⟩,h2⟩,h3⟩:=hok;have h3:=Nat.le_of_ble_eq_true h3;have hs:(Array.replicate l.toArray.size false).size=l.toArray.size:=by simp
 have hcl:fP l.toArray (Array.replicate l.toArray.size false):=fun i o ho hi=>by
  exfalso;have hlt:i<l.toArray.size:=by
   rcases Nat.lt_or_ge i l.toArray.size with h|h
   ·exact h
   ·grind
  unfold jR at hi;simp_all
 exact En _ _ _ ((OP hm hf t).1 [] _ _ st hs hcl h1 h2 trivial h h3)
theorem xm {id : Nat} {y : Code} {Q : AExit → St → Prop} {st : St} (t : Th)
  (hok:(lL l.toArray && cn l.toArray (fun i=>(Region.before l.toArray).getD i 0) && Nz S.rcv l.toArray (fun i=>(Region.before l.toArray).getD i 0) (Array.replicate l.toArray.size false) [] t && uL S.rcv l.toArray (fun i=>(Region.before l.toArray).getD i 0) (Array.replicate l.toArray.size false) [] t && Nat.ble (jr t) l.toArray.size)=true)
  (h:∀ K:St→Prop,(∀ s,cw S y Q s→K s)→Df S l.toArray l t [] st K):cw S (.seq (.region id l.toArray true) y) Q st:=by
 grind [ec,iL,Wk,cw,gP,vz]
theorem sO {id : Nat} {y : Code} {Q : AExit → St → Prop} {st : St} (s0 : St) (t : Th)
  (hok:(lL l.toArray && cn l.toArray (fun i=>(Region.before l.toArray).getD i 0) && Nz S.rcv l.toArray (fun i=>(Region.before l.toArray).getD i 0) (Array.replicate l.toArray.size false) [] t && uL S.rcv l.toArray (fun i=>(Region.before l.toArray).getD i 0) (Array.replicate l.toArray.size false) [] t && Nat.ble (jr t) l.toArray.size)=true)
  (h:∀ K:St→Prop,(∀ s,Le s s0→K s)→Df S l.toArray l t [] st K) (hy:cw S y Q s0):cw S (.seq (.region id l.toArray true) y) Q st:=by
 refine JF (fun s=>s=s0) ?_ (fun s hs=>hs ▸ hy);simp only [cw,if_pos];grind [vz,Region.before,iL,Wk]
theorem zE {ops:Array Oper} {L:List Oper} {i:Nat} {t r:Th} {H:List Nat} {st:St} (h:∀ K':St→Prop,(∀ s,CE S ops (H.map fun k=>L.getD k default) s→Df S ops L t H s K→K' s)→aY S ops [L.getD i default] st K') (hr:Df S ops L r H st K):Df S ops L (.br i t r) H st K :=
 ⟨h _ (fun _ h1 h2=>⟨h1,h2⟩),hr⟩
theorem sT {ops:Array Oper} {L:List Oper} {i:Nat} {t:Th} {H:List Nat} {st:St} (h:∀ K':St→Prop,(∀ s,Df S ops L t H s K→K' s)→aY S ops [L.getD i default] st K'):Df S ops L (.ho i true t) H st K:=h _ (fun _ h=>h)
theorem pk {ops:Array Oper} {L:List Oper} {H:List Nat} {st:St} (h:K st):Df S ops L .leaf H st K:=h
theorem sQ {ops:Array Oper} {L:List Oper} {H:List Nat} {st:St}:Df S ops L .nil H st K:=trivial
theorem jZ {ops:Array Oper} {st:St}:CE S ops [] st:=trivial
theorem fS {ops:Array Oper} {st:St} {h:Oper} {r:List Oper}:CE S ops (h :: r) st=(aY S ops [h] st (fun s2=>s2=st)∧CE S ops r st):=rfl
theorem fU {st:St} {d:Nat} {v:SV} (h:st.fr d=v):st.set (some d) v=st:=by
 rw [cP];have:(fun s=>if some s=some d then v else st.fr s)=st.fr:=by
  funext s;split
  ·grind
  ·rfl
 rw [this]
end
end
section
open Go
section
variable {P:Program} {n l:Nat} {Q:Exit→Act→World→Prop}
theorem Pl {row:String} {args:Array Value} {w:World} {R:Value→World→Prop} (h:Rows P row args w R):RowsIn (Fence.wide.inRound l) n P row args w R :=
 fun c cs _=>let ⟨v,w',r,s⟩:=h c cs; ⟨v,w',r,stepsIn_wide.2 s⟩
theorem Ru {o:Oper} {a:Act} {w:World} {next:Act→World→Prop} (hd:∀ c,o.op ≠ .defer c) (h:o.wp P a w next Q):o.wpIn (Fence.wide.inRound l) n P a w next Q:=by
 refine ⟨fun _ _=>trivial, ?_⟩;rw [Fence.inRound_round,Oper.semAt_some l _ _ hd];unfold Oper.wp at h;generalize (execOp a.eval o).run P w=r at *
 cases r with
 | ok x w' =>
  cases x with
  | value v=>exact h
  | skip=>exact h
  | defer d=>exact h
  | enter f args=>exact ⟨fun q=>(by cases q),CallsIn.inRound l (callsIn_wide.2 h)⟩
  | row r args=>exact ⟨fun q=>(by cases q),Pl h⟩
  | _=>exact h.elim
 | halt x w' =>
  cases x with
  | panic v=>exact h
  | _=>exact h.elim
def Dg (ops:List Oper):Bool:=ops.all fun o=>match o.op with
 | .defer _=>false
 | _=>true
theorem Ej {ops:Array Oper} (h:Dg ops.toList=true) {i:Nat} {o:Oper} (ho:ops[i]?=some o) (c:Call):o.op ≠ .defer c:=fun e=>by
 have hm:o ∈ ops.toList:=by
  have:=Array.mem_of_getElem? ho;simpa using this
 have:=List.all_eq_true.1 h o hm;rw [e] at this;cases this
theorem FZ {ops:Array Oper} (hd:Dg ops.toList=true) (hL:¬ LetsOut Q) {i:Nat} {K K':Act→World→Prop} {a:Act} {w:World} (hK:∀ a w,K a w→K' a w) (h:wpOp P ops Q i K a w):wpOpIn (Fence.wide.inRound l) n P ops Q i K' a w:=by
 unfold wpOp at h;unfold wpOpIn;cases ho:ops[i]? with
 | none=>rw [ho] at h;exact hK _ _ h
 | some o =>
  rw [ho] at h;dsimp only at h ⊢;split
  ·rename_i hw;rw [if_pos hw] at h;rcases h with h|⟨_,h⟩
   ·exact Ru (Ej hd ho) (Oper.wp_mono hK h)
   ·exact absurd h hL
  ·rename_i hw;rw [if_neg hw] at h;exact ⟨fun _ _=>trivial,hK _ _ h⟩
theorem Cv {ops:Array Oper} (hd:Dg ops.toList=true) (hL:¬ LetsOut Q):∀ (L:List Nat) (a:Act) (w:World),wpOps P ops Q L a w→wpOpsIn (Fence.wide.inRound l) n P ops Q L a w
 | [],_,_,h=>h
 | i :: r,a,w,h=>by
  rw [wpOps_cons] at h;rw [wpOpsIn_cons];exact FZ hd hL (Cv hd hL r) h
theorem DR {ops:Array Oper} (hd:Dg ops.toList=true) (hL:¬ LetsOut Q):∀ (fuel:Nat) (listed:Array Bool) (a:Act) (w:World),wpAny P .any ops Q fuel listed a w→wpAnyIn (Fence.wide.inRound l) n P .any ops Q fuel listed a w
 | 0,_,_,_,h=>h
 | fuel+1,listed,a,w,h=>⟨h.1,fun i hi=>FZ hd hL (DR hd hL fuel _) (h.2 i hi)⟩
end
def kP:Code→Bool
 | .region _ ops _=>Dg ops.toList
 | .seq x y=>kP x && kP y
 | .cond _ x y=>kP x && kP y
 | .block _ c=>kP c
 | .loop c=>kP c
 | _=>true
section
variable {S:Env} {E:Ent}
theorem Gt {Q:AExit→St→Prop}:¬ LetsOut (Fj S E Q):=fun ⟨_,_,h⟩=>h
theorem iP (hm:S.P.follows .mixedOrders=true) (l n:Nat):∀ (c:Code) {Q:AExit→St→Prop} {st:St} {ρ:gU} {a:Act} {w:World},dk E.N c=true→kP c=true→cw S c Q st→Gam S E st ρ a w→c.wpIn (Fence.wide.inRound l) n S.P (Fj S E Q) a w
 | .skip,Q,st,ρ,a,w,_,_,h,g=>wpIn_skip ⟨st,ρ,g,h⟩
 | .label _,Q,st,ρ,a,w,_,_,h,g=>wpIn_label ⟨st,ρ,g,h⟩
 | .exit id,Q,st,ρ,a,w,_,_,h,g=>wpIn_exit ⟨st,ρ,g,h⟩
 | .ret,Q,st,ρ,a,w,_,_,h,g=>wpIn_ret ⟨st,ρ,g,h⟩
 | .region id ops draw,Q,st,ρ,a,w,hN,hd,h,g=>by
  simp only [cw] at h;simp only [dk] at hN;simp only [kP] at hd;cases draw with
  | true =>
   rw [if_pos rfl] at h;exact wpIn_region_any hm (DR hd Gt _ _ _ _ (nj hN (fun _ _ h=>h) _ _ h g.drew))
  | false =>
   rw [if_neg (by simp)] at h;refine wpIn_region (Cv hd Gt _ _ _ ?_);have:=qF (Q:=Fj S E Q) hN (fun _ _ h=>h) ops.toList 0 (fun j=>by simp) h g;rw [List.range_eq_range'];simpa using this
 | .seq x y,Q,st,ρ,a,w,hN,hd,h,g=>by
  simp only [dk,Bool.and_eq_true] at hN;simp only [kP,Bool.and_eq_true] at hd;refine wpIn_seq (wpIn_mono (iP hm l n x hN.1 hd.1 h g) fun e a w hq => ?_);cases e with
  | normal =>
   obtain ⟨st',ρ',g',hk⟩:=hq;rcases hk with hk|hk
   ·obtain ⟨st2,ρ2,g2,hk2⟩:=Wk.nxt hk g';exact iP hm l n y hN.2 hd.2 hk2 g2
   ·exact iP hm l n y hN.2 hd.2 hk g'
  | _=>exact hq
 | .cond c x y,Q,st,ρ,a,w,hN,hd,h,g=>by
  simp only [dk,Bool.and_eq_true] at hN;simp only [kP,Bool.and_eq_true] at hd;simp only [cw] at h;split at h
  ·rename_i t ht;have hdd:=(g.ev c).1;rw [ht] at hdd;have hc:a.eval c = .bool t:=hdd;cases t with
   | true=>exact wpIn_cond_true hc (iP hm l n x hN.1 hd.1 (h.1 rfl) g)
   | false=>exact wpIn_cond_false hc (iP hm l n y hN.2 hd.2 (h.2 rfl) g)
  ·exact h.elim
 | .block id c,Q,st,ρ,a,w,hN,hd,h,g=>by
  refine wpIn_block (wpIn_mono (iP hm l n c hN hd h g) fun e a w hq => ?_);cases e with
  | exit id' =>
   obtain ⟨st',ρ',g',hk⟩:=hq;simp only [lY] at hk;simp only [Exit.inBlock];split
   ·rename_i he;rw [if_pos he] at hk;exact ⟨st',ρ',g',hk⟩
   ·rename_i he;rw [if_neg he] at hk;exact ⟨st',ρ',g',hk⟩
  | _=>exact hq
 | .loop c,Q,st,ρ,a,w,hN,hd,h,g=>by
  obtain ⟨I,n0,h0,hr⟩:=h;have key:∀ k m st ρ a w,m<k→I m st→Gam S E st ρ a w→Code.roundsIn (Fence.wide.inRound l) n S.P c (Fj S E Q) k a w:=by
   intro k
   induction k with
   | zero=>intro m st ρ a w hlt;omega
   | succ k ih =>
    intro m st ρ a w hlt hI g;rw [roundsIn_succ];refine wpIn_mono (iP hm l n c hN hd (hr m st hI) g) fun e a w hq => ?_;cases e with
    | normal =>
     obtain ⟨st',ρ',g',hk⟩:=hq;obtain ⟨st2,ρ2,g2,n',hlt',hk1⟩:=Wk.nxt hk g';exact ih n' st2 ρ2 a w (by omega) hk1 g2
    | _=>exact hq
  obtain ⟨st2,ρ2,g2,h2⟩:=Wk.nxt h0 g;exact wpIn_loop_rounds (n0+1) (key _ n0 st2 ρ2 a w (Nat.lt_succ_self _) h2 g2)
 | .rangeFunc ..,Q,st,ρ,a,w,_,_,h,g=>h.elim
 | .scope _,Q,st,ρ,a,w,_,_,h,g=>h.elim
 | .goto _,Q,st,ρ,a,w,_,_,h,g=>h.elim
 | .refuse _,Q,st,ρ,a,w,_,_,h,g=>h.elim
end
end
section
open Go Go.RowKit
structure RndOk (S:Env) (N:Nat) (w:World) (f:Nat→SV) (a:Act):Prop where
 dfr:a.defers=[]
 sz:a.tmps.size=N
 lt:∀ s,(f s).lt 0
 den:∀ s,bz ck (fun b=>b<w.heap.size) w (f s) (a.tmps.getD s undef)
section
variable {S:Env}
theorem Rb {N : Nat} {w W : World} {f : Nat → SV} {a : Act} (h : RndOk S N w f a) (hgl : nT S (fun b => b < w.heap.size) w) (hB : Below w.heap.size w W) :
  Gam S { w0:=W,ok0:=fun b=>b<w.heap.size,rx:=none,N:=N } ⟨f,fun _=>none,0,fun _ => .any⟩ ck a W:=by
 have hok:∀ b,b<w.heap.size→bR { w0:=W,ok0:=fun b=>b<w.heap.size,rx:=none,N:=N } (fun _=>none) ck W b:=fun b hb=>⟨Nat.lt_of_lt_of_le hb hB.size,fun _=>hb,fun _ h=>absurd rfl h⟩
 have hk:gy (fun b=>b<w.heap.size) (bR { w0:=W,ok0:=fun b=>b<w.heap.size,rx:=none,N:=N } (fun _=>none) ck W) w W:=fun b hb=>⟨hok b hb,fun _=>World.cell?_of_block (hB.block b hb)⟩
 refine ⟨h.dfr,h.sz,⟨rfl,rfl,rfl,Nat.le_refl _,fun _ _ _=>rfl,fun _ _ _ q=>(by cases q)⟩,h.lt,fun _ _ q=>(by cases q),fun _ _ q=>(by cases q),fun _ _ _ q=>(by cases q),fun _ _ _ q=>absurd rfl q,
  fun _ _ _ q=>(by cases q),fun s=>bz.mono (nx:=0) hk (fun _ _=>rfl) (h.lt s) (h.den s),fun gg n f hg => ?_,fun s=>⟨trivial,trivial⟩⟩
 obtain ⟨h1,h2⟩:=hgl gg n f hg;refine ⟨hok gg h1,fun j hj => ?_⟩;obtain ⟨x,hx,h3,hd⟩:=h2 j hj;exact ⟨x,by rw [World.cell?_of_block (hB.block gg h1)];exact hx,h3,bo.mono hk hd⟩
def Sc:AExit→St→Prop
 | .normal,_=>True
 | _,_=>False
theorem AU {st:St}:Sc .normal st=True:=rfl
attribute [go_sem] AU
theorem CH {α : Type} (hm : S.P.follows .mixedOrders = true) {g : Operand} {ps : Array Tmp} {assign body : Code} {Q : Exit → Act → World → Prop} {a : Act} {w : World} {N gf NN : Nat} {lb : Array Value} {encs : α → Array Value} (hg : a.eval g = .func (.func gf) #[] lb)
  (eg:∀ args w,(callFunc gf args).run S.P w = .ok (.enter gf args) w) (hseq:SeqStopsK Fence.wide 3 S.P gf lb encs (Below w.heap.size) (fun _=>True) (fun _=>True) NN w) (hps:∀ x,(encs x).size=ps.size)
  (a1:α→Act) (f:α→Nat→SV)
  (hassign:∀ (l:Nat) (x:α) (W:World) (K:Act→World→Prop),K (a1 x) W→assign.wpIn (Fence.wide.inRound l) 2 S.P (Exit.then K (fun _ _ _=>False)) { tmps:=(ps.zip (encs x)).foldl (fun t (p,v)=>t.setIfInBounds p v) a.tmps,defers:=[] } W)
  (hr:∀ x,RndOk S N w (f x) (a1 x)) (hgl:nT S (fun b=>b<w.heap.size) w) (hN:dk N body=true) (hnd:kP body=true)
  (hcw:∀ x,cw S body Sc ⟨f x,fun _=>none,0,fun _ => .any⟩)
  (hdone:∀ (D:Nat) (W:World),w.heap.size≤D→Below w.heap.size w W→W.heap[D]?=some (.deferred (some []))→Q .normal { a with defers := { target := .collected D,args := #[] } :: a.defers } W) :
  (Code.rangeFunc g ps assign body).wp S.P Q a w:=by
 refine (wpIn_wide (n:=4)).1 ?_;refine wpIn_rangeFunc_ownG (F:=Fence.wide) (n:=4) (w0:=w) rfl (by omega) hg trivial eg hseq belowK_t (belowK_b (Nat.le_refl _)) (Below.refl _ _) hps
  (fun _ W=>Below w.heap.size w W) (fun _ _ _=>False) (fun s A B row hs hg hr=>hs.grown hg (by have:=hs.size;omega) (fun k e=>(hr k e).1)) (fun _ _ _ _ _ hs _ _=>hs) (Below.refl _ _) a1 hassign ?_ ?_ ?_
 ·intro l pre x W hI _;refine wpIn_mono (iP (S:=S) hm l 2 body hN hnd (hcw x) (Rb (hr x) hgl hI)) fun e a3 W3 hq => ?_;cases e with
  | normal =>
   obtain ⟨st',ρ',g',_⟩:=hq;have hb:∀ k,k<W.heap.size→W3.heap[k]?=W.heap[k]?:=fun k hk=>g'.frm.block k hk fun _ _ q=>by cases q
   have hB:Below w.heap.size W W3:=⟨g'.frm.os,g'.frm.tape,g'.frm.output,g'.frm.size,fun k hk=>hb k (Nat.lt_of_lt_of_le hk hI.size)⟩
   exact ⟨⟨g'.frm.size,fun k o _ hk _=>by rw [hb k (ch hk)];exact hk⟩,hB,hI.trans hB⟩
  | exit id=>obtain ⟨_,_,_,h⟩:=hq;exact h.elim
  | ret=>obtain ⟨_,_,_,h⟩:=hq;exact h.elim
  | _=>exact hq.elim
 ·intro D xs W hD _ hI hK;exact hdone D W hD hI hK
 ·intro D c pre W _ _ h _;exact h.elim
def Sa (s0:St):AExit→St→Prop
 | .normal,st=>Wk (fun s=>s=s0) st
 | _,_=>False
theorem AC {s0 st:St}:Sa s0 .normal st=Wk (fun s=>s=s0) st:=rfl
attribute [go_sem] AC
theorem uQ {E : Ent} {st : St} {ρ : gU} {a : Act} {w : World} {x y : Code} {Q : Exit → Act → World → Prop} (hm : S.P.follows .mixedOrders = true) (s0 : St) (hx : cw S x (Sa s0) st) (hN : dk E.N x = true) (g : Gam S E st ρ a w)
  (hy:∀ ρ' a' w',Gam S E s0 ρ' a' w'→y.wp S.P Q a' w'):(Code.seq x y).wp S.P Q a w:=by
 refine wp_seq (wp_mono (ft hm x hN hx g) fun e a' w' hq => ?_);cases e with
 | normal =>
  obtain ⟨st',ρ',g',hk⟩:=hq;obtain ⟨s1,ρ1,g1,rfl⟩:=Wk.nxt hk g';exact hy ρ1 a' w' g1
 | exit id=>obtain ⟨_,_,_,h⟩:=hq;exact h.elim
 | ret=>obtain ⟨_,_,_,h⟩:=hq;exact h.elim
 | _=>exact hq.elim
theorem Jp {N : Nat} {args : List BV} {ok : Nat → Prop} {w : World} {vs : Array Value} (hok : ∀ b, ok b → b < w.heap.size) (hgl : nT S ok w) (hsz : vs.size = args.length) (hden : ∀ j, cq ck ok w (args.getD j .any) (vs.getD j undef)) (hlen : args.length ≤ N) (hl : ∀ x ∈ args, BV.lt 0 x) :
  Gam S { w0:=w,ok0:=ok,rx:=none,N:=N } (wP args) ck { tmps:=vs ++ Array.replicate (N - vs.size) undef,defers:=[] } w:=by
 let E:Ent := { w0:=w,ok0:=ok,rx:=none,N:=N }
 have hokA:∀ b,ok b→bR E (fun _=>none) ck w b:=fun b hb=>⟨hok b hb,fun _=>hb,fun _ h=>absurd rfl h⟩
 have hk:gy ok (bR E (fun _=>none) ck w) w w:=fun b hb=>⟨hokA b hb,fun _=>rfl⟩
 refine ⟨rfl,by simp;omega,⟨rfl,rfl,rfl,Nat.le_refl _,fun _ _ _=>rfl,fun _ _ _ h=>(by cases h)⟩,fun s => ?_,fun _ _ h=>(by cases h),fun _ _ h=>(by cases h),fun _ _ _ h=>(by cases h),fun _ _ _ h=>absurd rfl h,
  fun _ _ _ h=>(by cases h),fun s => ?_,fun gg n f hg => ?_,fun s=>⟨trivial,trivial⟩⟩
 ·simp only [wP,cz];split
  ·rename_i hs;refine hl _ ?_;rw [List.getD_eq_getElem?_getD,List.getElem?_eq_getElem (by omega)];exact List.getElem_mem _
  ·trivial
 ·simp only [wP,cz];split
  ·rename_i hs;have e:(vs ++ Array.replicate (N - vs.size) undef).getD s undef=vs.getD s undef:=by
    have:s<vs.size:=by omega
    simp [this];rw [Array.getElem?_append_left this];simp [this]
   rw [e];exact cq.mono (nx:=0) hk (fun _ _=>rfl) (hl _ (by rw [List.getD_eq_getElem?_getD,List.getElem?_eq_getElem (by omega)];exact List.getElem_mem _)) (hden (s - 0))
  ·trivial
 ·obtain ⟨h1,h2⟩:=hgl gg n f hg;refine ⟨hokA gg h1,fun j hj => ?_⟩;obtain ⟨x,hx,h3,hd⟩:=h2 j hj;exact ⟨x,hx,h3,bo.mono hk hd⟩
theorem KM {E:Ent} {st:St} {ρ:gU} {a:Act} {w:World} (g:Gam S E st ρ a w) {s:Nat} {x y:BV} (h:st.fr s = .b x) (hy:ep st.bx x=y) (hl:BV.lt 0 y):bz ck (fun b=>b<w.heap.size) w (.b y) (a.tmps.getD s undef):=by
 have hd:=g.slt s;rw [h] at hd;have:=nv g hd;rw [hy] at this;exact fJ hl this
theorem VZ {E:Ent} {st:St} {ρ:gU} {a:Act} {w:World} (g:Gam S E st ρ a w):nT S (fun b=>b<w.heap.size) w:=fun k n f hg=>by
 obtain ⟨h1,h2⟩:=g.glb k n f hg;refine ⟨h1.1,fun j hj => ?_⟩;obtain ⟨x,hx,hx1,hdx⟩:=h2 j hj;exact ⟨x,hx,hx1,bo.mono (fun b hb=>⟨hb.1,fun _=>rfl⟩) hdx⟩
end
end
end Go.SL
namespace Go.Proofs.YtcbifofjjpfbcaaGreatDoor
open Go Go.RowKit Go.Shelf
attribute [local go_sem] Oper.semAt_some
def tI (W:Nat):Value→Nat
 | .int _ k=>W - k.toNat
 | _=>0
theorem pn (W k:Nat):tI W (.int .i64 k)=W - k:=by simp [tI]
set_option maxRecDepth 100000 in
set_option maxHeartbeats 1000000 in
theorem Fe (F : Fence) (n : Nat) (h6 : F.fn 150) (hro : F.round = none) (hn : 1 ≤ n) (l Bh oh Bw ow n₀ W H : Nat) (hW : W ≤ 16777216) (hH : H ≤ 16777216) (J Jx : List {p : Nat × Nat // p.1 < W ∧ p.2 < H} → World → Prop)
  (hY:∀ pre x w,J pre w→pre.length<H * W→YieldAt F (n - 1) Tryz.prog l #[.int .i64 x.1.1, .int .i64 x.1.2] w fun e w' =>
   (e = .returned (.bool true)∧J (pre ++ [x]) w'∧Below n₀ w w')∨(e = .returned (.bool false)∧Jx (pre ++ [x]) w'))
  (w:World) (hBh:Bh<n₀) (hBw:Bw<n₀) (hch:w.cell? ⟨Bh,oh,none⟩=some (.int .i64 H)) (hcw:w.cell? ⟨Bw,ow,none⟩=some (.int .i64 W)) (h0:J [] w) :
  CallsIn F n Tryz.prog 150 #[.func (.yield l) #[] #[], .pointer (some ⟨Bh,oh,none⟩), .pointer (some ⟨Bw,ow,none⟩)] w fun e w'=>(∃ v,e = .returned v)∧((∃ ys,True∧J ys w')∨(∃ pre,True∧Jx pre w')):=by
 refine callsIn_of_wp Tryz.func150 rfl h6 ?_ hro;simp only [Tryz.ntmps150,List.size_toArray,List.length_cons,List.length_nil,Nat.reduceAdd,Nat.reduceSub,Array.replicate_succ,Array.replicate_zero,List.push_toArray,List.append_toArray,List.nil_append,List.cons_append]
 gi_wp2
 gi_loopw [7] (fun v wr=>∃ (j:Nat) (pre:List {p:Nat × Nat // p.1<W∧p.2<H}),v = .int .i64 j∧j≤H∧pre.length=j * W∧wr.cell? ⟨Bw,ow,none⟩=some (.int .i64 W)∧J pre wr)
  (fun v wr=>tI H v)
 case atStart =>
  exact ⟨0,[],rfl,Nat.zero_le _,by simp,hcw,h0⟩
 case round =>
  obtain ⟨j,pre,rfl,hj,hp,hc,hJ⟩:=hrel
  gi_wp2
  ·rename_i hjH K hK;rw [decide_eq_true hjH]
   gi_loopw [11] (fun v wr=>∃ (k:Nat) (pre:List {p:Nat × Nat // p.1<W∧p.2<H}),v = .int .i64 k∧k≤W∧pre.length=j * W+k∧wr.cell? ⟨Bw,ow,none⟩=some (.int .i64 W)∧J pre wr)
    (fun v wr=>tI W v)
   case atStart =>
    exact ⟨0,pre,rfl,Nat.zero_le _,by omega,hc,hJ⟩
   case round =>
    obtain ⟨k,pre2,rfl,hk,hp2,hc2,hJ2⟩:=hrel;by_cases hkW:k<W
    ·have hlen:pre2.length<H * W:=by
      have:(j+1) * W≤H * W:=Nat.mul_le_mul hjH (Nat.le_refl _);rw [Nat.succ_mul] at this;omega
     obtain ⟨fn,tmps,assign,body,hy,hR⟩:=hY pre2 ⟨(k,j),hkW,hjH⟩ wr hJ2 hlen;dsimp only at hy
     gi_wp2
     ·refine hR.mono ?_;rintro e W3 (⟨rfl,hJ3,hk3⟩|⟨rfl,hJx3⟩)
      ·have hc3:W3.cell? ⟨Bw,ow,none⟩=some (.int .i64 W):=(hk3.cell (p:=⟨Bw,ow,none⟩) hBw).trans hc2
       gi_wp2
       go_roundw
       case rel=>exact ⟨k+1,pre2 ++ [⟨(k,j),hkW,hjH⟩],rfl,by omega,by rw [List.length_append,hp2];rfl,hc3,hJ3⟩
       case measure =>
        show tI W (.int .i64 ((k+1:Nat):Int))<tI W (.int .i64 (k:Int));rw [pn,pn];omega
      ·gi_wp2
       refine bodyPost_ret (results_none rfl _ _ _) rfl ?_;exact ⟨⟨_,rfl⟩, .inr ⟨_,trivial,hJx3⟩⟩
    ·gi_wp2
     go_roundw
     case rel =>
      have:k=W:=by omega
      exact ⟨j+1,pre2,by simp,by omega,by rw [Nat.succ_mul,hp2,this],hc2,hJ2⟩
     case measure =>
      show tI H (.int .i64 ((j+1:Nat):Int))<tI H (.int .i64 (j:Int));rw [pn,pn];omega
  ·go_end0
   exact ⟨⟨_,rfl⟩, .inl ⟨pre,trivial,hJ⟩⟩
theorem Bg (n : Nat) (hn : 1 ≤ n) (Bh oh Bw ow n₀ W H : Nat) (hW : W ≤ 16777216) (hH : H ≤ 16777216) (w : World) (hn₀ : n₀ ≤ w.heap.size) (hBh : Bh < n₀) (hBw : Bw < n₀) (hch : w.cell? ⟨Bh, oh, none⟩ = some (.int .i64 H)) (hcw : w.cell? ⟨Bw, ow, none⟩ = some (.int .i64 W)) :
  SeqStopsK Fence.wide n Tryz.prog 150 #[.pointer (some ⟨Bh,oh,none⟩), .pointer (some ⟨Bw,ow,none⟩)] (fun x : {p:Nat × Nat // p.1<W∧p.2<H} => #[.int .i64 x.1.1, .int .i64 x.1.2]) (Below n₀) (fun _=>True) (fun _=>True) (H * W) w:=fun l J Jx w1 hB _ _ hY h0 =>
 Fe Fence.wide n trivial rfl hn l Bh oh Bw ow n₀ W H hW hH J Jx hY w1 hBh hBw ((hB.cell (p:=⟨Bh,oh,none⟩) (by show Bh<w.heap.size;omega)).trans hch) ((hB.cell (p:=⟨Bw,ow,none⟩) (by show Bw<w.heap.size;omega)).trans hcw) h0
end Go.Proofs.YtcbifofjjpfbcaaGreatDoor
