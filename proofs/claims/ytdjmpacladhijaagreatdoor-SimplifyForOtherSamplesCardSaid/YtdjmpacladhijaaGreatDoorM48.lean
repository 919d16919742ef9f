/- Part of the proof: E8. -/
import Derived.Test.YtdjmpacladhijaaGreatDoorM46
set_option linter.unusedSimpArgs false
set_option linter.unusedVariables false
set_option maxHeartbeats 2000000
set_option maxRecDepth 16000
namespace Go.Proofs.YtdjmpacladhijaaGreatDoor
open Go Go.SL
open Go.RowKit (wrap64)
attribute [local go_sem] Int.toNat_natCast vI
structure Sml (s:Script):Prop where
 order:s.order.length≤1000000000
 im0:0<s.images.length
 im:s.images.length≤1000000000
 p0:∀ i,i<s.images.length→(s.images.getD i default).p0.s.length≤1000000000
 p1:∀ i,i<s.images.length→(s.images.getD i default).p1.s.length≤1000000000
 p2:∀ i,i<s.images.length→(s.images.getD i default).p2.s.length≤1000000000
 p3:∀ i,i<s.images.length→(s.images.getD i default).p3.s.length≤1000000000
 p4:∀ i,i<s.images.length→(s.images.getD i default).p4.s.length≤1000000000
theorem Ty {st : St} {K : SV → St → Prop} (n : Nat) (g : Nat → Nat → PV) (h0 : 0 < n) (hn : n ≤ 1000000000) (hw : jB 0 st)
  (hK:∀ G:Nat→Nat→PV,K (.b (.c (.own (st.nx+1) n))) (st.turn (aJ (st.nx+1) (.arr 49 28 n g) (dH st.nx (aJ st.nx (.arr 49 28 0 G) st.bx))) (st.nx+2))) :
  dY Sg st 126 [.c (.p (.lst 28 n g))] (Sl.of K):=by
 obtain ⟨F,hF,G,hI⟩:=EF st.bx st.nx n g h0 hn hw.1;have e:F=g:=funext fun i=>funext fun j=>hF i j;subst e;refine dS hI rfl (fun i hi => ?_) (by omega) (hK G);simp only [aJ,dH];rw [if_neg (by omega),if_neg (by omega),if_neg (by omega)];exact hw.1 i (by omega)
def Hp (s:Script) (l:List Op):List (Nat × Bx):=[(0, .fix [.p (PI s.bits), .p (PI s.canvas.x0), .p (PI s.canvas.y0), .p (PI s.canvas.x1), .p (PI s.canvas.y1), .p (PI s.tileW), .p (PI s.tileH), .p (dq s.order), .own 2 s.images.length, .p (kU l)]),
 (1, .fix [.p (PI 0), .p (PI 0), .p (PI 0), .p (PI 0), .p (PI 0), .p (PI 0), .p (PI 0), .p (.val (.slice none 0 0)), .p (.val (.slice none 0 0)), .p (.val (.slice none 0 0))]),(2, .arr 49 28 s.images.length (aQ aF s.images))]
attribute [local go_sem] Hp
theorem LY (s:Script) (l:List Op) (H:Sml s) (hl:l.length≤1000000000):aB Sg 72 [ag (ay s), .c (.p (kU l))] (fun x=>x = .b (ag (ay (cl s l)))):=by
 obtain ⟨b1,b2,b3,q0,q1,q2,q3,q4⟩:=id H;have hci:=Hd s.order.length (aQ KW s.order) b1;refine az Tryz.func72 [.cell 4 39] ?_;repeat' ((with_reducible refine aX (id:=0) (fun K hW => ?_));(try simp (maxSteps:=999999)(disch:=omega) only [go_sem]);and_intros;all_goals first|(refine hK _ ?_;clear hK K)|try exact ai)
 refine hW _ (aP [(1, .b (.c (.p (kU l)))),(2, .b (.c (.ptr 0 0))),(4, .b (.c (.ptr 1 0)))] [(0, .fix ((ay s).map CV.p)),(1, .fix [.p (PI 0), .p (PI 0), .p (PI 0), .p (PI 0), .p (PI 0), .p (PI 0), .p (PI 0), .p (.val (.slice none 0 0)), .p (.val (.slice none 0 0)), .p (.val (.slice none 0 0))])] 2) ?_ ?_
 ·refine ar [(1,some 1)] ?_ ?_;and_intros;all_goals try exact ak
 clear hW;refine cM (id:=1) (.br 0 (.br 1 (.br 2 (.br 4 (.br 3 (.br 5 (.br 7 (.br 6 (.br 8 (.br 9 (.br 10 (.br 11 (.br 12 .leaf .nil) .nil) .nil) .nil) .nil) .nil) .nil) .nil) (.br 5 (.br 7 (.br 3 (.br 6 (.br 8 (.br 9 (.br 10 (.br 11 (.br 12 .leaf .nil) .nil) .nil) .nil) .nil) .nil) .nil) .nil) .nil)) .nil) .nil) .nil) .nil) (by decide +kernel) bZ (fun K0 hW => ?_);refine (fun (tl:∀ st,Le st (aP [(2, .b (.c (.ptr 0 0))),(4, .b (.c (.ptr 1 0)))] (Hp s l) 3)→K0 st) => ?_) (fun st hl=>hW st _ hl ?_)
 ·clear hW;repeat' (first|exact bp|(refine bO (fun K' hK' => ?_) ?_)|(refine aa (hci) ?_;(try simp (maxSteps:=999999)(disch:=omega) only [go_sem]);and_intros;(all_goals first|(refine hK' _ ?_;clear hK' K')|trivial|omega|exact Nat.le_of_ble_eq_true rfl|exact ai|skip))|(simp (maxSteps:=999999)(disch:=omega) only [go_sem];and_intros;(all_goals first|(refine hK' _ ?_;clear hK' K')|trivial|omega|exact Nat.le_of_ble_eq_true rfl|exact ai|skip)))
  all_goals
   refine Ty s.images.length (aQ aF s.images) b2 b3 ?_ (fun G => ?_)
   ·exact bZ
   refine hK' _ ?_;clear hK' K';repeat' (first|exact bp|(refine bO (fun K' hK' => ?_) ?_)|(refine aZ (tl _ ?_);clear tl)|(simp (maxSteps:=999999)(disch:=omega) only [go_sem];and_intros;(all_goals first|(refine hK' _ ?_;clear hK' K')|trivial|omega|exact Nat.le_of_ble_eq_true rfl|exact ai|skip)))
   refine ar [(1,some 1),(2,some 3)] ?_ ?_;and_intros;all_goals try exact ak
 clear hW;repeat' (refine aC ?_)
 refine aK (X:=Nat) (fun i=>aP [(2, .b (.c (.ptr 0 0))),(4, .b (.c (.ptr 1 0))),(20, .b (I s.images.length)),(21, .b (I i))] (Hp s l) 3) (fun i=>i≤s.images.length) (fun i=>s.images.length - i) 0 ?_ ?_ ?_
 ·exact Nat.zero_le _
 ·refine ar [(1,some 1),(2,some 2)] ?_ ?_;and_intros;all_goals try exact ak
 ·intro i hi;rcases Nat.lt_or_ge i s.images.length with hlt|hge
  ·repeat' (first|refine aC ?_|(refine aH (fun hb => ?_) (fun hb => ?_) <;> try exact ax))
   refine aK (X:=Nat) (fun k=>aP [(2, .b (.c (.ptr 0 0))),(4, .b (.c (.ptr 1 0))),(5, .b (I i)),(6, .b (.c (.pel 2 28 i 8))),(20, .b (I s.images.length)),(21, .b (I i)),(29, .b (I k))] (Hp s l) 3) (fun k=>k≤5) (fun k=>5 - k) 0 ?_ ?_ ?_
   ·omega
   ·refine ar [(1,some 1),(2,some 2)] ?_ ?_;and_intros;all_goals try exact ak
   ·intro k hk;have hcu:∀ n g,n≤1000000000→_:=fun n g h=>kt n g h;have w0:=q0 i hlt;have w1:=q1 i hlt;have w2:=q2 i hlt;have w3:=q3 i hlt;have w4:=q4 i hlt;have hkv:k=0∨k=1∨k=2∨k=3∨k=4∨k=5:=by omega
    rcases hkv with rfl|rfl|rfl|rfl|rfl|rfl
    ·repeat' (first|refine aw ?_|refine an (fun K hK => ?_)|refine aa (kt _ _ w0) ?_|(refine aH (fun hb => ?_) (fun hb => ?_) <;> try exact ax)|(refine aq hK ?_;try clear hK K))
     rw [ae];refine ao 1 ?_ (by omega) (by omega);refine ar [(1,some 1),(2,some 2)] ?_ ?_;and_intros;all_goals try exact ak
     refine .inr fun a ha j hj => ?_;by_cases e:a=i
     ·rw [if_pos e,e];have hivl:j=0∨j=1∨j=2∨j=3∨j=4∨j=5∨j=6∨j=7∨j=8∨j=9∨j=10∨j=11∨j=12∨j=13∨j=14∨j=15∨j=16∨j=17∨j=18∨j=19∨j=20∨j=21∨j=22∨j=23∨j=24∨j=25∨j=26∨j=27:=by omega
      rcases hivl with rfl|rfl|rfl|rfl|rfl|rfl|rfl|rfl|rfl|rfl|rfl|rfl|rfl|rfl|rfl|rfl|rfl|rfl|rfl|rfl|rfl|rfl|rfl|rfl|rfl|rfl|rfl|rfl <;> exact fun _ _ _ h=>h
     ·rw [if_neg e];exact fun _ _ _ h=>h
    ·repeat' (first|refine aw ?_|refine an (fun K hK => ?_)|refine aa (kt _ _ w1) ?_|(refine aH (fun hb => ?_) (fun hb => ?_) <;> try exact ax)|(refine aq hK ?_;try clear hK K))
     rw [ae];refine ao 2 ?_ (by omega) (by omega);refine ar [(1,some 1),(2,some 2)] ?_ ?_;and_intros;all_goals try exact ak
     refine .inr fun a ha j hj => ?_;by_cases e:a=i
     ·rw [if_pos e,e];have hivl:j=0∨j=1∨j=2∨j=3∨j=4∨j=5∨j=6∨j=7∨j=8∨j=9∨j=10∨j=11∨j=12∨j=13∨j=14∨j=15∨j=16∨j=17∨j=18∨j=19∨j=20∨j=21∨j=22∨j=23∨j=24∨j=25∨j=26∨j=27:=by omega
      rcases hivl with rfl|rfl|rfl|rfl|rfl|rfl|rfl|rfl|rfl|rfl|rfl|rfl|rfl|rfl|rfl|rfl|rfl|rfl|rfl|rfl|rfl|rfl|rfl|rfl|rfl|rfl|rfl|rfl <;> exact fun _ _ _ h=>h
     ·rw [if_neg e];exact fun _ _ _ h=>h
    ·repeat' (first|refine aw ?_|refine an (fun K hK => ?_)|refine aa (kt _ _ w2) ?_|(refine aH (fun hb => ?_) (fun hb => ?_) <;> try exact ax)|(refine aq hK ?_;try clear hK K))
     rw [ae];refine ao 3 ?_ (by omega) (by omega);refine ar [(1,some 1),(2,some 2)] ?_ ?_;and_intros;all_goals try exact ak
     refine .inr fun a ha j hj => ?_;by_cases e:a=i
     ·rw [if_pos e,e];have hivl:j=0∨j=1∨j=2∨j=3∨j=4∨j=5∨j=6∨j=7∨j=8∨j=9∨j=10∨j=11∨j=12∨j=13∨j=14∨j=15∨j=16∨j=17∨j=18∨j=19∨j=20∨j=21∨j=22∨j=23∨j=24∨j=25∨j=26∨j=27:=by omega
      rcases hivl with rfl|rfl|rfl|rfl|rfl|rfl|rfl|rfl|rfl|rfl|rfl|rfl|rfl|rfl|rfl|rfl|rfl|rfl|rfl|rfl|rfl|rfl|rfl|rfl|rfl|rfl|rfl|rfl <;> exact fun _ _ _ h=>h
     ·rw [if_neg e];exact fun _ _ _ h=>h
    ·repeat' (first|refine aw ?_|refine an (fun K hK => ?_)|refine aa (kt _ _ w3) ?_|(refine aH (fun hb => ?_) (fun hb => ?_) <;> try exact ax)|(refine aq hK ?_;try clear hK K))
     rw [ae];refine ao 4 ?_ (by omega) (by omega);refine ar [(1,some 1),(2,some 2)] ?_ ?_;and_intros;all_goals try exact ak
     refine .inr fun a ha j hj => ?_;by_cases e:a=i
     ·rw [if_pos e,e];have hivl:j=0∨j=1∨j=2∨j=3∨j=4∨j=5∨j=6∨j=7∨j=8∨j=9∨j=10∨j=11∨j=12∨j=13∨j=14∨j=15∨j=16∨j=17∨j=18∨j=19∨j=20∨j=21∨j=22∨j=23∨j=24∨j=25∨j=26∨j=27:=by omega
      rcases hivl with rfl|rfl|rfl|rfl|rfl|rfl|rfl|rfl|rfl|rfl|rfl|rfl|rfl|rfl|rfl|rfl|rfl|rfl|rfl|rfl|rfl|rfl|rfl|rfl|rfl|rfl|rfl|rfl <;> exact fun _ _ _ h=>h
     ·rw [if_neg e];exact fun _ _ _ h=>h
    ·repeat' (first|refine aw ?_|refine an (fun K hK => ?_)|refine aa (kt _ _ w4) ?_|(refine aH (fun hb => ?_) (fun hb => ?_) <;> try exact ax)|(refine aq hK ?_;try clear hK K))
     rw [ae];refine ao 5 ?_ (by omega) (by omega);refine ar [(1,some 1),(2,some 2)] ?_ ?_;and_intros;all_goals try exact ak
     refine .inr fun a ha j hj => ?_;by_cases e:a=i
     ·rw [if_pos e,e];have hivl:j=0∨j=1∨j=2∨j=3∨j=4∨j=5∨j=6∨j=7∨j=8∨j=9∨j=10∨j=11∨j=12∨j=13∨j=14∨j=15∨j=16∨j=17∨j=18∨j=19∨j=20∨j=21∨j=22∨j=23∨j=24∨j=25∨j=26∨j=27:=by omega
      rcases hivl with rfl|rfl|rfl|rfl|rfl|rfl|rfl|rfl|rfl|rfl|rfl|rfl|rfl|rfl|rfl|rfl|rfl|rfl|rfl|rfl|rfl|rfl|rfl|rfl|rfl|rfl|rfl|rfl <;> exact fun _ _ _ h=>h
     ·rw [if_neg e];exact fun _ _ _ h=>h
    ·repeat' (first|refine aC ?_|(refine aH (fun hb => ?_) (fun hb => ?_) <;> try exact ax))
     rw [ae];refine ao (i+1) ?_ (by omega) (by omega);refine ar [(1,some 1),(2,some 2)] ?_ ?_;and_intros;all_goals try exact ak
  ·have hi2:i=s.images.length:=by omega
   subst hi2
   repeat' (first|refine aC ?_|(refine aH (fun hb => ?_) (fun hb => ?_) <;> try exact ax))
   rfl
theorem IE (s:Script) (V:VOps s) (hs:ScriptLen s) (H:Sml s) (r:Rx) (ha:uN s r.1 r.2=true) (hl:(rf s r.1.toNat r.2.toNat).length≤1000000000):aB Sg 30 [ag (ay s),ag (vI r)] (fun x=>x = .tup [ag (ay (oj s r)),I 0]):=by
 have h1:=xR s V hs r ha;have h2:=LY s (rf s r.1.toNat r.2.toNat) H hl;refine az Tryz.func30 [.cell 4 39, .tmp 5] ?_
 repeat' (first|refine aw ?_|refine an (fun K hK => ?_)|refine aa (h1) ?_|refine aa (h2) ?_|(refine aH (fun hb => ?_) (fun hb => ?_) <;> try exact ax)|(refine aq hK ?_;try clear hK K))
 ·exact absurd trivial hb
 ·rfl
theorem Ja (s:Script) (hs:ScriptLen s):aB Sg 129 [ag (ay s)] (fun x=>x=Ew (fc s)):=by
 by_cases he:(gu s).1=0
 ·exact PP s (jK he) hs
 ·rw [pV (show fc s=[] by rw [fc,if_neg he])];exact RG s hs he
theorem OG (s:Script) (hs:ScriptLen s):aB Sg 74 [ag (ay s)] (fun x=>x = .b (B (decide (fc s=[])))):=by
 have h1:=Ja s hs;cases hr:fc s with
 | nil =>
  rw [pV hr] at h1;refine az Tryz.func74 [.tmp 2] ?_;repeat' (first|refine an (fun K hK => ?_)|refine aa (h1) ?_|refine aw ?_|(refine aq hK ?_;try clear hK K))
  rfl
 | cons r t =>
  rw [rW (r:=r) (by rw [hr];rfl)] at h1;refine az Tryz.func74 [.tmp 2] ?_;repeat' (first|refine an (fun K hK => ?_)|refine aa (h1) ?_|refine aw ?_|(refine aq hK ?_;try clear hK K))
  rfl
end Go.Proofs.YtdjmpacladhijaaGreatDoor
