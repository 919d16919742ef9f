/- Part of the proof: R7, RQ, RB, Y2, Y3. -/
import Derived.Test.YtdjmpacladhijaaGreatDoorM26
set_option linter.unusedSimpArgs false
set_option linter.unusedVariables false
set_option maxHeartbeats 8000000
set_option maxRecDepth 16000
namespace Go.Proofs.YtdjmpacladhijaaGreatDoor
open Go Go.SL
open Go.RowKit (wrap64)
section
attribute [local go_sem] Nat.add_zero nK Vs dA fQ Int.toNat_natCast dQ
def BP {α:Type} (i:Nat) (q:Nat→α) (z:α):Nat→α:=fun a=>if a<i then q a else z
theorem UY {α:Type} {i a:Nat} {q:Nat→α} {z:α} (e:a=i):BP (i+1) q z a=q i:=by rw [BP,if_pos (by omega),e]
theorem Ud {α:Type} {i a:Nat} {q:Nat→α} {z:α} (e:¬ a=i):BP (i+1) q z a=BP i q z a:=by
 unfold BP;by_cases h:a<i
 ·rw [if_pos h,if_pos (by omega)]
 ·rw [if_neg h,if_neg (by omega)]
theorem tw {w:Nat}:∀ a,a<w→∀ j,j<6→(PV.val (([.int .u16 0, .int .u16 0, .int .u16 0, .int .u16 0, .int .u16 0, .int .u16 0]:List Value).getD j undef)).le ((dA kz).getD j .any):=fun a ha j hj=>by
 have hivl:j=0∨j=1∨j=2∨j=3∨j=4∨j=5:=by omega
 rcases hivl with rfl|rfl|rfl|rfl|rfl|rfl <;> exact PV.le_refl _
theorem sU {w:Nat}:∀ a,a<w→∀ j,j<5→(PV.val (([.int .u16 0, .int .u16 0, .int .u16 0, .int .u16 0, .int .u16 0]:List Value).getD j undef)).le ((aU bG).getD j .any):=fun a ha j hj=>by
 have hivl:j=0∨j=1∨j=2∨j=3∨j=4:=by omega
 rcases hivl with rfl|rfl|rfl|rfl|rfl <;> exact PV.le_refl _
theorem pd {bx:Nat→Option Bx} {b k i:Nat} {x y:Bx} (hb:bx b=some x) (hk:bx k=some y):(if i=b then some x else if i=k then some y else bx i)=bx i:=by
 by_cases e0:i=b
 ·rw [if_pos e0,e0];exact hb.symm
 ·rw [if_neg e0];by_cases e1:i=k
  ·rw [if_pos e1,e1];exact hk.symm
  ·rw [if_neg e1]
def yw (n w:Nat) (f:Nat→Nat→PV) (t:Fr):Nat→Nat→PV:=fun i j=>if i=n+1 then (Vs w t).getD j .any else f i j
def CF (s:Script) (m:Int) (e:PV):List CV:=[.p (PI s.bits), .p (PI s.canvas.x0), .p (PI s.canvas.y0), .p (PI s.canvas.x1), .p (PI s.canvas.y1), .p (PI s.tileW), .p (PI s.tileH), .p (dq s.order), .p (qq s.images), .p (kU s.ops), .p (PU m), .p e]
theorem qu {s:Script} {m:Int} {e:PV}:∀ c ∈ CF s m e,CV.lt 0 c:=fun c hc=>by
 simp only [CF,List.mem_cons,List.not_mem_nil,or_false] at hc;rcases hc with rfl|rfl|rfl|rfl|rfl|rfl|rfl|rfl|rfl|rfl|rfl|rfl <;> trivial
theorem Pi (bx : Nat → Option Bx) (nx b k n w N : Nat) (f : Nat → Nat → PV) (s : Script) (m : Int) (e : PV) (o : Op) (t : Fr)
  (hb:bx b=some (.fix (nK s m e (.own k (n+1))))) (hk:bx k=some (.arr 221 14 N f)) (hbn:b<nx) (hkn:k<nx) (hbk:b≠k) (hn:n<N) (hN:N≤1000) (hw0:w≤1000) (hw1:0<w) (hf:VU w (f n) t) :
  lj Sg bx nx 158 [.c (.ptr b 0),ag (cC o)] (.tup []) (aJ b (.fix (nK s m e (.own nx (n+2)))) (aJ nx (.arr 221 14 (n+2) (yw n w f (mC o t))) (dH k bx))) (nx+1):=by
 have ht:True:=trivial;have eb:bx=aJ b (.fix (nK s m e (.own k (n+1)))) (aJ k (.arr 221 14 N f) bx):=by rw [← eL hk];exact eL hb
 have f11:f n 11=PB t.op.knockout:=hf 11 (by decide);have f12:f n 12=Qg w t.acc:=hf 12 (by decide);have f13:f n 13=wE w t.back:=hf 13 (by decide);refine vM Tryz.func158 rfl (rs:=[]) rfl rfl dI (by decide +kernel) (Nat.le_of_ble_eq_true rfl) ?_ (fun kf hkf hbl => ?_)
 ·intro v hv;simp only [List.mem_cons,List.not_mem_nil,or_false] at hv;rcases hv with rfl|rfl
  ·exact hbn
  ·exact fun c hc=>by (obtain ⟨x,_,rfl⟩:=List.mem_map.1 hc;trivial)
 have hw:∀ i,nx≤i→bx i=none:=fun i hi=>by
  cases h:bx i with
  | none=>rfl
  | some y=>exact absurd (hbl i y h).1 (by omega)
 rw [eb];repeat' (first|(((with_reducible refine bT (id:=1) [(17,2)] (by decide +kernel) (by decide +kernel) ?_ (fun K hK => ?_));(first|(refine And.intro (fun iw hiw => ?_) ?_;(focus ((try simp (maxSteps:=999999)(disch:=omega) only [go_sem] at hiw ⊢);(repeat (refine Eq.trans (if_neg ?_) ?_;(focus omega)));(first|exact hw iw (by omega)|rfl)));(focus (first|exact Nat.zero_le _|(simp (maxSteps:=999999)(disch:=omega) only [go_sem];done)|(simp (maxSteps:=999999)(disch:=omega) only [go_sem];omega))))|exact IN));(try simp (maxSteps:=999999)(disch:=omega) only [go_sem]);and_intros;(all_goals first|(refine hK _ (by simp (maxSteps:=999999)(disch:=omega) only [go_sem]) ?_;clear hK K)|exact ai|skip))|(refine an (fun K hK => ?_);and_intros;all_goals first|(refine hK _ ?_;clear hK K)|try exact ai))
 simp only [f11,f12,f13];refine cM (id:=2) (.br 0 (.br 1 (.br 2 (.br 3 (.br 5 (.br 6 (.br 7 (.br 4 (.br 8 (.br 9 (.br 10 (.br 11 .leaf .nil) .nil) .nil) (.br 10 (.br 8 (.br 9 (.br 11 .leaf .nil) .nil) .nil) .nil)) (.br 8 (.br 4 (.br 9 (.br 10 (.br 11 .leaf .nil) .nil) .nil) (.br 10 (.br 4 (.br 9 (.br 11 .leaf .nil) .nil) .nil) .nil)) (.br 10 (.br 4 (.br 8 (.br 9 (.br 11 .leaf .nil) .nil) .nil) (.br 8 (.br 4 (.br 9 (.br 11 .leaf .nil) .nil) .nil) .nil)) .nil))) .nil) .nil) .nil) .nil) .nil) .nil) .nil) (by decide +kernel) (by (first|(refine And.intro (fun iw hiw => ?_) ?_;(focus ((try simp (maxSteps:=999999)(disch:=omega) only [go_sem] at hiw ⊢);(repeat (refine Eq.trans (if_neg ?_) ?_;(focus omega)));(first|exact hw iw (by omega)|rfl)));(focus (first|exact Nat.zero_le _|(simp (maxSteps:=999999)(disch:=omega) only [go_sem];done)|(simp (maxSteps:=999999)(disch:=omega) only [go_sem];omega))))|exact IN)) (fun K0 hW => ?_);refine (fun (tl:∀ st,Le st (wD [(0, .b (.c (.ptr b 0))),(3, .b (.c (.ptr nx 0))),(4, .b (.c (.ptr (nx+1) 0))),(5, .b (.c (.ptr (nx+2) 0)))] (HN nx bx [(nx, .fix ((cC o).map CV.p)),(nx+1, .fix ((Vs w t).map CV.p)),(nx+2, .fix ((cC o).map CV.p ++ [.own (nx+3) w, .own (nx+4) w])),(nx+3, .arr 202 6 w (rj dA fun _=>kz)),(nx+4, .arr 43 5 w (rj aU fun _=>bG))]) (nx+5) kf)→K0 st) => ?_) (fun st hl=>hW st _ hl ?_)
 ·clear hW;repeat' (first|exact bp|(refine bO (fun K' hK' => ?_) ?_)|(refine aZ (tl _ ?_);clear tl)|(simp (maxSteps:=999999)(disch:=omega) only [go_sem];and_intros;(all_goals first|(refine hK' _ ?_;clear hK' K')|trivial|omega|exact Nat.le_of_ble_eq_true rfl|exact ai|skip)))
  all_goals first|(refine CJ [(0,0),(1,1),(2,4),(3,2),(4,3)] rfl hkf (by omega) (by omega) ?_ ?_ ?_;(focus (intro i x hi hx;refine ⟨(hbl i x hx).2, .inl (Eq.trans ?_ hx)⟩;simp (maxSteps:=999999)(disch:=omega) only [go_sem];refine Eq.trans (if_neg (show ¬ i=nx by omega)) ?_;exact pd hb hk));(focus (simp (maxSteps:=999999)(disch:=omega) only [go_sem];done));(simp (maxSteps:=999999)(disch:=omega) only [go_sem];and_intros;(all_goals first|exact .inl (hf _ (by decide))|omega|exact .inr tw|exact .inr sU)))|(refine CJ [(0,0),(1,1),(2,4),(3,3),(4,2)] rfl hkf (by omega) (by omega) ?_ ?_ ?_;(focus (intro i x hi hx;refine ⟨(hbl i x hx).2, .inl (Eq.trans ?_ hx)⟩;simp (maxSteps:=999999)(disch:=omega) only [go_sem];refine Eq.trans (if_neg (show ¬ i=nx by omega)) ?_;exact pd hb hk));(focus (simp (maxSteps:=999999)(disch:=omega) only [go_sem];done));(simp (maxSteps:=999999)(disch:=omega) only [go_sem];and_intros;(all_goals first|exact .inl (hf _ (by decide))|omega|exact .inr tw|exact .inr sU)))|(refine CJ [(0,0),(1,1),(2,3),(3,2),(4,4)] rfl hkf (by omega) (by omega) ?_ ?_ ?_;(focus (intro i x hi hx;refine ⟨(hbl i x hx).2, .inl (Eq.trans ?_ hx)⟩;simp (maxSteps:=999999)(disch:=omega) only [go_sem];refine Eq.trans (if_neg (show ¬ i=nx by omega)) ?_;exact pd hb hk));(focus (simp (maxSteps:=999999)(disch:=omega) only [go_sem];done));(simp (maxSteps:=999999)(disch:=omega) only [go_sem];and_intros;(all_goals first|exact .inl (hf _ (by decide))|omega|exact .inr tw|exact .inr sU)))|(refine CJ [(0,0),(1,1),(2,3),(3,4),(4,2)] rfl hkf (by omega) (by omega) ?_ ?_ ?_;(focus (intro i x hi hx;refine ⟨(hbl i x hx).2, .inl (Eq.trans ?_ hx)⟩;simp (maxSteps:=999999)(disch:=omega) only [go_sem];refine Eq.trans (if_neg (show ¬ i=nx by omega)) ?_;exact pd hb hk));(focus (simp (maxSteps:=999999)(disch:=omega) only [go_sem];done));(simp (maxSteps:=999999)(disch:=omega) only [go_sem];and_intros;(all_goals first|exact .inl (hf _ (by decide))|omega|exact .inr tw|exact .inr sU)))|(refine CJ [(0,0),(1,1),(2,2),(3,3),(4,4)] rfl hkf (by omega) (by omega) ?_ ?_ ?_;(focus (intro i x hi hx;refine ⟨(hbl i x hx).2, .inl (Eq.trans ?_ hx)⟩;simp (maxSteps:=999999)(disch:=omega) only [go_sem];refine Eq.trans (if_neg (show ¬ i=nx by omega)) ?_;exact pd hb hk));(focus (simp (maxSteps:=999999)(disch:=omega) only [go_sem];done));(simp (maxSteps:=999999)(disch:=omega) only [go_sem];and_intros;(all_goals first|exact .inl (hf _ (by decide))|omega|exact .inr tw|exact .inr sU)))|(refine CJ [(0,0),(1,1),(2,2),(3,4),(4,3)] rfl hkf (by omega) (by omega) ?_ ?_ ?_;(focus (intro i x hi hx;refine ⟨(hbl i x hx).2, .inl (Eq.trans ?_ hx)⟩;simp (maxSteps:=999999)(disch:=omega) only [go_sem];refine Eq.trans (if_neg (show ¬ i=nx by omega)) ?_;exact pd hb hk));(focus (simp (maxSteps:=999999)(disch:=omega) only [go_sem];done));(simp (maxSteps:=999999)(disch:=omega) only [go_sem];and_intros;(all_goals first|exact .inl (hf _ (by decide))|omega|exact .inr tw|exact .inr sU)))
 clear hW;repeat' (first|refine bL ?_|((with_reducible refine aX (id:=3) (fun K hW => ?_));(try simp (maxSteps:=999999)(disch:=omega) only [go_sem]);and_intros;all_goals first|(refine hK _ ?_;clear hK K)|try exact ai))
 refine hW _ (wD [(0, .b (.c (.ptr b 0))),(3, .b (.c (.ptr nx 0))),(4, .b (.c (.ptr (nx+1) 0))),(5, .b (.c (.ptr (nx+2) 0))),(31, .b (I w)),(32, .b (I 0))] (HN nx bx [(nx, .fix ((cC o).map CV.p)),(nx+1, .fix ((Vs w t).map CV.p)),(nx+2, .fix ((cC o).map CV.p ++ [.own (nx+3) w, .own (nx+4) w])),(nx+3, .arr 202 6 w (rj dA fun _=>kz)),(nx+4, .arr 43 5 w (rj aU fun _=>bG))]) (nx+5) kf) ?_ ?_
 ·clear hW;refine CJ [(0,0),(1,1),(2,2),(3,3),(4,4)] rfl hkf (by omega) (by omega) ?_ ?_ ?_
  ·exact fun i x hi hx=>⟨(hbl i x hx).2, .inl (by simp (maxSteps:=999999)(disch:=omega) only [go_sem];exact hx)⟩
  ·simp (maxSteps:=999999)(disch:=omega) only [go_sem];all_goals (first|exact .inl rfl|skip)
  ·simp (maxSteps:=999999)(disch:=omega) only [go_sem];and_intros;all_goals first|omega|exact .inl rfl|exact .inr (fun _ _ _ _=>PV.le_refl _)
 clear hW;refine fx fun KB hV => ?_;have tl:∀ st,Le st (wD [(0, .b (.c (.ptr b 0))),(5, .b (.c (.ptr nx 0)))] (HN nx (aJ b (.fix (nK s m e (.own k (n+1)))) (aJ k (.arr 221 14 N f) bx)) [(nx, .fix ((cC o).map CV.p ++ [.p (Qg w (mC o t).acc), .p (wE w (mC o t).back)]))]) (nx+1) kf)→KB st:=fun st hl=>hV st _ hl ?_
 ·refine aK (X:=Nat) (fun i=>wD [(0, .b (.c (.ptr b 0))),(3, .b (.c (.ptr nx 0))),(4, .b (.c (.ptr (nx+1) 0))),(5, .b (.c (.ptr (nx+2) 0))),(31, .b (I w)),(32, .b (I i))] (HN nx bx [(nx, .fix ((cC o).map CV.p)),(nx+1, .fix ((Vs w t).map CV.p)),(nx+2, .fix ((cC o).map CV.p ++ [.own (nx+3) w, .own (nx+4) w])),(nx+3, .arr 202 6 w (rj dA (BP i (mC o t).acc kz))),(nx+4, .arr 43 5 w (rj aU (BP i (mC o t).back bG)))]) (nx+5) kf) (fun i=>i≤w) (fun i=>w - i) 0 ?_ ?_ ?_
  ·exact Nat.zero_le _
  ·refine CJ [(0,0),(1,1),(2,2),(3,3),(4,4)] rfl hkf (by omega) (by omega) ?_ ?_ ?_
   ·exact fun i x hi hx=>⟨(hbl i x hx).2, .inl (by simp (maxSteps:=999999)(disch:=omega) only [go_sem];exact hx)⟩
   ·simp (maxSteps:=999999)(disch:=omega) only [go_sem];exact .inl rfl
   ·simp (maxSteps:=999999)(disch:=omega) only [go_sem];and_intros;all_goals first|omega|exact .inl rfl|exact .inr (fun _ _ _ _=>PV.le_refl _)
  ·intro i hi;rcases Nat.lt_or_ge i w with h|h
   ·have g:decide ((i:Int)<w)=true:=decide_eq_true (by omega);have hv:=PX o.isolated t.op.knockout (t.acc i) (t.back i);repeat' (first|refine aj g ?_|(((with_reducible refine gx (id:=6) [(36,1),(39,1),(42,1),(45,1),(47,1),(50,3),(52,1),(55,3),(60,2),(61,2)] (by decide +kernel) (by decide +kernel) ?_ (fun K hK => ?_));(first|(refine And.intro (fun iw hiw => ?_) ?_;(focus ((try simp (maxSteps:=999999)(disch:=omega) only [go_sem] at hiw ⊢);(repeat (refine Eq.trans (if_neg ?_) ?_;(focus omega)));(first|exact hw iw (by omega)|rfl)));(focus (first|exact Nat.zero_le _|(simp (maxSteps:=999999)(disch:=omega) only [go_sem];done)|(simp (maxSteps:=999999)(disch:=omega) only [go_sem];omega))))|exact IN));(try simp (maxSteps:=999999)(disch:=omega) only [go_sem]);and_intros;(all_goals first|(refine hK _ (by simp (maxSteps:=999999)(disch:=omega) only [go_sem]) ?_;clear hK K)|exact ai|skip))|refine bL ?_|((first|refine an (fun K hK => ?_)|refine aa (hv) ?_);and_intros;all_goals first|(refine hK _ ?_;clear hK K)|try exact ai))
    refine hK _ (by simp (maxSteps:=999999)(disch:=omega) only [go_sem]) ?_;clear hK;repeat' (first|refine bL ?_|(refine an (fun K hK => ?_);and_intros;all_goals first|(refine hK _ ?_;clear hK K)|try exact ai))
    rw [ae];refine ao (i+1) ?_ (by omega) (by omega);refine CJ [(0,0),(1,1),(2,2),(3,3),(4,4)] rfl hkf (by omega) (by omega) ?_ ?_ ?_
    ·exact fun i x hi hx=>⟨(hbl i x hx).2, .inl (by simp (maxSteps:=999999)(disch:=omega) only [go_sem];exact hx)⟩
    ·simp (maxSteps:=999999)(disch:=omega) only [go_sem];exact .inl rfl
    ·simp (maxSteps:=999999)(disch:=omega) only [go_sem];and_intros;all_goals first|omega|exact .inl rfl|skip
     ·refine .inr fun a ha j hj => ?_;by_cases e1:a=i
      ·rw [UY e1];simp only [if_pos e1];rw [if_pos ⟨Nat.zero_le _,hj⟩];have hivl:j=0∨j=1∨j=2∨j=3∨j=4∨j=5:=by omega
       rcases hivl with rfl|rfl|rfl|rfl|rfl|rfl <;> exact PV.le_refl _
      ·rw [Ud e1];simp only [if_neg e1];exact PV.le_refl _
     ·refine .inr fun a ha j hj => ?_;by_cases e1:a=i
      ·rw [UY e1];simp only [if_pos e1];rw [if_pos ⟨Nat.zero_le _,hj⟩];have hivl:j=0∨j=1∨j=2∨j=3∨j=4:=by omega
       rcases hivl with rfl|rfl|rfl|rfl|rfl <;> exact PV.le_refl _
      ·rw [Ud e1];simp only [if_neg e1];exact PV.le_refl _
   ·have g:decide ((i:Int)<w)=false:=decide_eq_false (by omega);obtain rfl:i=w:=by omega
    repeat' (first|refine aj g ?_|refine bL ?_|(refine an (fun K hK => ?_);and_intros;all_goals first|(refine hK _ ?_;clear hK K)|try exact ai))
    refine tl _ ?_;rw [← eb];refine CJ [(0,2)] rfl hkf (by omega) (by omega) ?_ ?_ ?_
    ·exact fun i x hi hx=>⟨(hbl i x hx).2, .inl (by simp (maxSteps:=999999)(disch:=omega) only [go_sem];exact hx)⟩
    ·simp (maxSteps:=999999)(disch:=omega) only [go_sem];exact Nat.lt_succ_self _
    ·simp (maxSteps:=999999)(disch:=omega) only [go_sem];and_intros;all_goals first|omega|exact .inl rfl|skip
     ·refine KV (e:=202) (m:=i) (f:=rj dA (BP i (mC o t).acc kz)) (by simp (maxSteps:=999999)(disch:=omega) only [go_sem]) (Nat.le_refl _) (fun a ha j hj => ?_) (Mx (c:=3) (ids:=[(0,2)]) rfl rfl);unfold rj BP;rw [if_pos ha];exact PV.le_refl _
     ·refine KV (e:=43) (m:=i) (f:=rj aU (BP i (mC o t).back bG)) (by simp (maxSteps:=999999)(disch:=omega) only [go_sem]) (Nat.le_refl _) (fun a ha j hj => ?_) (Mx (c:=4) (ids:=[(0,2)]) rfl rfl);unfold rj BP;rw [if_pos ha];exact PV.le_refl _
 clear hV;refine nc (id:=8) (.br 0 (.br 1 (.br 2 (.br 3 (.br 4 (.br 5 (.br 6 (.br 7 (.br 8 (.br 9 (.br 10 .leaf .nil) .nil) .nil) .nil) .nil) .nil) .nil) .nil) .nil) .nil) .nil) (by decide +kernel) ?_ (fun K0 hW => ?_)
 ·refine ⟨fun iw hiw => ?_,Nat.zero_le _⟩;have hiw:nx+1≤iw:=hiw;show HN nx _ _ iw=none;unfold HN;rw [if_neg (by omega),mV,if_neg (by omega)];rfl
 replace hW:=ka hW;repeat' (first|exact bp|(refine bO (fun K' hK' => ?_) ?_)|(refine aZ (hW _ ?_);clear hW)|(simp (maxSteps:=999999)(disch:=omega) only [go_sem];and_intros;(all_goals first|(refine hK' _ ?_;clear hK' K')|trivial|omega|exact Nat.le_of_ble_eq_true rfl|exact ai|skip)))
 refine gi ?_;refine ⟨_,QV (l:=[]) (b:=b) (q:=nx+1+1) (n:=n+2) (T:=221) (sz:=14) (N:=n+2) (cs:=CF s m e) (f := ?ff) (f':=yw n w f (mC o t)) (base:=dH k (aJ b (.fix (nK s m e (.own k (n+1)))) (aJ k (.arr 221 14 N f) bx))) rfl hkf hbn (by omega) qu ?h1 ?h2 (.inr ?h3) ?h4 trivial,trivial,rfl,fun i y h=>h,rfl,rfl,fun v hv=>by cases hv⟩
 case h1=>(first|(simp (maxSteps:=999999)(disch:=omega) only [go_sem];done)|(simp (maxSteps:=999999)(disch:=omega) only [go_sem];rfl))
 case h2=>(first|(simp (maxSteps:=999999)(disch:=omega) only [go_sem];done)|(simp (maxSteps:=999999)(disch:=omega) only [go_sem];rfl))
 case h3 =>
  intro a ha j hj;unfold dV yw;by_cases e1:a=n+1
  ·rw [if_neg (by omega),if_pos e1,e1,Nat.sub_self];have hivl:j=0∨j=1∨j=2∨j=3∨j=4∨j=5∨j=6∨j=7∨j=8∨j=9∨j=10∨j=11∨j=12∨j=13:=by omega
   rcases hivl with rfl|rfl|rfl|rfl|rfl|rfl|rfl|rfl|rfl|rfl|rfl|rfl|rfl|rfl <;> exact PV.le_refl _
  ·rw [if_pos (by omega),if_neg e1];exact PV.le_refl _
 case h4 =>
  intro i x e1 hx;have hx:dH k bx i=some x:=by rw [← eb] at hx;exact hx
  unfold dH at hx;split at hx
  ·cases hx
  rename_i e2;obtain ⟨q1,q2⟩:=hbl i x hx;refine ⟨q1,q2, ?_⟩;simp (maxSteps:=999999)(disch:=omega) only [go_sem];exact hx
end
section
theorem Iu {s:Script} {m:Int} (hm:Full m) (hmx:aN s.bits=m) (I:sj s) (k:Nat) (x y:Int):PixV (dN (s.images.getD k default) x y) m:=by
 subst hmx;rcases Nat.lt_or_ge k s.images.length with h|h
 ·have:=I k (by omega) (by omega);unfold cH at this;grind [Mg]
 ·rw [List.getD_eq_getElem?_getD,List.getElem?_eq_none h];have e:dN (default:Image) x y=bG:=by
   unfold dN;rw [if_pos (.inl (by decide))]
  exact e ▸ uE hm
theorem XM {s:Script} {o:Op} {x y:Int} {j:Nat} (hk:o.kind=1) (hi:0≤o.image∧o.image<s.images.length):(zR s x y j o).1=dN (s.images.getD o.image.toNat default) (x - o.x+j) (y - o.y):=by
 unfold zR bg;dsimp only;rw [if_pos ⟨hk,hi.1,hi.2⟩,tp,show x+(j:Int) - o.x=x - o.x+j by omega];rfl
theorem Dl {s:Script} {m:Int} {o:Op} {p:Pixel} {x y:Int} {j:Nat} (hmk:0≤o.mask∧o.mask≤s.images.length):aL m o p (zR s x y j o).2=aL m o p (kI s o x y j):=by
 unfold aL;by_cases h:o.mask=0
 ·grind
 ·rw [if_neg h,if_neg h];have e:(zR s x y j o).2=kI s o x y j:=by
   unfold zR bg kI;dsimp only;rw [if_pos (by omega),tp,show x+(j:Int) - o.maskX=x - o.maskX+j by omega];rfl
  rw [e]
structure PaintOk (s:Script) (m:Int) (o:Op) (x y:Int) (w:Nat) (t:Fr):Prop where
 op:1≤o.operator∧o.operator≤12
 mode:1≤o.mode∧o.mode≤12
 opac:0≤o.opacity∧o.opacity≤m
 mask:0≤o.mask∧o.mask≤s.images.length
 ox : -1048576≤o.x∧o.x≤1048576
 oy : -1048576≤o.y∧o.y≤1048576
 mx : -1048576≤o.maskX∧o.maskX≤1048576
 my : -1048576≤o.maskY∧o.maskY≤1048576
 mv:∀ j,j<w→0≤kI s o x y j∧kI s o x y j≤m
 v:∀ j,j<w→AccV (t.acc j) (t.back j) m
 ko:t.op.knockout=true→o.operator=4
section
variable {s:Script} {m x y:Int} {n i:Nat} {q:RS}
theorem US {o:Op} {j:Nat} (hm:Full m) (hmx:aN s.bits=m) (I:sj s):0≤kI s o x y j∧kI s o x y j≤m:=by
 have:=Iu hm hmx I (o.mask - 1).toNat (x - o.maskX+j) (y - o.maskY)
 exact ⟨this.a0,this.am⟩
theorem Wh (hn : 0 < n) (C : ∀ j : Nat, j < n → Pt s m (x + j) y) (hi : i < s.ops.length) (hk : (ah s.ops i).kind = 1) {t : Fr} {r : List Fr} {jk : List Fr} (h : xJ s m x y n ⟨t :: r, jk⟩ i) :
  PaintOk s m (ah s.ops i) x y n t∧0≤(ah s.ops i).image∧(ah s.ops i).image<s.images.length:=by
 have C0:=C 0 hn;obtain ⟨_,_,_,q4⟩:=cu.1 (C0.V.ok i hi);obtain ⟨_,_,_,q5,q6,_⟩:=q4 (by omega);simp only [jn,decide_eq_true_eq] at q5 q6;obtain ⟨b0,b1,b2,b3,b4,b5,b6⟩:=uJ C0 hi (by omega);have ha:∀ j,j<n→At s m i (t.col j :: r.map fun u=>u.col j):=fun j hj=>Ln C (by omega) h hj;have hf:=(ha 0 hn).fit C0 hi (by omega)
 exact ⟨⟨q5,q6,⟨hf.op0,hf.opm⟩,⟨b1,b2⟩,b3,b4,b5,b6,fun j _=>US C0.hm C0.mx C0.im,fun j hj=>(ha j hj).v.head.v,fun h=>hf.ctx.elim id fun q=>by
  grind [Fr.col,ah]⟩,b0 hk⟩
theorem a2v (hn : 0 < n) (C : ∀ j : Nat, j < n → Pt s m (x + j) y) (hi : i < s.ops.length) (hk : (ah s.ops i).kind = 3) {st jk : List Fr} (h : xJ s m x y n ⟨st, jk⟩ i) :
  ∃ t u r,st=t :: u :: r∧PaintOk s m t.op x y n u∧(∀ j,j<n→AccV (t.acc j) (t.back j) m)∧∀ j,j<n→PixV (bU (t.acc j) (t.back j) m) m:=by
 have C0:=C 0 hn;have W:=C0.V.wf;obtain ⟨hl,ho⟩:=zl hn C (by omega) h;obtain ⟨g,sk,hsk⟩:∃ g sk,bE s.ops i=g :: sk:=by
  cases hq:bE s.ops i with
  | nil=>exact absurd hq (W.pops i hi hk)
  | cons g sk=>grind
 rw [hsk] at hl ho
 match st,hl with
 | t :: u :: r,_ =>
  have hg:t.op=ah s.ops g:=(List.cons.inj ho).1;have hgl:g<i:=ej (ops:=s.ops) (by grind);have hgk:(ah s.ops g).kind=2:=iz (i:=i) (by grind);obtain ⟨b0,b1,b2,b3,b4,b5,b6⟩:=uJ C0 (show g<s.ops.length by omega) (by omega);obtain ⟨_,_,_,q4⟩:=cu.1 (C0.V.ok g (by omega));obtain ⟨_,_,_,q5,q6,_⟩:=q4 (by omega);rw [← hg] at b1 b2 b3 b4 b5 b6 q5 q6;simp only [jn,decide_eq_true_eq] at q5 q6;have ha:∀ j,j<n→At s m i (t.col j :: u.col j :: r.map fun u=>u.col j):=fun j hj=>Ln C (by omega) h hj;obtain ⟨_,vf,_⟩:=(ha 0 hn).v;refine ⟨t,u,r,rfl,⟨q5,q6,⟨vf.op0,vf.opm⟩,⟨b1,b2⟩,b3,b4,b5,b6,fun j _=>US C0.hm C0.mx C0.im,fun j hj=>(ha j hj).v.2.2.head.v,fun h=>vf.ctx.elim id fun q => ?_⟩,fun j hj=>(ha j hj).v.head.v,fun j hj=>pK C0.hm (ha j hj).v.head.v⟩;grind [Fr.col]
theorem XJ (hn:0<n) (C:∀ j:Nat,j<n→Pt s m (x+j) y) (hi:i<s.ops.length) (hk:(ah s.ops i).kind=2) {st jk:List Fr} (h:xJ s m x y n ⟨st,jk⟩ i):∃ t r,st=t :: r∧r.length<64:=by
 have C0:=C 0 hn;obtain ⟨hl,ho⟩:=zl hn C (by omega) h;obtain ⟨_,_,_,q4⟩:=cu.1 (C0.V.ok i hi);obtain ⟨_,_,_,_,_,_,q7⟩:=q4 (by omega);have hd:=q7 hk;rw [List.length_map,List.length_reverse] at hd
 match st,hl with
 | t :: r,hl=>grind
theorem WM (hn:0<n) (C:∀ j:Nat,j<n→Pt s m (x+j) y) (hi:i≤s.ops.length) {st jk:List Fr} (h:xJ s m x y n ⟨st,jk⟩ i):∃ t r,st=t :: r∧r.length≤64:=by
 obtain ⟨hl,ho⟩:=zl hn C hi h;have:=Sz (C 0 hn).V hi
 match st,hl with
 | t :: r,hl=>grind
end
def sD (w:Nat) (f:Nat→Nat→Go.SL.PV):List Fr→Prop
 | []=>True
 | t :: r=>(∀ j,j<14→f r.length j=((cC t.op ++ [Qg w t.acc,wE w t.back]:List Go.SL.PV)).getD j .any)∧sD w f r
theorem qK {w:Nat} {f g:Nat→Nat→Go.SL.PV}:∀ {st:List Fr},(∀ i,i<st.length→∀ j,g i j=f i j)→sD w f st→sD w g st
 | [],_,_=>trivial
 | t :: r,h,⟨h1,h2⟩=>⟨fun j hj=>by grind,qK (fun i hi j=>h i (by simp;omega) j) h2⟩
end
section
attribute [local go_sem] Int.toNat_natCast
def Fy (w h:Int) (l:List Pixel) (x q:Nat):List PV:=if q<x then nt (dF w h l q) else nt kK
def PN (w h:Int) (l:List Pixel) (x:Nat):List PV:=[PI w,PI h,PB false,PU 0,PU 0,PU 0,PU 0,PU 0] ++ Fy w h l x 0 ++ Fy w h l x 1 ++ Fy w h l x 2 ++ Fy w h l x 3 ++ Fy w h l x 4
def OL (l:List Pixel) (q k:Nat):Nat→Nat→PV:=fun a _=>PU (if a<k then yN q (l.getD a default) else 0)
theorem SQ {l:List Pixel} {q k a:Nat}:(if a=k then PU (yN q (l.getD k default)) else PU (if a<k then yN q (l.getD a default) else 0))=PU (if a<k+1 then yN q (l.getD a default) else 0):=by grind
theorem a4a {w h:Int} {l:List Pixel} {q:Nat}:∀ a,a<l.length→∀ j,j<1→PV.le (OL l q l.length a j) (aQ VQ (dF w h l q).s a j):=fun a ha j hj=>by
 obtain rfl:j=0:=by omega
 have e2:(dF w h l q).s.getD a default=yN q (l.getD a default):=by simp only [dF,List.getD_eq_getElem?_getD,List.getElem?_map,List.getElem?_eq_getElem ha,Option.map_some,Option.getD_some]
 rw [OL,if_pos ha,aQ,e2];exact PV.le_refl _
theorem LU {r:Nat→Option Nat} {bx B:Nat→Option Bx}:∀ (l:List PV),LP r bx B (l.map CV.p) (l.map CV.p)
 | []=>trivial
 | x :: l=>⟨zD (n:=0) (x := .p x) (fun id hid=>absurd hid (Nat.not_lt_zero _)) trivial,LU l⟩
theorem FP (w h : Int) (l : List Pixel) (hl : l.length ≤ 16777216) :
  aB Sg 46 [I w,I h, .c (.p (lM l))] (fun r=>r = .tup [ag (aF (bR w h l)),B (dg w h l.length)]):=by
 have ht:True:=trivial;have hsz:=BU w h;cases hf:dD w h with
 | false =>
  have hok:dg w h l.length=false:=by rw [dg,hf];rfl
  rw [hok,bR,if_neg (by grind)];rw [hf] at hsz;refine bo ?_;refine az Tryz.func46 [.cell 6 49, .tmp 7] ?_;repeat' (first|refine aj ht ?_|refine aw ?_|refine an (fun K hK => ?_)|refine aa (hsz) ?_|(refine aq hK ?_;try clear hK K))
  refine cJ ⟨dG ?_,cD trivial,trivial⟩;simp only [List.map_cons,List.map_nil,bM,cA];and_intros;all_goals first|exact .inl rfl|exact .inl trivial|exact .inr bP|trivial|skip
 | true =>
  have hb2:=fU hf;have hw:IntKind.i64.wrap (w * h)=w * h:=eK (by omega) (by omega);rw [hf] at hsz;by_cases hn:(l.length:Int)=w * h
  ·have hok:dg w h l.length=true:=by rw [dg,hf,decide_eq_true hn];rfl
   have g0:((l.length:Int) != w * h)=false:=by rw [bne_eq_false_iff_eq];exact hn
   rw [hok,bR,if_pos hok];refine bo ?_;refine az Tryz.func46 [.cell 6 49, .tmp 7] ?_;repeat' (first|refine aj g0 ?_|refine aw ?_|refine an (fun K hK => ?_)|refine aa (hsz) ?_|(refine aq hK ?_;try clear hK K))
   refine aK (X:=Nat) (fun x=>aP [(0, .b (I w)),(1, .b (I h)),(2, .b (.c (.p (lM l)))),(6, .b (.c (.ptr 0 0))),(8, .b (.c (.ptr 1 0))),(29, .b (I x))] [(0, .fix ((aF ft).map CV.p)),(1, .fix ((PN w h l x).map CV.p))] 2) (fun x=>x≤5) (fun x=>5 - x) 0 ?_ ?_ ?_
   ·omega
   ·simp only [PN,Fy];refine ar [(1,some 1)] ?_ ?_;and_intros;all_goals try exact ak
    all_goals exact bP
   ·intro q hq;rcases Nat.lt_or_ge q 5 with h5|h5
    ·have g1:decide ((q:Int)<5)=true:=decide_eq_true (by omega);obtain ⟨q1,hq1⟩:∃ q1,q1=q+1:=⟨_,rfl⟩
     have hq5:q=0∨q=1∨q=2∨q=3∨q=4:=by omega
     repeat' (first|refine aj g1 ?_|refine aC ?_)
     refine aK (X:=Nat) (fun k=>aP [(0, .b (I w)),(1, .b (I h)),(2, .b (.c (.p (lM l)))),(6, .b (.c (.ptr 0 0))),(8, .b (.c (.ptr 1 0))),(9, .b (I q)),(10, .b (.c (.own 2 l.length))),(29, .b (I q)),(35, .b (.c (.p (lM l)))),(36, .b (I l.length)),(37, .b (I k))] [(0, .fix ((aF ft).map CV.p)),(1, .fix ((PN w h l q).map CV.p)),(2, .arr 31 1 l.length (OL l q k))] 3) (fun k=>k≤l.length) (fun k=>l.length - k) 0 ?_ ?_ ?_
     ·omega
     ·refine ar [(1,some 1),(2,some 2)] ?_ ?_;and_intros;all_goals try exact ak
      ·exact LU _
      grind [undef,OL,PV.le,PV.le_refl]
     intro k hk;rcases Nat.lt_or_ge k l.length with h6|h6
     ·have g2:decide ((k:Int)<l.length)=true:=decide_eq_true (by omega);have st:∀ a,(if a=k then PU (yN q (l.getD k default)) else OL l q k a 0)=OL l q (k+1) a 0:=fun a=>SQ;rcases hq5 with rfl|rfl|rfl|rfl|rfl;all_goals
       simp only [PN,Fy];repeat' (first|refine aj g2 ?_|refine aC ?_)
       rw [ae];refine ao (k+1) ?_ (by omega) (by omega);refine ar [(1,some 1),(2,some 2)] ?_ ?_;and_intros;all_goals try exact ak
       refine .inr fun a ha j hj => ?_;obtain rfl:j=0:=by omega
       rw [← st a];by_cases e:a=k
       ·rw [if_pos e,if_pos e];exact PV.le_refl _
       grind [PV.le,PV.le_refl]
     ·have g2:decide ((k:Int)<l.length)=false:=decide_eq_false (by omega);obtain rfl:k=l.length:=by omega
      rcases hq5 with rfl|rfl|rfl|rfl|rfl;all_goals
       simp only [PN,Fy];repeat' (first|refine aj g2 ?_|refine aC ?_)
       rw [ae];refine ao q1 ?_ (by omega) (by omega);subst hq1;refine ar [(1,some 1)] ?_ ?_;and_intros;all_goals try exact ak
       all_goals first|exact a4a|grind [dF]|skip
    ·obtain rfl:q=5:=by omega
     simp only [PN,Fy];have g1:decide (((5:Nat):Int)<5)=false:=by decide
     repeat' (first|refine aj g1 ?_|refine aC ?_)
     refine cJ ⟨dG ?_,cD trivial,trivial⟩;simp only [List.map_cons,List.map_nil,bM,cA];and_intros;all_goals first|exact .inl rfl|exact .inl trivial|exact .inr bP|trivial|skip
  ·have hok:dg w h l.length=false:=by rw [dg,hf,decide_eq_false hn];rfl
   have g0:((l.length:Int) != w * h)=true:=by rw [bne_iff_ne];exact hn
   rw [hok,bR,if_neg (by grind)];refine bo ?_;refine az Tryz.func46 [.cell 6 49, .tmp 7] ?_;repeat' (first|refine aj g0 ?_|refine aw ?_|refine an (fun K hK => ?_)|refine aa (hsz) ?_|(refine aq hK ?_;try clear hK K))
   refine cJ ⟨dG ?_,cD trivial,trivial⟩;simp only [List.map_cons,List.map_nil,bM,cA];and_intros;all_goals first|exact .inl rfl|exact .inl trivial|exact .inr bP|trivial|skip
def Qf (l:List Rect):PV := .lst 4 l.length (aQ aS l)
theorem Om (s:Script) (hF:FrOk s) (hs:ScriptLen s):aB Sg 58 [ag (ay s)] (fun r=>r = .b (.c (.p (Qf (ja s))))):=by
 have ht:True:=trivial;have hN:=hF.n;have hlen:=hF.len;have h1:=qo s.canvas s.tileW s.tileH;have h2:=nH s.order (gP s) (by have:=hs.order;omega);have ho:oO s.order (gP s)=fC s.order (gP s):=by unfold oO;rw [if_pos hF.o]
 rw [ho] at h2;have hw0:gP s=IntKind.i64.wrap (bA s.canvas s.tileW s.tileH * cF s.canvas s.tileW s.tileH):=(nu _ _ _).1.symm;have h2:aB Sg 102 [.c (.p (dq s.order)),I (IntKind.i64.wrap (bA s.canvas s.tileW s.tileH * cF s.canvas s.tileW s.tileH))] (fun r=>r = .tup [.c (.p (dq (fC s.order (gP s)))),B (gj s.order (gP s))]):=by rw [← hw0];exact h2
 have hok:=sE hF.c hF.t;have htl:∀ i,i<(fC s.order (gP s)).length→aB Sg 103 [ag (aS s.canvas),I s.tileW,I s.tileH,I ((fC s.order (gP s)).getD i 0)] (fun x=>x = .tup [ag (aS ((ja s).getD i default)),B true]):=fun i hi=>by
  obtain ⟨q1,q2,q3⟩:=hF.tile hi;rw [q2];exact a0d s.canvas s.tileW s.tileH _ hF.c hF.t q1
 have hlt:(ja s).length=(fC s.order (gP s)).length:=by omega
 generalize fC s.order (gP s)=L at *
 generalize ja s=T at *
 refine az Tryz.func58 [.tmp 2] ?_;repeat' (first|refine aw ?_|refine an (fun K hK => ?_)|refine aa (h1) ?_|refine aa (h2) ?_|(refine aq hK ?_;try clear hK K))
 refine aK (X:=Nat) (fun i=>aP [(1, .b (.c (.ptr 0 0))),(2, .b (.c (.p (.val (.slice none 0 0))))),(8, .b (.c (.own 1 i))),(33, .b (.c (.p (dq L)))),(34, .b (I L.length)),(35, .b (I i))] [(0, .fix ((ay s).map CV.p)),(1, .arr 35 4 i (aQ aS (T.take i)))] 2) (fun i=>i≤L.length) (fun i=>L.length - i) 0 ?_ ?_ ?_
 ·omega
 ·refine ar [(1,none)] ?_ ?_;and_intros;all_goals try exact ak
 intro i hi;have hL20:L.length≤20:=by omega
 rcases Nat.lt_or_ge i L.length with h|h
 ·have g1:decide ((i:Int)<L.length)=true:=decide_eq_true (by omega);have hv:=htl i h;repeat' (first|refine aj g1 ?_|refine aw ?_|refine an (fun K hK => ?_)|refine aa (hv) ?_|(refine aq hK ?_;try clear hK K))
  rw [ae];refine ao (i+1) ?_ (by omega) (by omega);have e:T.take (i+1)=T.take i ++ [T.getD i default]:=by rw [List.take_add_one,List.getElem?_eq_getElem (by omega),List.getD_eq_getElem?_getD,List.getElem?_eq_getElem (by omega)];rfl
  have key:=fun g hg=>gD (enc:=aS) (xs:=T.take i) (x:=T.getD i default) (s:=4) (g:=g) hg;have hl:(T.take i).length=i:=by rw [List.length_take];omega
  rw [hl] at key;refine ar [(1,some 4)] ?_ ?_;and_intros;all_goals try exact ak
  refine .inr fun a ha j hj => ?_;rw [e];refine key _ (fun j hj => ?_) a ha j hj;have hivl:j=0∨j=1∨j=2∨j=3:=by omega
  rcases hivl with rfl|rfl|rfl|rfl <;> rfl
 ·have g1:decide ((i:Int)<L.length)=false:=decide_eq_false (by omega);obtain rfl:i=L.length:=by omega
  repeat' (first|refine aj g1 ?_|refine aC ?_)
  grind [aQ,aS,Qf]
end
section
open Go Go.SL Go.RowKit Go.Shelf
attribute [local go_sem] Oper.semAt_some
theorem a3n {g n:Nat} {sz sz':Nat→Nat} {f f':Nat→Nat→PV} (h:∀ i,i<n→sz i=sz' i∧∀ j,j<sz i→PV.le (f i j) (f' i j)):PV.le (.fn g n sz f) (.fn g n sz' f'):=fun _ _ u ⟨vs,e,hs,hb⟩=>by
 refine ⟨vs,e,hs,fun i hi => ?_⟩;obtain ⟨b,o,h1,h2,h3⟩:=hb i hi;obtain ⟨q1,q2⟩:=h i hi;refine ⟨b,o,h1,h2,fun j hj => ?_⟩;rw [← q1] at hj;obtain ⟨x,x1,x2,x3⟩:=h3 j hj;exact ⟨x,x1,x2,q2 j hj _ _ _ x3⟩
def CH (w h:Int):PV := .fn 136 2 (fun _=>1) (fun i _=>if i=0 then PI h else PI w)
theorem Bc (w h:Int):aB Sg 83 [I w,I h] (fun x=>x = .b (.c (.p (CH w h)))):=by
 refine bo ?_;refine vq Tryz.func83 rfl (rs:=[.tmp 4]) rfl rfl dI (by decide +kernel) (Nat.le_of_ble_eq_true rfl) (bN ba) ?_;repeat' (refine aC ?_)
 simp only [Option.isSome_some,if_true,CV.lt,true_and];refine fR (fg (a3n fun i hi => ?_));have h0:i=0∨i=1:=by omega
 rcases h0 with rfl|rfl
 ·refine ⟨rfl,fun j hj => ?_⟩;have h0:j=0:=by have:j<1:=hj;omega
  subst h0;exact fun _ _ _ h=>h
 ·refine ⟨rfl,fun j hj => ?_⟩;have h0:j=0:=by have:j<1:=hj;omega
  subst h0;exact fun _ _ _ h=>h
theorem EZ (m:Image) (mx:Int) (hs:m.solid=true) (hf:aV m=true):aB Sg 81 [ag (aF m),U mx] (fun r=>r = .b (I (fX m mx))):=by
 have h1:=uu m;have h2:=pF m.color mx;have hfit:dD m.w m.h=true:=by
  have:=hf;unfold aV at this;rw [Bool.and_eq_true] at this;exact this.1
 unfold fX;rw [hfit,hf,if_neg (by decide),if_neg (by decide)] at h1;rw [hfit,hf,if_neg (by decide),if_neg (by decide)];cases hp:oD m.color mx
 ·rw [if_pos ⟨hs,rfl⟩];rw [hp] at h2;refine az Tryz.func81 [.cell 4 58] ?_;repeat' (first|with_reducible exact cz|refine aj hs ?_|refine aw ?_|refine an (fun K hK => ?_)|refine aa (h1) ?_|refine aa (h2) ?_|(refine aq hK ?_;try clear hK K))
 ·rw [if_neg (by rintro ⟨_,q⟩;cases q)];rw [hp] at h2;refine az Tryz.func81 [.cell 4 58] ?_;repeat' (first|with_reducible exact cz|refine aj hs ?_|refine aw ?_|refine an (fun K hK => ?_)|refine aa (h1) ?_|refine aa (h2) ?_|(refine aq hK ?_;try clear hK K))
theorem JU (m:Image) (mx:Int) (hf:aV m=false):aB Sg 81 [ag (aF m),U mx] (fun r=>r = .b (I (fX m mx))):=by
 have h1:=uu m;unfold fX;cases hfit:dD m.w m.h
 ·rw [hfit,if_pos rfl] at h1;rw [if_pos rfl];have ht:True:=trivial;refine az Tryz.func81 [.cell 4 58] ?_;repeat' (first|with_reducible exact cz|refine aj ht ?_|refine aw ?_|refine an (fun K hK => ?_)|refine aa (h1) ?_|(refine aq hK ?_;try clear hK K))
 ·rw [hfit,hf,if_neg (by decide),if_pos rfl] at h1;rw [hf,if_neg (by decide),if_pos rfl];have ht:True:=trivial;refine az Tryz.func81 [.cell 4 58] ?_;repeat' (first|with_reducible exact cz|refine aj ht ?_|refine aw ?_|refine an (fun K hK => ?_)|refine aa (h1) ?_|(refine aq hK ?_;try clear hK K))
theorem a5q (t:Array Value) (h:t.size=34):∃ t0 t1 t2 t3 t4 t5 t6 t7 t8 t9 t10 t11 t12 t13 t14 t15 t16 t17 t18 t19 t20 t21 t22 t23 t24 t25 t26 t27 t28 t29 t30 t31 t32 t33,t = #[t0,t1,t2,t3,t4,t5,t6,t7,t8,t9,t10,t11,t12,t13,t14,t15,t16,t17,t18,t19,t20,t21,t22,t23,t24,t25,t26,t27,t28,t29,t30,t31,t32,t33]:=by
 obtain ⟨l⟩:=t;have step:∀ {n:Nat} {l:List Value},l.length=n+1→∃ a r,l=a :: r∧r.length=n:=fun {n l} h=>by
  cases l with
  | nil=>cases h
  | cons a r=>exact ⟨a,r,rfl,by simpa using h⟩
 have h:l.length=34:=h;obtain ⟨t0,r1,rfl,h1⟩:=step h;obtain ⟨t1,r2,rfl,h2⟩:=step h1;obtain ⟨t2,r3,rfl,h3⟩:=step h2;obtain ⟨t3,r4,rfl,h4⟩:=step h3;obtain ⟨t4,r5,rfl,h5⟩:=step h4;obtain ⟨t5,r6,rfl,h6⟩:=step h5;obtain ⟨t6,r7,rfl,h7⟩:=step h6;obtain ⟨t7,r8,rfl,h8⟩:=step h7;obtain ⟨t8,r9,rfl,h9⟩:=step h8;obtain ⟨t9,r10,rfl,h10⟩:=step h9;obtain ⟨t10,r11,rfl,h11⟩:=step h10;obtain ⟨t11,r12,rfl,h12⟩:=step h11;obtain ⟨t12,r13,rfl,h13⟩:=step h12;obtain ⟨t13,r14,rfl,h14⟩:=step h13;obtain ⟨t14,r15,rfl,h15⟩:=step h14;obtain ⟨t15,r16,rfl,h16⟩:=step h15;obtain ⟨t16,r17,rfl,h17⟩:=step h16;obtain ⟨t17,r18,rfl,h18⟩:=step h17;obtain ⟨t18,r19,rfl,h19⟩:=step h18;obtain ⟨t19,r20,rfl,h20⟩:=step h19;obtain ⟨t20,r21,rfl,h21⟩:=step h20;obtain ⟨t21,r22,rfl,h22⟩:=step h21;obtain ⟨t22,r23,rfl,h23⟩:=step h22;obtain ⟨t23,r24,rfl,h24⟩:=step h23;obtain ⟨t24,r25,rfl,h25⟩:=step h24;obtain ⟨t25,r26,rfl,h26⟩:=step h25;obtain ⟨t26,r27,rfl,h27⟩:=step h26;obtain ⟨t27,r28,rfl,h28⟩:=step h27;obtain ⟨t28,r29,rfl,h29⟩:=step h28;obtain ⟨t29,r30,rfl,h30⟩:=step h29;obtain ⟨t30,r31,rfl,h31⟩:=step h30;obtain ⟨t31,r32,rfl,h32⟩:=step h31;obtain ⟨t32,r33,rfl,h33⟩:=step h32;obtain ⟨t33,r34,rfl,h34⟩:=step h33;have hr34:r34=[]:=List.eq_nil_of_length_eq_zero h34;subst hr34;exact ⟨_,_,_,_,_,_,_,_,_,_,_,_,_,_,_,_,_,_,_,_,_,_,_,_,_,_,_,_,_,_,_,_,_,_,rfl⟩
theorem GA {bx:Nat→Option Bx} {b:Nat} {l:List PV} (hb:bx b=some (.fix (l.map CV.p))):gq bx (.c (.ptr b 0)) = .c (.ipt l.length (fun j=>l.getD j .any) 0):=by
 have hf:(fun j=>(iV bx ((l.map CV.p).getD (0+j) .any)).toP)=fun j=>l.getD j .any:=by
  funext j;rw [Nat.zero_add,List.getD_eq_getElem?_getD,List.getD_eq_getElem?_getD,List.getElem?_map];cases l[j]? with
  | none=>rfl
  | some x=>rfl
 simp only [gq,qD,hb];rw [if_pos (Nat.zero_le _),List.length_map,Nat.sub_zero];exact congrArg (fun g=>BV.c (.ipt l.length g 0)) hf
theorem KT (m:Image) (mx:Int) (hm:Full mx) (hs:m.solid=false) (h:ImgV m mx):aB Sg 81 [ag (aF m),U mx] (fun r=>r = .b (I 0)):=by
 have h1:=uu m;have hpl:=Bc m.w m.h;have hf:=h.f;have hfit:dD m.w m.h=true:=by
  have:=hf;unfold aV at this;rw [Bool.and_eq_true] at this;exact this.1
 obtain ⟨b1,b2,_,_,b3,b4⟩:=fU hfit;obtain ⟨W,hW⟩:∃ W:Nat,m.w=W:=⟨m.w.toNat,by omega⟩
 obtain ⟨H,hH⟩:∃ H:Nat,m.h=H:=⟨m.h.toNat,by omega⟩
 rw [hfit,hf,if_neg (by decide),if_neg (by decide)] at h1;refine ⟨⟨_,Tryz.func81,rfl,rfl⟩,fun ok w vs hok hgl hsz hden => ?_⟩;have g0:=Di (S:=Sg) (N:=34) hok hgl hsz hden (show 2≤34 by decide) (bN ba);refine callsIn_wide.1 (callsIn_of_wp_marks (F:=Fence.wide) (n:=5) Tryz.func81 rfl trivial (wpIn_wide.2 ?_));refine ou dI (aP [(2, .b (.c (.ptr 0 0))),(3, .b (.c (.ptr 1 0))),(4, .b (.c (.ptr 2 0)))] [(0, .fix ((aF m).map CV.p)),(1, .fix ([PU mx].map CV.p)),(2, .fix ([PI 0].map CV.p))] 3) ?_ (show cX 34 _=true by decide +kernel) g0 (fun ρ1 a1 w1 g1 => ?_)
 ·repeat' (refine aC ?_)
  refine ⟨_, ?_,rfl⟩;refine ar [(1,some 1),(2,some 2)] ?_ ?_;and_intros;all_goals try exact ak
 refine ou dI (aP [(2, .b (.c (.ptr 0 0))),(3, .b (.c (.ptr 1 0))),(4, .b (.c (.ptr 2 0)))] [(0, .fix ((aF m).map CV.p)),(1, .fix ([PU mx].map CV.p)),(2, .fix ([PI 0].map CV.p))] 3) ?_ (show cX 34 _=true by decide +kernel) g1 (fun ρ2 a2 w2 g2 => ?_)
 ·have ht:True:=trivial;repeat' (first|refine aj ht ?_|refine aw ?_|refine an (fun K hK => ?_)|refine aa (h1) ?_|(refine aq hK ?_;try clear hK K))
  refine ⟨_, ?_,rfl⟩;refine ar [(1,some 1),(2,some 2)] ?_ ?_;and_intros;all_goals try exact ak
 refine ou dI (aP [(2, .b (.c (.ptr 0 0))),(3, .b (.c (.ptr 1 0))),(4, .b (.c (.ptr 2 0)))] [(0, .fix ((aF m).map CV.p)),(1, .fix ([PU mx].map CV.p)),(2, .fix ([PI 0].map CV.p))] 3) ?_ (show cX 34 _=true by decide +kernel) g2 (fun ρ3 a3 w3 g3 => ?_)
 ·repeat' (first|refine aj hs ?_|refine aC ?_)
  refine ⟨_, ?_,rfl⟩;refine ar [(1,some 1),(2,some 2)] ?_ ?_;and_intros;all_goals try exact ak
 refine wp_seq ?_;refine ou dI (aP [(2, .b (.c (.ptr 0 0))),(3, .b (.c (.ptr 1 0))),(4, .b (.c (.ptr 2 0))),(24, .b (.c (.p (CH m.w m.h))))] [(0, .fix ((aF m).map CV.p)),(1, .fix ([PU mx].map CV.p)),(2, .fix ([PI 0].map CV.p))] 3) ?_ (show cX 34 _=true by decide +kernel) g3 (fun ρ a w1 g => ?_)
 ·repeat' (first|refine an (fun K hK => ?_)|refine aa (hpl) ?_|(refine aq hK ?_;try clear hK K))
  refine ⟨_, ?_,rfl⟩;refine ar [(1,some 1),(2,some 2)] ?_ ?_;and_intros;all_goals try exact ak
 refine wp_block ?_;clear g0 g1 g2 g3;have d24:bq (cd { w0:=w,ok0:=ok,rx:=none,N:=34 } _ ρ w1) w1 (CH m.w m.h) (a.tmps.getD 24 undef):=g.slt 24;obtain ⟨lb,hu,hlb,hcl⟩:=d24;obtain ⟨Bh,oh,e1,k1,c1⟩:=hcl 0 (by decide);obtain ⟨Bw,ow,e2,k2,c2⟩:=hcl 1 (by decide);obtain ⟨xh,qh,_,dh⟩:=c1 0 (by decide);obtain ⟨xw,qw,_,dw⟩:=c2 0 (by decide);have dh:xh = .int .i64 m.h:=dh;have dw:xw = .int .i64 m.w:=dw;rw [dh,hH,Nat.add_zero] at qh;rw [dw,hW,Nat.add_zero] at qw;have hlb2:lb = #[.pointer (some ⟨Bh,oh,none⟩), .pointer (some ⟨Bw,ow,none⟩)]:=by
  rw [← e1,← e2];refine Array.ext hlb (fun i h1 h2 => ?_);have hi:i=0∨i=1:=by omega
  rcases hi with rfl|rfl
  ·simp [Array.getD,h1]
  ·simp [Array.getD,h1]
 have f0:=Qr g (s:=2) (x := .c (.ptr 0 0)) rfl (GA (l:=aF m) rfl) trivial;have f1:=Qr g (s:=3) (x := .c (.ptr 1 0)) rfl (GA (l:=[PU mx]) rfl) trivial;have f4:∃ b o,ρ 2 = .pointer (some ⟨b,o,none⟩)∧a.tmps.getD 4 undef = .pointer (some ⟨b,o+0,none⟩):=g.slt 4;obtain ⟨b,o,r2,f4⟩:=f4;have q2:jC ρ (cd { w0:=w,ok0:=ok,rx:=none,N:=34 } _ ρ w1) w1 (.fix ([PI 0].map CV.p)) (ρ 2):=g.bxs 2 _ rfl;obtain ⟨b',o',cells,ty,hv,hh,hsz2,hone,hdd⟩:=q2;rw [r2] at hv;obtain ⟨rfl,rfl⟩:b=b'∧o=o':=by simpa using hv
 have hbn:w.heap.size≤b:=by
  have:=(g.new 2 _ b rfl (by rw [r2];rfl)).2;rcases this with q|⟨_,_,_,_,q⟩
  ·exact q
  ·cases q
 have hgl1:=a5G g;have hB1:Below w.heap.size w w1:=⟨g.frm.os,g.frm.tape,g.frm.output,g.frm.size,fun k hk=>g.frm.block k hk fun _ _ q=>by cases q⟩
 obtain ⟨t0,t1,t2,t3,t4,t5,t6,t7,t8,t9,t10,t11,t12,t13,t14,t15,t16,t17,t18,t19,t20,t21,t22,t23,t24,t25,t26,t27,t28,t29,t30,t31,t32,t33,ha⟩:=a5q a.tmps g.sz;obtain ⟨tm,df⟩:=a;have hdf:df=[]:=g.dfr.1;dsimp only at ha hu f0 f1 f4;subst hdf;clear g;subst ha;have hu:t24=_:=hu;have f4:t4 = .pointer (some ⟨b,o,none⟩):=f4;subst hu f4 hlb2;refine Ho dI (gf:=136) (N:=34) rfl (enters_of Tryz.func136 (by kernel_rfl) rfl) (FT 3 (by omega) Bh oh Bw ow w1.heap.size W H (by omega) (by omega) w1 (Nat.le_refl _) k1.1 k2.1 qh qw) (fun _=>rfl)
  (fun x => { tmps := #[t0,t1,t2,t3, .pointer (some ⟨b,o,none⟩),t5, .int .i64 x.1.1, .int .i64 x.1.2,t8,t9,t10,t11,t12,t13,t14,t15,t16,t17,t18,t19,t20,t21,t22,t23, .func (.func 136) #[] #[.pointer (some ⟨Bh,oh,none⟩), .pointer (some ⟨Bw,ow,none⟩)], .int .i64 x.1.1, .int .i64 x.1.2,t27,t28,t29,t30,t31,t32,t33],defers:=[] })
  (fun x=>ma [(2, .b (.c (.ipt (aF m).length (fun j=>(aF m).getD j .any) 0))),(3, .b (.c (.ipt [PU mx].length (fun j=>[PU mx].getD j .any) 0))),(6, .b (I x.1.1)),(7, .b (I x.1.2))]) ?assign (fun x=>⟨rfl,rfl,fun s => ?lt,fun s => ?den⟩) hgl1 (by decide +kernel) (by decide +kernel) (fun x => ?cw) ?done
 case assign =>
  intro l x W0 K hK
  gi_wp2
  exact hK
 case lt =>
  simp only [ma];repeat' split
  all_goals trivial
 case den =>
  simp only [ma];split
  ·rename_i q;subst q;exact f0
  split
  ·rename_i q;subst q;exact f1
  split
  ·rename_i q;subst q;rfl
  split
  ·rename_i q;subst q;rfl
  trivial
 case cw =>
  obtain ⟨⟨px,py⟩,hx,hy⟩:=x;have hp:=xf m px py hf (by omega) (by dsimp only at hx;omega) (by omega) (by dsimp only at hy;omega);have hv:=pF (fy m px py) mx;rw [lA (h.p px py (by omega) (by dsimp only at hx;omega) (by omega) (by dsimp only at hy;omega))] at hv;generalize fy m px py=q at *
  have ht:True:=trivial;dsimp only;repeat' (first|with_reducible exact cz|refine aj ht ?_|refine aw ?_|refine an (fun K hK => ?_)|refine aa (hp) ?_|refine aa (hv) ?_|(refine aq hK ?_;try clear hK K))
 case done =>
  intro D W0 hD hB hK;have hbw:b<w1.heap.size:=cm hh;have hcell:W0.heap[b]?=some (.cells cells ty (0,0)):=(hB.block b hbw).trans hh;have hco:∃ u,W0.cell? ⟨b,o,none⟩=some u∧W0.frozen? ⟨b,o,none⟩=false:=by
   have hsz3:o<cells.size:=by simp at hsz2;omega
   exact ⟨cells.getD o undef,cr hcell hsz3,by simp [World.frozen?,hcell]⟩
  obtain ⟨u0,hco,hfr⟩:=hco;refine (wpIn_wide (n:=5)).1 ?_;simp only [SgP]
  gi_wp2
  have hK':=(KeepsOthers.setCell W0 ⟨b,o,none⟩ (.int .i64 0)).same D _ hK rfl;refine ⟨by simp, .inl ⟨_,_,rfl,run_takeDeferred hK', ?_⟩⟩;have hc5:=cell_kept (World.cell?_setCell_same' W0 ⟨b,o,none⟩ (.int .i64 0) (by rw [hco];rfl)) (grownBy_putObj' _ D (.deferred none)) (fun r e=>by cases e;exact ⟨_,hK',rfl⟩);refine ⟨.int .i64 0, ?_, ?_⟩
  ·simp [results,Tryz.f81,go_sem,hc5]
  ·have hDb:w.heap.size≤D:=Nat.le_trans hB1.size hD;have hB2:Below w.heap.size w ((W0.setCell ⟨b,o,none⟩ (.int .i64 0)).putObj D (.deferred none)):=by
    have q1:Below w.heap.size w W0:=hB1.trans (hB.mono hB1.size);refine (q1.setCell (p:=⟨b,o,none⟩) hbn _).grown (grownBy_putObj' _ D (.deferred none)) ?_ (fun k e=>by cases e;exact hDb);have:=q1.size;have:=(KeepsOthers.setCell W0 ⟨b,o,none⟩ (.int .i64 0)).size;omega
   exact ⟨_,rfl,hB2,rfl⟩
end
theorem Ly (m:Image) (mx:Int) (hm:Full mx) (h:GC m mx):aB Sg 81 [ag (aF m),U mx] (fun r=>r = .b (I (fX m mx))):=by
 cases hf:aV m with
 | false=>exact JU m mx hf
 | true =>
  cases hs:m.solid with
  | true=>exact EZ m mx hs hf
  | false =>
   rcases h with h|h|h
   ·rw [Aj h];exact KT m mx hm hs h
   ·rw [hf] at h;cases h
   ·rw [hs] at h;cases h
theorem qP (s:Script) (hs:ScriptLen s) (hT:bJ s=0→Full (aN s.bits)∧∀ m ∈ s.images,GC m (aN s.bits)):aB Sg 41 [ag (ay s)] (fun r=>r = .tup [I (bz s).1,I (bz s).2]):=by
 have h1:=AV s hs;have h2:=kW s hs;have h3:aB Sg 80 [I s.bits] (fun x=>x = .tup [U (aN s.bits),B (decide (s.bits=8∨s.bits=16))]):=gR s.bits;unfold bz;by_cases hf:bJ s=0
 ·obtain ⟨hm,hi⟩:=hT hf;rw [if_neg (by rw [Decidable.not_not];exact hf)];rw [hf] at h1;have ht:True:=trivial;obtain ⟨R,hR⟩:∃ R,(if (gp (aN s.bits) 0 s.images).1≠0 then gp (aN s.bits) 0 s.images else gu s)=R:=⟨_,rfl⟩
  rw [hR];refine az Tryz.func41 [.tmp 2, .tmp 3] ?_;repeat' (first|refine aj ht ?_|refine aw ?_|refine an (fun K hK => ?_)|refine aa (h1) ?_|refine aa (h3) ?_|(refine aq hK ?_;try clear hK K))
  refine aK (X:=Nat) (fun i=>aP [(1, .b (.c (.ptr 0 0))),(5, .b (U (aN s.bits))),(22, .b (.c (.p (qq s.images)))),(23, .b (I s.images.length)),(24, .b (I i))] [(0, .fix ((ay s).map CV.p))] 1) (fun i=>i≤s.images.length∧gp (aN s.bits) 0 s.images=gp (aN s.bits) i (s.images.drop i)) (fun i=>s.images.length - i) 0 ?_ ?_ ?_
  ·exact ⟨Nat.zero_le _,by rw [List.drop_zero]⟩
  ·refine ar [] ?_ ?_;and_intros;all_goals try exact ak
  ·rintro i ⟨hil,hgo⟩;have hlen:=hs.images;rcases Nat.lt_or_ge i s.images.length with h|h
   ·rw [yk h] at hgo;have hmem:s.images.getD i default ∈ s.images:=by
     rw [List.getD_eq_getElem?_getD,List.getElem?_eq_getElem h];exact List.getElem_mem _
    have hv:=Ly (s.images.getD i default) (aN s.bits) hm (hi _ hmem);by_cases h0:fX (s.images.getD i default) (aN s.bits)=0
    ·rw [if_pos h0] at hgo;rw [h0] at hv
     repeat' (first|refine aj ht ?_|refine aw ?_|refine an (fun K hK => ?_)|refine aa (hv) ?_|(refine aH (fun hb => ?_) (fun hb => ?_) <;> try exact ax)|(refine aq hK ?_;try clear hK K))
     rw [ae];refine ao (i+1) ?_ ⟨by omega,hgo⟩ (by omega);refine ar [] ?_ ?_;and_intros;all_goals try exact ak
    ·rw [if_neg h0] at hgo;have g0:(fX (s.images.getD i default) (aN s.bits) != 0)=true:=by rw [bne_iff_ne];exact h0
     have hR2:R=(fX (s.images.getD i default) (aN s.bits),(i:Int)):=by rw [← hR,hgo,if_pos h0]
     rw [hR2]
     repeat' (first|with_reducible exact cz|refine aj g0 ?_|refine aw ?_|refine an (fun K hK => ?_)|refine aa (hv) ?_|(refine aH (fun hb => ?_) (fun hb => ?_) <;> try exact ax)|(refine aq hK ?_;try clear hK K))
   ·have e:s.images.drop i=[]:=List.drop_eq_nil_of_le h;rw [e] at hgo;have hR2:R=gu s:=by rw [← hR,hgo,if_neg (by simp [gp])]
    rw [← hR2] at h2
    repeat' (first|with_reducible exact cz|refine aw ?_|refine an (fun K hK => ?_)|refine aa (h2) ?_|(refine aH (fun hb => ?_) (fun hb => ?_) <;> try exact ax)|(refine aq hK ?_;try clear hK K))
 ·rw [if_pos hf];have g0:(bJ s != 0)=true:=by rw [bne_iff_ne];exact hf
  refine az Tryz.func41 [.tmp 2, .tmp 3] ?_;repeat' (first|with_reducible exact cz|refine aj g0 ?_|refine aw ?_|refine an (fun K hK => ?_)|refine aa (h1) ?_|(refine aq hK ?_;try clear hK K))
end Go.Proofs.YtdjmpacladhijaaGreatDoor
