/- Part of the proof: R7, RP, Y2. -/
import Derived.Test.YtcbifofjjpfbcaaGreatDoorM31
set_option linter.unusedSimpArgs false
set_option linter.unusedVariables false
set_option maxHeartbeats 4000000
set_option maxRecDepth 16000
namespace Go.Proofs.YtcbifofjjpfbcaaGreatDoor
open Go Go.SL
open Go.RowKit (wrap64)
attribute [local go_sem] Nat.add_zero kC KT cH cz Int.toNat_natCast bU
def vP {α:Type} (i:Nat) (q:Nat→α) (z:α):Nat→α:=fun a=>if a<i then q a else z
theorem Hv {α:Type} {i a:Nat} {q:Nat→α} {z:α} (e:a=i):vP (i+1) q z a=q i:=by rw [vP,if_pos (by omega),e]
theorem Ip {α:Type} {i a:Nat} {q:Nat→α} {z:α} (e:¬ a=i):vP (i+1) q z a=vP i q z a:=by
 unfold vP
 by_cases h:a<i
 ·rw [if_pos h,if_pos (by omega)]
 ·rw [if_neg h,if_neg (by omega)]
theorem nU {w:Nat}:∀ a,a<w→∀ j,j<6→(PV.val (([.int .u16 0, .int .u16 0, .int .u16 0, .int .u16 0, .int .u16 0, .int .u16 0]:List Value).getD j undef)).le ((cH tN).getD j .any):=fun a ha j hj=>by
 have hivl:j=0∨j=1∨j=2∨j=3∨j=4∨j=5:=by omega
 rcases hivl with rfl|rfl|rfl|rfl|rfl|rfl <;> exact PV.le_refl _
theorem nv {w:Nat}:∀ a,a<w→∀ j,j<5→(PV.val (([.int .u16 0, .int .u16 0, .int .u16 0, .int .u16 0, .int .u16 0]:List Value).getD j undef)).le ((aW ba).getD j .any):=fun a ha j hj=>by
 have hivl:j=0∨j=1∨j=2∨j=3∨j=4:=by omega
 rcases hivl with rfl|rfl|rfl|rfl|rfl <;> exact PV.le_refl _
theorem lp {bx:Nat→Option Bx} {b k i:Nat} {x y:Bx} (hb:bx b=some x) (hk:bx k=some y):(if i=b then some x else if i=k then some y else bx i)=bx i:=by
 by_cases e0:i=b
 ·rw [if_pos e0,e0];exact hb.symm
 ·rw [if_neg e0]
  by_cases e1:i=k
  ·rw [if_pos e1,e1];exact hk.symm
  ·rw [if_neg e1]
def rW (n w:Nat) (f:Nat→Nat→PV) (t:Fr):Nat→Nat→PV:=fun i j=>if i=n+1 then (KT w t).getD j .any else f i j
def Bz (s:Script) (m:Int) (e:PV):List CV:=[.p (PI s.bits), .p (PI s.canvas.x0), .p (PI s.canvas.y0), .p (PI s.canvas.x1), .p (PI s.canvas.y1), .p (PI s.tileW), .p (PI s.tileH), .p (eZ s.order), .p (vL s.images), .p (qB s.ops), .p (PU m), .p e]
theorem nR {s:Script} {m:Int} {e:PV}:∀ c ∈ Bz s m e,CV.lt 0 c:=fun c hc=>by
 simp only [Bz,List.mem_cons,List.not_mem_nil,or_false] at hc
 rcases hc with rfl|rfl|rfl|rfl|rfl|rfl|rfl|rfl|rfl|rfl|rfl|rfl <;> trivial
theorem Fv (bx : Nat → Option Bx) (nx b k n w N : Nat) (f : Nat → Nat → PV) (s : Script) (m : Int) (e : PV) (o : Op) (t : Fr)
  (hb:bx b=some (.fix (kC s m e (.own k (n+1))))) (hk:bx k=some (.arr 170 14 N f)) (hbn:b<nx) (hkn:k<nx) (hbk:b≠k) (hn:n<N) (hN:N≤1000) (hw0:w≤1000) (hw1:0<w) (hf:MJ w (f n) t) :
  nY Sg bx nx 114 [.c (.ptr b 0),ag (eA o)] (.tup []) (aN b (.fix (kC s m e (.own nx (n+2)))) (aN nx (.arr 170 14 (n+2) (rW n w f (iU o t))) (di k bx))) (nx+1):=by
 have ht:True:=trivial
 have eb:bx=aN b (.fix (kC s m e (.own k (n+1)))) (aN k (.arr 170 14 N f) bx):=by rw [← cR hk];exact cR hb
 have f11:f n 11=PB t.op.knockout:=hf 11 (by decide)
 have f12:f n 12=Hi w t.acc:=hf 12 (by decide)
 have f13:f n 13=ra w t.back:=hf 13 (by decide)
 refine tk Tryz.func114 rfl (rs:=[]) rfl rfl gp (by decide +kernel) (Nat.le_of_ble_eq_true rfl) ?_ (fun kf hkf hbl => ?_)
 ·intro v hv
  simp only [List.mem_cons,List.not_mem_nil,or_false] at hv
  rcases hv with rfl|rfl
  ·exact hbn
  ·exact fun c hc=>by (obtain ⟨x,_,rfl⟩:=List.mem_map.1 hc;trivial)
 have hw:∀ i,nx≤i→bx i=none:=fun i hi=>by
  cases h:bx i with
  | none=>rfl
  | some y=>exact absurd (hbl i y h).1 (by omega)
 rw [eb]
 repeat' (first|with_reducible exact aK|refine ak ht ?_|((first|((with_reducible refine bC (id:=1) [(17,2)] (by decide +kernel) (by decide +kernel) ?_ (fun K hK => ?_));(first|(refine And.intro (fun iw hiw => ?_) ?_;(focus ((try simp (maxSteps:=999999)(disch:=omega) only [go_sem] at hiw ⊢);(repeat (refine Eq.trans (if_neg ?_) ?_;(focus omega)));(first|exact hw iw (by omega)|rfl)));(focus (first|exact Nat.zero_le _|(simp (maxSteps:=999999)(disch:=omega) only [go_sem];done)|(simp (maxSteps:=999999)(disch:=omega) only [go_sem];omega))))|exact cS))|((with_reducible refine ch (id:=1) [(17,2)] (by decide +kernel) (by decide +kernel) ?_ (fun K hK => ?_));(first|(refine And.intro (fun iw hiw => ?_) ?_;(focus ((try simp (maxSteps:=999999)(disch:=omega) only [go_sem] at hiw ⊢);(repeat (refine Eq.trans (if_neg ?_) ?_;(focus omega)));(first|exact hw iw (by omega)|rfl)));(focus (first|exact Nat.zero_le _|(simp (maxSteps:=999999)(disch:=omega) only [go_sem];done)|(simp (maxSteps:=999999)(disch:=omega) only [go_sem];omega))))|exact cS)));(try simp (maxSteps:=999999)(disch:=omega) only [go_sem]);and_intros;(all_goals first|(refine hK _ (by simp (maxSteps:=999999)(disch:=omega) only [go_sem]) ?_;clear hK K)|exact aa|skip))|refine an ?_|((first|refine aj (fun K hK => ?_)|refine aY ?_);and_intros;all_goals first|(refine hK _ ?_;clear hK K)|try exact aa)|((first|apply aC|apply ay);(case hf=>rfl);(case hc=>exact aS);(all_goals first|(intro hb;(try simp only [bZ] at hb))|skip))|exact ao|(refine aH (fun hb => ?_) (fun hb => ?_);all_goals try exact ax)|refine ar (fun KB hB => ?_)|(refine hB _ ?_;clear hB KB)|refine aA (S:=Sg) (by assumption) ?_|(refine ai ?_;(try clear hB KB);(try clear hK K)))
 simp only [f11,f12,f13]
 refine iN (id:=2) (.br 0 (.br 1 (.br 2 (.br 3 (.br 5 (.br 6 (.br 7 (.br 4 (.br 8 (.br 9 (.br 10 (.br 11 .leaf .nil) .nil) .nil) (.br 10 (.br 8 (.br 9 (.br 11 .leaf .nil) .nil) .nil) .nil)) (.br 8 (.br 4 (.br 9 (.br 10 (.br 11 .leaf .nil) .nil) .nil) (.br 10 (.br 4 (.br 9 (.br 11 .leaf .nil) .nil) .nil) .nil)) (.br 10 (.br 4 (.br 8 (.br 9 (.br 11 .leaf .nil) .nil) .nil) (.br 8 (.br 4 (.br 9 (.br 11 .leaf .nil) .nil) .nil) .nil)) .nil))) .nil) .nil) .nil) .nil) .nil) .nil) .nil) (by decide +kernel) (by (first|(refine And.intro (fun iw hiw => ?_) ?_;(focus ((try simp (maxSteps:=999999)(disch:=omega) only [go_sem] at hiw ⊢);(repeat (refine Eq.trans (if_neg ?_) ?_;(focus omega)));(first|exact hw iw (by omega)|rfl)));(focus (first|exact Nat.zero_le _|(simp (maxSteps:=999999)(disch:=omega) only [go_sem];done)|(simp (maxSteps:=999999)(disch:=omega) only [go_sem];omega))))|exact cS)) (fun K0 hW => ?_)
 refine (fun (tl:∀ st,Le st (uV [(0, .b (.c (.ptr b 0))),(3, .b (.c (.ptr nx 0))),(4, .b (.c (.ptr (nx+1) 0))),(5, .b (.c (.ptr (nx+2) 0)))] (Aa nx bx [(nx, .fix ((eA o).map CV.p)),(nx+1, .fix ((KT w t).map CV.p)),(nx+2, .fix ((eA o).map CV.p ++ [.own (nx+3) w, .own (nx+4) w])),(nx+3, .arr 147 6 w (nZ cH fun _=>tN)),(nx+4, .arr 37 5 w (nZ aW fun _=>ba))]) (nx+5) kf)→K0 st) => ?_) (fun st hl=>hW st _ hl ?_)
 ·clear hW
  repeat' (first|exact cE|(refine dA (fun K' hK' => ?_) ?_)|(refine cj (tl _ ?_);clear tl)|(simp (maxSteps:=999999)(disch:=omega) only [go_sem];and_intros;(all_goals first|(refine hK' _ ?_;clear hK' K')|trivial|omega|exact Nat.le_of_ble_eq_true rfl|exact aa|skip)))
  all_goals first|(refine vZ [(0,0),(1,1),(2,4),(3,2),(4,3)] rfl hkf (by omega) (by omega) ?_ ?_ ?_;(focus (intro i x hi hx;refine ⟨(hbl i x hx).2, .inl (Eq.trans ?_ hx)⟩;simp (maxSteps:=999999)(disch:=omega) only [go_sem];refine Eq.trans (if_neg (show ¬ i=nx by omega)) ?_;exact lp hb hk));(focus (simp (maxSteps:=999999)(disch:=omega) only [go_sem];done));(simp (maxSteps:=999999)(disch:=omega) only [go_sem];and_intros;(all_goals first|exact .inl (hf _ (by decide))|omega|exact .inr nU|exact .inr nv)))|(refine vZ [(0,0),(1,1),(2,4),(3,3),(4,2)] rfl hkf (by omega) (by omega) ?_ ?_ ?_;(focus (intro i x hi hx;refine ⟨(hbl i x hx).2, .inl (Eq.trans ?_ hx)⟩;simp (maxSteps:=999999)(disch:=omega) only [go_sem];refine Eq.trans (if_neg (show ¬ i=nx by omega)) ?_;exact lp hb hk));(focus (simp (maxSteps:=999999)(disch:=omega) only [go_sem];done));(simp (maxSteps:=999999)(disch:=omega) only [go_sem];and_intros;(all_goals first|exact .inl (hf _ (by decide))|omega|exact .inr nU|exact .inr nv)))|(refine vZ [(0,0),(1,1),(2,3),(3,2),(4,4)] rfl hkf (by omega) (by omega) ?_ ?_ ?_;(focus (intro i x hi hx;refine ⟨(hbl i x hx).2, .inl (Eq.trans ?_ hx)⟩;simp (maxSteps:=999999)(disch:=omega) only [go_sem];refine Eq.trans (if_neg (show ¬ i=nx by omega)) ?_;exact lp hb hk));(focus (simp (maxSteps:=999999)(disch:=omega) only [go_sem];done));(simp (maxSteps:=999999)(disch:=omega) only [go_sem];and_intros;(all_goals first|exact .inl (hf _ (by decide))|omega|exact .inr nU|exact .inr nv)))|(refine vZ [(0,0),(1,1),(2,3),(3,4),(4,2)] rfl hkf (by omega) (by omega) ?_ ?_ ?_;(focus (intro i x hi hx;refine ⟨(hbl i x hx).2, .inl (Eq.trans ?_ hx)⟩;simp (maxSteps:=999999)(disch:=omega) only [go_sem];refine Eq.trans (if_neg (show ¬ i=nx by omega)) ?_;exact lp hb hk));(focus (simp (maxSteps:=999999)(disch:=omega) only [go_sem];done));(simp (maxSteps:=999999)(disch:=omega) only [go_sem];and_intros;(all_goals first|exact .inl (hf _ (by decide))|omega|exact .inr nU|exact .inr nv)))|(refine vZ [(0,0),(1,1),(2,2),(3,3),(4,4)] rfl hkf (by omega) (by omega) ?_ ?_ ?_;(focus (intro i x hi hx;refine ⟨(hbl i x hx).2, .inl (Eq.trans ?_ hx)⟩;simp (maxSteps:=999999)(disch:=omega) only [go_sem];refine Eq.trans (if_neg (show ¬ i=nx by omega)) ?_;exact lp hb hk));(focus (simp (maxSteps:=999999)(disch:=omega) only [go_sem];done));(simp (maxSteps:=999999)(disch:=omega) only [go_sem];and_intros;(all_goals first|exact .inl (hf _ (by decide))|omega|exact .inr nU|exact .inr nv)))|(refine vZ [(0,0),(1,1),(2,2),(3,4),(4,3)] rfl hkf (by omega) (by omega) ?_ ?_ ?_;(focus (intro i x hi hx;refine ⟨(hbl i x hx).2, .inl (Eq.trans ?_ hx)⟩;simp (maxSteps:=999999)(disch:=omega) only [go_sem];refine Eq.trans (if_neg (show ¬ i=nx by omega)) ?_;exact lp hb hk));(focus (simp (maxSteps:=999999)(disch:=omega) only [go_sem];done));(simp (maxSteps:=999999)(disch:=omega) only [go_sem];and_intros;(all_goals first|exact .inl (hf _ (by decide))|omega|exact .inr nU|exact .inr nv)))
 clear hW
 repeat' (first|with_reducible exact aK|refine an ?_|((with_reducible refine cd (id:=3) (fun K hW => ?_));(try simp (maxSteps:=999999)(disch:=omega) only [go_sem]);and_intros;all_goals first|(refine hK _ ?_;clear hK K)|try exact aa)|((first|refine aj (fun K hK => ?_)|refine aY ?_);and_intros;all_goals first|(refine hK _ ?_;clear hK K)|try exact aa)|((first|apply aC|apply ay);(case hf=>rfl);(case hc=>exact aS);(all_goals first|(intro hb;(try simp only [bZ] at hb))|skip))|exact ao|(refine aH (fun hb => ?_) (fun hb => ?_);all_goals try exact ax)|refine ar (fun KB hB => ?_)|(refine hB _ ?_;clear hB KB)|refine aA (S:=Sg) (by assumption) ?_|(refine ai ?_;(try clear hB KB);(try clear hK K)))
 refine hW _ (uV [(0, .b (.c (.ptr b 0))),(3, .b (.c (.ptr nx 0))),(4, .b (.c (.ptr (nx+1) 0))),(5, .b (.c (.ptr (nx+2) 0))),(31, .b (I w)),(32, .b (I 0))] (Aa nx bx [(nx, .fix ((eA o).map CV.p)),(nx+1, .fix ((KT w t).map CV.p)),(nx+2, .fix ((eA o).map CV.p ++ [.own (nx+3) w, .own (nx+4) w])),(nx+3, .arr 147 6 w (nZ cH fun _=>tN)),(nx+4, .arr 37 5 w (nZ aW fun _=>ba))]) (nx+5) kf) ?_ ?_
 ·clear hW
  refine vZ [(0,0),(1,1),(2,2),(3,3),(4,4)] rfl hkf (by omega) (by omega) ?_ ?_ ?_
  ·exact fun i x hi hx=>⟨(hbl i x hx).2, .inl (by simp (maxSteps:=999999)(disch:=omega) only [go_sem];exact hx)⟩
  ·simp (maxSteps:=999999)(disch:=omega) only [go_sem]
   all_goals (first|exact .inl rfl|skip)
  ·simp (maxSteps:=999999)(disch:=omega) only [go_sem]
   and_intros
   all_goals first|omega|exact .inl rfl|exact .inr (fun _ _ _ _=>PV.le_refl _)
 clear hW
 refine ig fun KB hV => ?_
 have tl:∀ st,Le st (uV [(0, .b (.c (.ptr b 0))),(5, .b (.c (.ptr nx 0)))] (Aa nx (aN b (.fix (kC s m e (.own k (n+1)))) (aN k (.arr 170 14 N f) bx)) [(nx, .fix ((eA o).map CV.p ++ [.p (Hi w (iU o t).acc), .p (ra w (iU o t).back)]))]) (nx+1) kf)→KB st:=fun st hl=>hV st _ hl ?_
 ·refine aM (X:=Nat) (fun i=>uV [(0, .b (.c (.ptr b 0))),(3, .b (.c (.ptr nx 0))),(4, .b (.c (.ptr (nx+1) 0))),(5, .b (.c (.ptr (nx+2) 0))),(31, .b (I w)),(32, .b (I i))] (Aa nx bx [(nx, .fix ((eA o).map CV.p)),(nx+1, .fix ((KT w t).map CV.p)),(nx+2, .fix ((eA o).map CV.p ++ [.own (nx+3) w, .own (nx+4) w])),(nx+3, .arr 147 6 w (nZ cH (vP i (iU o t).acc tN))),(nx+4, .arr 37 5 w (nZ aW (vP i (iU o t).back ba)))]) (nx+5) kf) (fun i=>i≤w) (fun i=>w - i) 0 ?_ ?_ ?_
  ·exact Nat.zero_le _
  ·refine vZ [(0,0),(1,1),(2,2),(3,3),(4,4)] rfl hkf (by omega) (by omega) ?_ ?_ ?_
   ·exact fun i x hi hx=>⟨(hbl i x hx).2, .inl (by simp (maxSteps:=999999)(disch:=omega) only [go_sem];exact hx)⟩
   ·simp (maxSteps:=999999)(disch:=omega) only [go_sem]
    exact .inl rfl
   ·simp (maxSteps:=999999)(disch:=omega) only [go_sem]
    and_intros
    all_goals first|omega|exact .inl rfl|exact .inr (fun _ _ _ _=>PV.le_refl _)
  ·intro i hi
   rcases Nat.lt_or_ge i w with h|h
   ·have g:decide ((i:Int)<w)=true:=decide_eq_true (by omega)
    have hv:=wD o.isolated t.op.knockout (t.acc i) (t.back i)
    repeat' (first|with_reducible exact aK|refine ak g ?_|((first|((with_reducible refine bC (id:=6) [(36,1),(39,1),(42,1),(45,1),(47,1),(50,3),(52,1),(55,3),(60,2),(61,2)] (by decide +kernel) (by decide +kernel) ?_ (fun K hK => ?_));(first|(refine And.intro (fun iw hiw => ?_) ?_;(focus ((try simp (maxSteps:=999999)(disch:=omega) only [go_sem] at hiw ⊢);(repeat (refine Eq.trans (if_neg ?_) ?_;(focus omega)));(first|exact hw iw (by omega)|rfl)));(focus (first|exact Nat.zero_le _|(simp (maxSteps:=999999)(disch:=omega) only [go_sem];done)|(simp (maxSteps:=999999)(disch:=omega) only [go_sem];omega))))|exact cS))|((with_reducible refine ch (id:=6) [(36,1),(39,1),(42,1),(45,1),(47,1),(50,3),(52,1),(55,3),(60,2),(61,2)] (by decide +kernel) (by decide +kernel) ?_ (fun K hK => ?_));(first|(refine And.intro (fun iw hiw => ?_) ?_;(focus ((try simp (maxSteps:=999999)(disch:=omega) only [go_sem] at hiw ⊢);(repeat (refine Eq.trans (if_neg ?_) ?_;(focus omega)));(first|exact hw iw (by omega)|rfl)));(focus (first|exact Nat.zero_le _|(simp (maxSteps:=999999)(disch:=omega) only [go_sem];done)|(simp (maxSteps:=999999)(disch:=omega) only [go_sem];omega))))|exact cS)));(try simp (maxSteps:=999999)(disch:=omega) only [go_sem]);and_intros;(all_goals first|(refine hK _ (by simp (maxSteps:=999999)(disch:=omega) only [go_sem]) ?_;clear hK K)|exact aa|skip))|refine an ?_|((first|refine aj (fun K hK => ?_)|refine aY ?_|refine ae (hv) ?_|refine aq (fun hg=>hv) ?_);and_intros;all_goals first|(refine hK _ ?_;clear hK K)|try exact aa)|((first|apply aC|apply ay);(case hf=>rfl);(case hc=>exact aS);(all_goals first|(intro hb;(try simp only [bZ] at hb))|skip))|exact ao|(refine aH (fun hb => ?_) (fun hb => ?_);all_goals try exact ax)|refine ar (fun KB hB => ?_)|(refine hB _ ?_;clear hB KB)|refine aA (S:=Sg) (by assumption) ?_|(refine ai ?_;(try clear hB KB);(try clear hK K)))
    refine hK _ (by simp (maxSteps:=999999)(disch:=omega) only [go_sem]) ?_
    clear hK
    repeat' (first|with_reducible exact aK|refine ak g ?_|refine an ?_|((first|refine aj (fun K hK => ?_)|refine aY ?_);and_intros;all_goals first|(refine hK _ ?_;clear hK K)|try exact aa)|((first|apply aC|apply ay);(case hf=>rfl);(case hc=>exact aS);(all_goals first|(intro hb;(try simp only [bZ] at hb))|skip))|exact ao|(refine aH (fun hb => ?_) (fun hb => ?_);all_goals try exact ax)|refine ar (fun KB hB => ?_)|(refine hB _ ?_;clear hB KB)|refine aA (S:=Sg) (by assumption) ?_|(refine ai ?_;(try clear hB KB);(try clear hK K)))
    rw [ah]
    refine au (i+1) ?_ (by omega) (by omega)
    refine vZ [(0,0),(1,1),(2,2),(3,3),(4,4)] rfl hkf (by omega) (by omega) ?_ ?_ ?_
    ·exact fun i x hi hx=>⟨(hbl i x hx).2, .inl (by simp (maxSteps:=999999)(disch:=omega) only [go_sem];exact hx)⟩
    ·simp (maxSteps:=999999)(disch:=omega) only [go_sem]
     exact .inl rfl
    ·simp (maxSteps:=999999)(disch:=omega) only [go_sem]
     and_intros
     all_goals first|omega|exact .inl rfl|skip
     ·refine .inr fun a ha j hj => ?_
      by_cases e1:a=i
      ·rw [Hv e1]
       simp only [if_pos e1]
       rw [if_pos ⟨Nat.zero_le _,hj⟩]
       have hivl:j=0∨j=1∨j=2∨j=3∨j=4∨j=5:=by omega
       rcases hivl with rfl|rfl|rfl|rfl|rfl|rfl <;> exact PV.le_refl _
      ·rw [Ip e1]
       simp only [if_neg e1]
       exact PV.le_refl _
     ·refine .inr fun a ha j hj => ?_
      by_cases e1:a=i
      ·rw [Hv e1]
       simp only [if_pos e1]
       rw [if_pos ⟨Nat.zero_le _,hj⟩]
       have hivl:j=0∨j=1∨j=2∨j=3∨j=4:=by omega
       rcases hivl with rfl|rfl|rfl|rfl|rfl <;> exact PV.le_refl _
      ·rw [Ip e1]
       simp only [if_neg e1]
       exact PV.le_refl _
   ·have g:decide ((i:Int)<w)=false:=decide_eq_false (by omega)
    obtain rfl:i=w:=by omega
    repeat' (first|with_reducible exact aK|refine ak g ?_|refine an ?_|((first|refine aj (fun K hK => ?_)|refine aY ?_);and_intros;all_goals first|(refine hK _ ?_;clear hK K)|try exact aa)|((first|apply aC|apply ay);(case hf=>rfl);(case hc=>exact aS);(all_goals first|(intro hb;(try simp only [bZ] at hb))|skip))|exact ao|(refine aH (fun hb => ?_) (fun hb => ?_);all_goals try exact ax)|refine ar (fun KB hB => ?_)|(refine hB _ ?_;clear hB KB)|refine aA (S:=Sg) (by assumption) ?_|(refine ai ?_;(try clear hB KB);(try clear hK K)))
    refine tl _ ?_
    rw [← eb]
    refine vZ [(0,2)] rfl hkf (by omega) (by omega) ?_ ?_ ?_
    ·exact fun i x hi hx=>⟨(hbl i x hx).2, .inl (by simp (maxSteps:=999999)(disch:=omega) only [go_sem];exact hx)⟩
    ·simp (maxSteps:=999999)(disch:=omega) only [go_sem]
     exact Nat.lt_succ_self _
    ·simp (maxSteps:=999999)(disch:=omega) only [go_sem]
     and_intros
     all_goals first|omega|exact .inl rfl|skip
     ·refine DC (e:=147) (m:=i) (f:=nZ cH (vP i (iU o t).acc tN)) (by simp (maxSteps:=999999)(disch:=omega) only [go_sem]) (Nat.le_refl _) (fun a ha j hj => ?_) (Eb (c:=3) (ids:=[(0,2)]) rfl rfl)
      unfold nZ vP
      rw [if_pos ha]
      exact PV.le_refl _
     ·refine DC (e:=37) (m:=i) (f:=nZ aW (vP i (iU o t).back ba)) (by simp (maxSteps:=999999)(disch:=omega) only [go_sem]) (Nat.le_refl _) (fun a ha j hj => ?_) (Eb (c:=4) (ids:=[(0,2)]) rfl rfl)
      unfold nZ vP
      rw [if_pos ha]
      exact PV.le_refl _
 clear hV
 refine pD (id:=8) (.br 0 (.br 1 (.br 2 (.br 3 (.br 4 (.br 5 (.br 6 (.br 7 (.br 8 (.br 9 (.br 10 .leaf .nil) .nil) .nil) .nil) .nil) .nil) .nil) .nil) .nil) .nil) .nil) (by decide +kernel) ?_ (fun K0 hW => ?_)
 ·refine ⟨fun iw hiw => ?_,Nat.zero_le _⟩
  have hiw:nx+1≤iw:=hiw
  show Aa nx _ _ iw=none
  unfold Aa
  rw [if_neg (by omega),js,if_neg (by omega)]
  rfl
 replace hW:=lQ hW
 repeat' (first|exact cE|(refine dA (fun K' hK' => ?_) ?_)|(refine cj (hW _ ?_);clear hW)|(simp (maxSteps:=999999)(disch:=omega) only [go_sem];and_intros;(all_goals first|(refine hK' _ ?_;clear hK' K')|trivial|omega|exact Nat.le_of_ble_eq_true rfl|exact aa|skip)))
 refine ji ?_
 refine ⟨_,Iu (l:=[]) (b:=b) (q:=nx+1+1) (n:=n+2) (T:=170) (sz:=14) (N:=n+2) (cs:=Bz s m e) (f := ?ff) (f':=rW n w f (iU o t)) (base:=di k (aN b (.fix (kC s m e (.own k (n+1)))) (aN k (.arr 170 14 N f) bx))) rfl hkf hbn (by omega) nR ?h1 ?h2 (.inr ?h3) ?h4 trivial,trivial,rfl,fun i y h=>h,rfl,rfl,fun v hv=>by cases hv⟩
 case h1=>(first|(simp (maxSteps:=999999)(disch:=omega) only [go_sem];done)|(simp (maxSteps:=999999)(disch:=omega) only [go_sem];rfl))
 case h2=>(first|(simp (maxSteps:=999999)(disch:=omega) only [go_sem];done)|(simp (maxSteps:=999999)(disch:=omega) only [go_sem];rfl))
 case h3 =>
  intro a ha j hj
  unfold gh rW
  by_cases e1:a=n+1
  ·rw [if_neg (by omega),if_pos e1,e1,Nat.sub_self]
   have hivl:j=0∨j=1∨j=2∨j=3∨j=4∨j=5∨j=6∨j=7∨j=8∨j=9∨j=10∨j=11∨j=12∨j=13:=by omega
   rcases hivl with rfl|rfl|rfl|rfl|rfl|rfl|rfl|rfl|rfl|rfl|rfl|rfl|rfl|rfl <;> exact PV.le_refl _
  ·rw [if_pos (by omega),if_neg e1]
   exact PV.le_refl _
 case h4 =>
  intro i x e1 hx
  have hx:di k bx i=some x:=by rw [← eb] at hx;exact hx
  unfold di at hx
  split at hx
  ·cases hx
  rename_i e2
  obtain ⟨q1,q2⟩:=hbl i x hx
  refine ⟨q1,q2, ?_⟩
  simp (maxSteps:=999999)(disch:=omega) only [go_sem]
  exact hx
end Go.Proofs.YtcbifofjjpfbcaaGreatDoor
set_option maxHeartbeats 1000000
namespace Go.Proofs.YtcbifofjjpfbcaaGreatDoor
def Hj (s:Script) (r:Rect) (q:Nat):Pixel:=dH s (r.x0+((q % (r.x1 - r.x0).toNat:Nat):Int)) (r.y0+((q / (r.x1 - r.x0).toNat:Nat):Int))
def gE (s:Script) (r:Rect) (n:Nat):List Pixel:=(List.range n).map (Hj s r)
theorem wi {s:Script} {n:Nat}:jg s n=gE s s.canvas n:=rfl
theorem mS {s:Script} {r:Rect} {n:Nat}:(gE s r n).length=n:=by simp [gE]
theorem pI {s:Script} {r:Rect} {n i:Nat} (h:i<n):(gE s r n).getD i default=Hj s r i:=by
 simp [gE,List.getD_eq_getElem?_getD,h]
theorem yf {s:Script} {r:Rect} {W a k:Nat} (hW:(W:Int)=r.x1 - r.x0) (hk:k<W):Hj s r (a * W+k)=dH s (r.x0+(k:Nat)) (r.y0+(a:Nat)):=by
 have eW:(r.x1 - r.x0).toNat=W:=by omega
 have e1:(a * W+k) % W=k:=by rw [Nat.mul_comm,Nat.mul_add_mod];exact Nat.mod_eq_of_lt hk
 have e2:(a * W+k) / W=a:=by rw [Nat.mul_comm,Nat.mul_add_div (by omega),Nat.div_eq_of_lt hk];omega
 unfold Hj
 rw [eW,e1,e2]
structure InR (t c:Rect):Prop where
 x0:c.x0≤t.x0
 x1:t.x1≤c.x1
 y0:c.y0≤t.y0
 y1:t.y1≤c.y1
 w:t.x0<t.x1
 h:t.y0<t.y1
theorem InR.pt {t c:Rect} (h:InR t c) {x y:Int} (hx:iO t x y):iO c x y:=by
 obtain ⟨h1,h2,h3,h4,h5,h6⟩:=h
 unfold iO at hx ⊢
 omega
theorem InR.empty {t c:Rect} (h:InR t c) (hc:Small c):aU t=false:=by
 obtain ⟨h1,h2,h3,h4,h5,h6⟩:=h
 obtain ⟨x0,x1,y0,y1,hW,hH⟩:=hc
 simp only [aU,kI,Bool.or_eq_false_iff,Bool.not_eq_false',decide_eq_true_eq,decide_eq_false_iff_not]
 omega
theorem DQ {r:Rect} {w h i:Int} (hc:Small r) (ho:TileOk r w h) (hi:0≤i∧i<aX r w h * bz r w h):InR (mr r w h (aX r w h) i) r∧(mr r w h (aX r w h) i).x1 - (mr r w h (aX r w h) i).x0≤w:=by
 obtain ⟨htx,hty⟩:=nM hc ho
 have hok:=lj hc ho
 obtain ⟨x0,x1,y0,y1,hW,hH⟩:=hc
 obtain ⟨hw,hh⟩:=ho
 obtain ⟨⟨b1,b2⟩,⟨b3,b4⟩,⟨b5,b6⟩,b7,b8⟩:=vN (w:=w) (h:=h) htx hty hi (by omega) (by omega)
 have ex:aX r w h=(r.x1 - r.x0 - 1) / w+1:=by unfold aX;rw [if_pos hok]
 have ey:bz r w h=(r.y1 - r.y0 - 1) / h+1:=by unfold bz;rw [if_pos hok]
 have c1:i % aX r w h * w≤(r.x1 - r.x0 - 1) / w * w:=Int.mul_le_mul_of_nonneg_right (by omega) (by omega)
 have c2:(r.x1 - r.x0 - 1) / w * w≤r.x1 - r.x0 - 1:=Int.ediv_mul_le _ (by omega)
 have c3:i / aX r w h * h≤(r.y1 - r.y0 - 1) / h * h:=Int.mul_le_mul_of_nonneg_right (by omega) (by omega)
 have c4:(r.y1 - r.y0 - 1) / h * h≤r.y1 - r.y0 - 1:=Int.ediv_mul_le _ (by omega)
 unfold mr
 generalize i % aX r w h * w=u at *
 generalize i / aX r w h * h=v at *
 refine ⟨⟨?_, ?_, ?_, ?_, ?_, ?_⟩, ?_⟩ <;> dsimp only <;> (try split) <;> omega
theorem Kv {r:Rect} {w h x y:Int} (hc:Small r) (ho:TileOk r w h) (hxy:iO r x y):∃ k,(0≤k∧k<aX r w h * bz r w h)∧iO (mr r w h (aX r w h) k) x y:=by
 have hok:=lj hc ho
 obtain ⟨x0,x1,y0,y1,hW,hH⟩:=hc
 obtain ⟨hw,hh⟩:=ho
 obtain ⟨p1,p2,p3,p4⟩:=hxy
 have ex:aX r w h=(r.x1 - r.x0 - 1) / w+1:=by unfold aX;rw [if_pos hok]
 have ey:bz r w h=(r.y1 - r.y0 - 1) / h+1:=by unfold bz;rw [if_pos hok]
 have a0:0≤(x - r.x0) / w:=Int.ediv_nonneg (by omega) (by omega)
 have a1:(x - r.x0) / w≤(r.x1 - r.x0 - 1) / w:=Int.ediv_le_ediv (by omega) (by omega)
 have a2:=Int.mul_ediv_add_emod (x - r.x0) w
 have a3:=Int.emod_nonneg (x - r.x0) (show w≠0 by omega)
 have a4:=Int.emod_lt_of_pos (x - r.x0) (show 0<w by omega)
 have d0:0≤(y - r.y0) / h:=Int.ediv_nonneg (by omega) (by omega)
 have d1:(y - r.y0) / h≤(r.y1 - r.y0 - 1) / h:=Int.ediv_le_ediv (by omega) (by omega)
 have d2:=Int.mul_ediv_add_emod (y - r.y0) h
 have d3:=Int.emod_nonneg (y - r.y0) (show h≠0 by omega)
 have d4:=Int.emod_lt_of_pos (y - r.y0) (show 0<h by omega)
 rw [Int.mul_comm] at a2 d2
 have hnx:0<aX r w h:=by
  have:0≤(r.x1 - r.x0 - 1) / w:=Int.ediv_nonneg (by omega) (by omega)
  omega
 generalize (x - r.x0) / w=a at *
 generalize (y - r.y0) / h=b at *
 have e1:(a+b * aX r w h) / aX r w h=b:=by
  rw [Int.add_mul_ediv_right _ _ (by omega),Int.ediv_eq_zero_of_lt (by omega) (by omega)];omega
 have e2:(a+b * aX r w h) % aX r w h=a:=by
  rw [Int.add_mul_emod_self_right,Int.emod_eq_of_lt (by omega) (by omega)]
 have e3:b * aX r w h≤(bz r w h - 1) * aX r w h:=Int.mul_le_mul_of_nonneg_right (by omega) (by omega)
 have e4:(bz r w h - 1) * aX r w h=aX r w h * bz r w h - aX r w h:=by rw [Int.sub_mul,Int.one_mul,Int.mul_comm]
 have e5:0≤b * aX r w h:=Int.mul_nonneg d0 (by omega)
 refine ⟨a+b * aX r w h,⟨by omega,by omega⟩, ?_⟩
 unfold mr iO
 rw [e1,e2]
 dsimp only
 refine ⟨by omega, ?_,by omega, ?_⟩ <;> split <;> omega
theorem EM {l:List Int} {n:Int} (h:dt l n=true) {k:Int} (hk:0≤k∧k<n):k ∈ cZ l n:=by
 unfold dt at h
 rw [Bool.and_eq_true,decide_eq_true_eq,List.all_eq_true] at h
 obtain ⟨⟨h0,h1,h2⟩,h3⟩:=h
 have hlen:=iH (l:=l) (n:=n) h0 h2
 generalize cZ l n=L at *
 have key:∀ i,(hi:i<L.length)→(0≤L[i]∧L[i]<n)∧L[i] ∉ L.take i:=fun i hi=>by
  have:=h3 i (List.mem_range.2 (by omega))
  unfold ke at this
  rw [List.getD_eq_getElem?_getD,List.getElem?_eq_getElem hi,Bool.and_eq_true,decide_eq_true_eq] at this
  refine ⟨this.1,fun q => ?_⟩
  have q2:(L.take i).contains L[i]=true:=List.contains_iff_mem.2 q
  have q3:=this.2
  rw [Option.getD_some,q2] at q3
  cases q3
 have nd:L.Nodup:=by
  rw [List.Nodup,List.pairwise_iff_getElem]
  intro i j hi hj hij e
  refine (key j hj).2 ?_
  rw [← e]
  exact List.mem_take_iff_getElem.2 ⟨i,by omega,rfl⟩
 refine Decidable.byContradiction fun hn => ?_
 have nd2:(k :: L).Nodup:=List.nodup_cons.2 ⟨hn,nd⟩
 have hsub:(k :: L) ⊆ kB n.toNat:=fun v hv=>by
  have hv:0≤v∧v<n:=by
   rcases List.mem_cons.1 hv with e|e
   ·rw [e];exact hk
   ·obtain ⟨i,hi,rfl⟩:=List.mem_iff_getElem.1 e
    exact (key i hi).1
  unfold kB
  exact List.mem_map.2 ⟨v.toNat,List.mem_range.2 (by omega),by omega⟩
 have:=List.Nodup.length_le_of_subset nd2 hsub
 rw [gL,List.length_cons] at this
 omega
theorem mW {s:Script} (h:bD s=0):(1≤s.tileW∧s.tileW≤s.canvas.x1 - s.canvas.x0)∧(1≤s.tileH∧s.tileH≤s.canvas.y1 - s.canvas.y0)∧dt s.order (aX s.canvas s.tileW s.tileH * bz s.canvas s.tileW s.tileH)=true:=by
 unfold bD at h
 split at h
 ·cases h
 split at h
 ·cases h
 split at h
 ·cases h
 rename_i h3
 split at h
 ·cases h
 rename_i h4
 have h3:bP s.canvas s.tileW s.tileH=true:=by simpa using h3
 unfold bP at h3
 rw [Bool.and_eq_true,decide_eq_true_eq] at h3
 exact ⟨⟨h3.2.1,h3.2.2.2.1⟩,⟨h3.2.2.1,h3.2.2.2.2⟩,by simpa using h4⟩
def dN (s:Script):Int:=aX s.canvas s.tileW s.tileH * bz s.canvas s.tileW s.tileH
def qm (s:Script) (i:Int):Rect:=mr s.canvas s.tileW s.tileH (aX s.canvas s.tileW s.tileH) i
def cU (s:Script):List Rect:=(cZ s.order (dN s)).map (qm s)
structure FrOk (s:Script):Prop where
 c:Small s.canvas
 f:bD s=0
theorem FrOk.t {s:Script} (h:FrOk s):TileOk s.canvas s.tileW s.tileH:=⟨(mW h.f).1,(mW h.f).2.1⟩
theorem FrOk.o {s:Script} (h:FrOk s):dt s.order (dN s)=true:=(mW h.f).2.2
theorem Cq {l:List Int} {n:Int} (h:dt l n=true) {k:Int} (hk:k ∈ cZ l n):0≤k∧k<n:=by
 unfold dt at h
 rw [Bool.and_eq_true,decide_eq_true_eq,List.all_eq_true] at h
 obtain ⟨⟨h0,h1,h2⟩,h3⟩:=h
 have hlen:=iH (l:=l) (n:=n) h0 h2
 obtain ⟨i,hi,rfl⟩:=List.mem_iff_getElem.1 hk
 have:=h3 i (List.mem_range.2 (by omega))
 unfold ke at this
 rw [List.getD_eq_getElem?_getD,List.getElem?_eq_getElem hi,Bool.and_eq_true,decide_eq_true_eq] at this
 exact this.1
theorem FrOk.n {s:Script} (h:FrOk s):1≤dN s∧dN s≤20:=by
 obtain ⟨⟨a,b⟩,c,d⟩:=nM h.c h.t
 unfold dN
 have:=Int.mul_le_mul b d (by omega) (by decide:(0:Int)≤5)
 have:=Int.mul_le_mul a c (by omega) (by omega)
 omega
theorem FrOk.len {s:Script} (h:FrOk s):((cU s).length:Int)=dN s∧((cZ s.order (dN s)).length:Int)=dN s:=by
 have hn:=h.n
 have ho:=h.o
 unfold dt at ho
 rw [Bool.and_eq_true,decide_eq_true_eq] at ho
 have hlen:=iH (l:=s.order) (n:=dN s) ho.1.1 ho.1.2.2
 refine ⟨?_,by omega⟩
 unfold cU
 rw [List.length_map];omega
theorem FrOk.tile {s:Script} (h:FrOk s) {i:Nat} (hi:i<(cZ s.order (dN s)).length):(0≤(cZ s.order (dN s)).getD i 0∧(cZ s.order (dN s)).getD i 0<dN s)∧(cU s).getD i default=qm s ((cZ s.order (dN s)).getD i 0)∧InR (qm s ((cZ s.order (dN s)).getD i 0)) s.canvas:=by
 have hm:(cZ s.order (dN s)).getD i 0 ∈ cZ s.order (dN s):=by
  rw [List.getD_eq_getElem?_getD,List.getElem?_eq_getElem hi];exact List.getElem_mem _
 have hk:=Cq h.o hm
 refine ⟨hk, ?_,(DQ h.c h.t hk).1⟩
 unfold cU
 simp [List.getD_eq_getElem?_getD,hi]
theorem FrOk.mem {s:Script} (h:FrOk s) {t:Rect} (ht:t ∈ cU s):InR t s.canvas:=by
 unfold cU at ht
 obtain ⟨k,hk,rfl⟩:=List.mem_map.1 ht
 exact (DQ h.c h.t (Cq h.o hk)).1
theorem FrOk.has {s:Script} (h:FrOk s) {x y:Int} (hxy:iO s.canvas x y):∃ t ∈ cU s,iO t x y:=by
 obtain ⟨k,hk,hin⟩:=Kv h.c h.t hxy
 exact ⟨_,List.mem_map.2 ⟨k,EM h.o hk,rfl⟩,hin⟩
def ve (r:Rect) (x y:Int):Bool:=decide (r.x0≤x∧x<r.x1∧r.y0≤y∧y<r.y1)
def vW (s:Script) (q:Nat):Int:=s.canvas.x0+((q % (s.canvas.x1 - s.canvas.x0).toNat:Nat):Int)
def nb (s:Script) (q:Nat):Int:=s.canvas.y0+((q / (s.canvas.x1 - s.canvas.x0).toNat:Nat):Int)
def nc (s:Script) (L:List Rect) (q:Nat):Bool:=L.any fun t=>ve t (vW s q) (nb s q)
def pC (s:Script) (L:List Rect) (r:Rect) (y:Int) (q:Nat):Pixel:=if nc s L q=true∨(ve r (vW s q) (nb s q)=true∧nb s q<y) then PF s q else ba
def po (s:Script) (L:List Rect) (q:Nat):Pixel:=if nc s L q=true then PF s q else ba
theorem DG {s:Script} {L:List Rect} {r:Rect}:pC s L r r.y0=po s L:=by
 funext q
 unfold pC po
 by_cases h:nc s L q=true
 ·rw [if_pos (.inl h),if_pos h]
 ·rw [if_neg h,if_neg]
  rintro (h1|⟨h1,h2⟩)
  ·exact h h1
  ·unfold ve at h1
   rw [decide_eq_true_eq] at h1
   omega
theorem KH {s:Script} {L:List Rect} {r:Rect}:pC s L r r.y1=po s (L ++ [r]):=by
 funext q
 have e:(nc s L q=true∨(ve r (vW s q) (nb s q)=true∧nb s q<r.y1))↔nc s (L ++ [r]) q=true:=by
  unfold nc
  rw [List.any_append,Bool.or_eq_true,List.any_cons,List.any_nil,Bool.or_false]
  refine or_congr Iff.rfl ⟨fun h=>h.1,fun h=>⟨h, ?_⟩⟩
  unfold ve at h
  rw [decide_eq_true_eq] at h
  omega
 unfold pC po
 by_cases h:nc s (L ++ [r]) q=true
 ·rw [if_pos h,if_pos (e.2 h)]
 ·rw [if_neg h,if_neg (fun q=>h (e.1 q))]
theorem Kt {s:Script} (h:FrOk s) {q:Nat} (hq:(q:Int)<(s.canvas.x1 - s.canvas.x0) * (s.canvas.y1 - s.canvas.y0)):po s (cU s) q=PF s q:=by
 obtain ⟨x0,x1,y0,y1,hw,hh⟩:=h.c
 have e:(((s.canvas.x1 - s.canvas.x0).toNat:Nat):Int)=s.canvas.x1 - s.canvas.x0:=by omega
 have b1:q % (s.canvas.x1 - s.canvas.x0).toNat<(s.canvas.x1 - s.canvas.x0).toNat:=Nat.mod_lt _ (by omega)
 have b2:q / (s.canvas.x1 - s.canvas.x0).toNat<(s.canvas.y1 - s.canvas.y0).toNat:=by
  refine Nat.div_lt_of_lt_mul ?_
  have:((s.canvas.x1 - s.canvas.x0).toNat * (s.canvas.y1 - s.canvas.y0).toNat:Nat)=((s.canvas.x1 - s.canvas.x0) * (s.canvas.y1 - s.canvas.y0)):=by
   rw [Int.natCast_mul,e,show (((s.canvas.y1 - s.canvas.y0).toNat:Nat):Int)=s.canvas.y1 - s.canvas.y0 by omega]
  omega
 have hin:iO s.canvas (vW s q) (nb s q):=by
  unfold iO vW nb
  generalize q % (s.canvas.x1 - s.canvas.x0).toNat=a at *
  generalize q / (s.canvas.x1 - s.canvas.x0).toNat=b at *
  omega
 obtain ⟨t,ht,hxy⟩:=h.has hin
 unfold po
 rw [if_pos]
 unfold nc
 rw [List.any_eq_true]
 refine ⟨t,ht, ?_⟩
 unfold ve
 exact decide_eq_true hxy
theorem HK {s : Script} {L : List Rect} {r : Rect} {W a lo n : Nat} {y : Int} (hi : InR r s.canvas) (hW : (W : Int) = s.canvas.x1 - s.canvas.x0) (hy : r.y0 ≤ y ∧ y < r.y1) (ha : (a : Int) = y - s.canvas.y0) (hlo : (lo : Int) = a * W + r.x0 - s.canvas.x0) (hn : (n : Int) = r.x1 - r.x0) (q : Nat) :
  pC s L r (y+1) q=if lo≤q∧q<lo+n then PF s q else pC s L r y q:=by
 obtain ⟨h1,h2,h3,h4,h5,h6⟩:=hi
 have eW:(s.canvas.x1 - s.canvas.x0).toNat=W:=by omega
 have hWp:0<W:=by omega
 have hd:=Nat.div_add_mod q W
 have hm:=Nat.mod_lt q hWp
 have hlo':((a * W:Nat):Int)=a * W:=Int.natCast_mul ..
 have key:(lo≤q∧q<lo+n)↔(ve r (vW s q) (nb s q)=true∧nb s q=y):=by
  unfold ve vW nb
  rw [eW,decide_eq_true_eq]
  constructor
  ·intro ⟨k1,k2⟩
   have k3:a * W≤q:=by omega
   have k4:q<(a+1) * W:=by rw [Nat.succ_mul];omega
   have k5:q / W=a:=by
    have q1:a≤q / W:=(Nat.le_div_iff_mul_le hWp).2 k3
    have q2:q / W<a+1:=(Nat.div_lt_iff_lt_mul hWp).2 k4
    omega
   rw [k5] at hd ⊢
   rw [Nat.mul_comm] at hd
   omega
  ·intro ⟨k1,k2⟩
   have k5:q / W=a:=by omega
   rw [k5,Nat.mul_comm] at hd
   omega
 unfold pC
 by_cases hq:lo≤q∧q<lo+n
 ·have h:=key.1 hq
  rw [if_pos hq,if_pos (.inr ⟨h.1,by omega⟩)]
 ·rw [if_neg hq]
  have:(nc s L q=true∨(ve r (vW s q) (nb s q)=true∧nb s q<y+1))↔(nc s L q=true∨(ve r (vW s q) (nb s q)=true∧nb s q<y)):=by
   refine or_congr Iff.rfl ⟨fun ⟨p1,p2⟩=>⟨p1, ?_⟩,fun ⟨p1,p2⟩=>⟨p1,by omega⟩⟩
   have:¬ nb s q=y:=fun e=>hq (key.2 ⟨p1,e⟩)
   omega
  by_cases hp:(nc s L q=true∨(ve r (vW s q) (nb s q)=true∧nb s q<y))
  ·rw [if_pos hp,if_pos (this.2 hp)]
  ·rw [if_neg hp,if_neg (fun q=>hp (this.1 q))]
theorem HC {s : Script} {r : Rect} {W a b lo n k : Nat} {y : Int} (hi : InR r s.canvas) (hW : (W : Int) = s.canvas.x1 - s.canvas.x0) (hy : r.y0 ≤ y ∧ y < r.y1) (ha : (a : Int) = y - s.canvas.y0) (hb : (b : Int) = y - r.y0) (hlo : (lo : Int) = a * W + r.x0 - s.canvas.x0) (hn : (n : Int) = r.x1 - r.x0) (hk : k < n) :
  Hj s r (b * n+k)=PF s (lo+k):=by
 obtain ⟨h1,h2,h3,h4,h5,h6⟩:=hi
 have hlo':((a * W:Nat):Int)=a * W:=Int.natCast_mul ..
 have e1:=yf (s:=s) (r:=r) (a:=b) hn hk
 have e2:=yf (s:=s) (r:=s.canvas) (a:=a) (k:=(r.x0 - s.canvas.x0).toNat+k) hW (by omega)
 have e3:lo+k=a * W+((r.x0 - s.canvas.x0).toNat+k):=by omega
 rw [e1,e3]
 show _=Hj s s.canvas _
 rw [e2]
 have p1:r.x0+(k:Int)=s.canvas.x0+(((r.x0 - s.canvas.x0).toNat+k:Nat):Int):=by omega
 have p2:r.y0+(b:Int)=s.canvas.y0+(a:Int):=by omega
 rw [p1,p2]
def lg (s:Script):Image:=if (bQ s).1=0 then eL s else jY
theorem EvOk.zero {s:Script} (E:EvOk s) (h:(bQ s).1=0):bD s=0∧VOps s∧na s∧Full (bA s.bits):=by
 have hf:bD s=0:=by
  refine Decidable.byContradiction fun hf => ?_
  unfold bQ at h
  rw [if_pos hf] at h
  exact hf h
 obtain ⟨a,b,c,d⟩:=rQ (E.im hf) h
 exact ⟨a,b,c,ij a⟩
theorem EvOk.ptz {s:Script} (E:EvOk s) (h:(bQ s).1=0) {x y:Int} (hx:iO s.canvas x y):Pt s (bA s.bits) x y:=by
 obtain ⟨a,b,c,d⟩:=E.zero h
 exact ⟨b,d,rfl,c,E.op,(oI a).2,hx⟩
end Go.Proofs.YtcbifofjjpfbcaaGreatDoor
set_option maxHeartbeats 4000000
set_option maxRecDepth 16000
namespace Go.Proofs.YtcbifofjjpfbcaaGreatDoor
open Go Go.SL Go.RowKit Go.Shelf
open Go.RowKit (wrap64)
attribute [local go_sem] Oper.semAt_some
theorem RN {g n:Nat} {sz sz':Nat→Nat} {f f':Nat→Nat→PV} (h:∀ i,i<n→sz i=sz' i∧∀ j,j<sz i→PV.le (f i j) (f' i j)):PV.le (.fn g n sz f) (.fn g n sz' f'):=fun _ _ u ⟨vs,e,hs,hb⟩=>by
 refine ⟨vs,e,hs,fun i hi => ?_⟩
 obtain ⟨b,o,h1,h2,h3⟩:=hb i hi
 obtain ⟨q1,q2⟩:=h i hi
 refine ⟨b,o,h1,h2,fun j hj => ?_⟩
 rw [← q1] at hj
 obtain ⟨x,x1,x2,x3⟩:=h3 j hj
 exact ⟨x,x1,x2,q2 j hj _ _ _ x3⟩
def RJ (w h:Int):PV := .fn 150 2 (fun _=>1) (fun i _=>if i=0 then PI h else PI w)
theorem Cv (w h:Int):aF Sg 109 [I w,I h] (fun x=>x = .b (.c (.p (RJ w h)))):=by
 refine fV ?_
 refine IR Tryz.func109 rfl (rs:=[.tmp 4]) rfl rfl gp (by decide +kernel) (Nat.le_of_ble_eq_true rfl) (cG (by simp (maxSteps:=999999)(disch:=omega) only [go_sem])) ?_
 repeat' (first|(refine aj (fun K hK => ?_);and_intros;all_goals first|(refine hK _ ?_;clear hK K)|try exact aa)|(refine ai ?_;(try clear hB KB);(try clear hK K)))
 simp only [Option.isSome_some,if_true,CV.lt,true_and]
 refine Ey (oi (RN fun i hi => ?_))
 have h0:i=0∨i=1:=by omega
 rcases h0 with rfl|rfl
 ·refine ⟨rfl,fun j hj => ?_⟩
  have h0:j=0:=by have:j<1:=hj;omega
  subst h0
  exact fun _ _ _ h=>h
 ·refine ⟨rfl,fun j hj => ?_⟩
  have h0:j=0:=by have:j<1:=hj;omega
  subst h0
  exact fun _ _ _ h=>h
theorem yI (m:Image) (mx:Int) (hs:m.solid=true) (hf:bp m=true):aF Sg 69 [ag (bl m),U mx] (fun r=>r = .b (I (dJ m mx))):=by
 have h1:=oF m
 have h2:=jv m.color mx
 have hfit:cl m.w m.h=true:=by
  have:=hf
  unfold bp at this
  rw [Bool.and_eq_true] at this
  exact this.1
 unfold dJ
 rw [hfit,hf,if_neg (by decide),if_neg (by decide)] at h1
 rw [hfit,hf,if_neg (by decide),if_neg (by decide)]
 cases hp:kv m.color mx
 ·rw [if_pos ⟨hs,rfl⟩]
  rw [hp] at h2
  refine aI Tryz.func69 [.cell 4 44] ?_
  repeat' (first|with_reducible exact aK|refine ak hs ?_|refine an ?_|((first|refine aj (fun K hK => ?_)|refine ae (h1) ?_|refine ae (h2) ?_);and_intros;all_goals first|(refine hK _ ?_;clear hK K)|try exact aa)|(refine ai ?_;(try clear hB KB);(try clear hK K)))
 ·rw [if_neg (by rintro ⟨_,q⟩;cases q)]
  rw [hp] at h2
  refine aI Tryz.func69 [.cell 4 44] ?_
  repeat' (first|with_reducible exact aK|refine ak hs ?_|refine an ?_|((first|refine aj (fun K hK => ?_)|refine ae (h1) ?_|refine ae (h2) ?_);and_intros;all_goals first|(refine hK _ ?_;clear hK K)|try exact aa)|(refine ai ?_;(try clear hB KB);(try clear hK K)))
theorem Dd (m:Image) (mx:Int) (hf:bp m=false):aF Sg 69 [ag (bl m),U mx] (fun r=>r = .b (I (dJ m mx))):=by
 have h1:=oF m
 unfold dJ
 cases hfit:cl m.w m.h
 ·rw [hfit,if_pos rfl] at h1
  rw [if_pos rfl]
  have ht:True:=trivial
  refine aI Tryz.func69 [.cell 4 44] ?_
  repeat' (first|with_reducible exact aK|refine ak ht ?_|refine an ?_|((first|refine aj (fun K hK => ?_)|refine ae (h1) ?_);and_intros;all_goals first|(refine hK _ ?_;clear hK K)|try exact aa)|(refine ai ?_;(try clear hB KB);(try clear hK K)))
 ·rw [hfit,hf,if_neg (by decide),if_pos rfl] at h1
  rw [hf,if_neg (by decide),if_pos rfl]
  have ht:True:=trivial
  refine aI Tryz.func69 [.cell 4 44] ?_
  repeat' (first|with_reducible exact aK|refine ak ht ?_|refine an ?_|((first|refine aj (fun K hK => ?_)|refine ae (h1) ?_);and_intros;all_goals first|(refine hK _ ?_;clear hK K)|try exact aa)|(refine ai ?_;(try clear hB KB);(try clear hK K)))
theorem Vn (t:Array Value) (h:t.size=34):∃ t0 t1 t2 t3 t4 t5 t6 t7 t8 t9 t10 t11 t12 t13 t14 t15 t16 t17 t18 t19 t20 t21 t22 t23 t24 t25 t26 t27 t28 t29 t30 t31 t32 t33,t = #[t0,t1,t2,t3,t4,t5,t6,t7,t8,t9,t10,t11,t12,t13,t14,t15,t16,t17,t18,t19,t20,t21,t22,t23,t24,t25,t26,t27,t28,t29,t30,t31,t32,t33]:=by
 obtain ⟨l⟩:=t
 have step:∀ {n:Nat} {l:List Value},l.length=n+1→∃ a r,l=a :: r∧r.length=n:=fun {n l} h=>by
  cases l with
  | nil=>cases h
  | cons a r=>exact ⟨a,r,rfl,by simpa using h⟩
 have h:l.length=34:=h
 obtain ⟨t0,r1,rfl,h1⟩:=step h
 obtain ⟨t1,r2,rfl,h2⟩:=step h1
 obtain ⟨t2,r3,rfl,h3⟩:=step h2
 obtain ⟨t3,r4,rfl,h4⟩:=step h3
 obtain ⟨t4,r5,rfl,h5⟩:=step h4
 obtain ⟨t5,r6,rfl,h6⟩:=step h5
 obtain ⟨t6,r7,rfl,h7⟩:=step h6
 obtain ⟨t7,r8,rfl,h8⟩:=step h7
 obtain ⟨t8,r9,rfl,h9⟩:=step h8
 obtain ⟨t9,r10,rfl,h10⟩:=step h9
 obtain ⟨t10,r11,rfl,h11⟩:=step h10
 obtain ⟨t11,r12,rfl,h12⟩:=step h11
 obtain ⟨t12,r13,rfl,h13⟩:=step h12
 obtain ⟨t13,r14,rfl,h14⟩:=step h13
 obtain ⟨t14,r15,rfl,h15⟩:=step h14
 obtain ⟨t15,r16,rfl,h16⟩:=step h15
 obtain ⟨t16,r17,rfl,h17⟩:=step h16
 obtain ⟨t17,r18,rfl,h18⟩:=step h17
 obtain ⟨t18,r19,rfl,h19⟩:=step h18
 obtain ⟨t19,r20,rfl,h20⟩:=step h19
 obtain ⟨t20,r21,rfl,h21⟩:=step h20
 obtain ⟨t21,r22,rfl,h22⟩:=step h21
 obtain ⟨t22,r23,rfl,h23⟩:=step h22
 obtain ⟨t23,r24,rfl,h24⟩:=step h23
 obtain ⟨t24,r25,rfl,h25⟩:=step h24
 obtain ⟨t25,r26,rfl,h26⟩:=step h25
 obtain ⟨t26,r27,rfl,h27⟩:=step h26
 obtain ⟨t27,r28,rfl,h28⟩:=step h27
 obtain ⟨t28,r29,rfl,h29⟩:=step h28
 obtain ⟨t29,r30,rfl,h30⟩:=step h29
 obtain ⟨t30,r31,rfl,h31⟩:=step h30
 obtain ⟨t31,r32,rfl,h32⟩:=step h31
 obtain ⟨t32,r33,rfl,h33⟩:=step h32
 obtain ⟨t33,r34,rfl,h34⟩:=step h33
 have hr34:r34=[]:=List.eq_nil_of_length_eq_zero h34
 subst hr34
 exact ⟨_,_,_,_,_,_,_,_,_,_,_,_,_,_,_,_,_,_,_,_,_,_,_,_,_,_,_,_,_,_,_,_,_,_,rfl⟩
theorem Bk {bx:Nat→Option Bx} {b:Nat} {l:List PV} (hb:bx b=some (.fix (l.map CV.p))):dp bx (.c (.ptr b 0)) = .c (.ipt l.length (fun j=>l.getD j .any) 0):=by
 have hf:(fun j=>(eR bx ((l.map CV.p).getD (0+j) .any)).toP)=fun j=>l.getD j .any:=by
  funext j
  rw [Nat.zero_add,List.getD_eq_getElem?_getD,List.getD_eq_getElem?_getD,List.getElem?_map]
  cases l[j]? with
  | none=>rfl
  | some x=>rfl
 simp only [dp,iX,hb]
 rw [if_pos (Nat.zero_le _),List.length_map,Nat.sub_zero]
 exact congrArg (fun g=>BV.c (.ipt l.length g 0)) hf
theorem Dk (m:Image) (mx:Int) (hm:Full mx) (hs:m.solid=false) (h:ImgV m mx):aF Sg 69 [ag (bl m),U mx] (fun r=>r = .b (I 0)):=by
 have h1:=oF m
 have hpl:=Cv m.w m.h
 have hf:=h.f
 have hfit:cl m.w m.h=true:=by
  have:=hf
  unfold bp at this
  rw [Bool.and_eq_true] at this
  exact this.1
 obtain ⟨b1,b2,_,_,b3,b4⟩:=ed hfit
 obtain ⟨W,hW⟩:∃ W:Nat,m.w=W:=⟨m.w.toNat,by omega⟩
 obtain ⟨H,hH⟩:∃ H:Nat,m.h=H:=⟨m.h.toNat,by omega⟩
 rw [hfit,hf,if_neg (by decide),if_neg (by decide)] at h1
 refine ⟨⟨_,Tryz.func69,rfl,rfl⟩,fun ok w vs hok hgl hsz hden => ?_⟩
 have g0:=FN (S:=Sg) (N:=34) hok hgl hsz hden (show 2≤34 by decide) (cG (by simp (maxSteps:=999999)(disch:=omega) only [go_sem]))
 refine callsIn_wide.1 (callsIn_of_wp_marks (F:=Fence.wide) (n:=5) Tryz.func69 rfl trivial (wpIn_wide.2 ?_))
 refine tg gp (bg [(2, .b (.c (.ptr 0 0))),(3, .b (.c (.ptr 1 0))),(4, .b (.c (.ptr 2 0)))] [(0, .fix ((bl m).map CV.p)),(1, .fix ([PU mx].map CV.p)),(2, .fix ([PI 0].map CV.p))] 3) ?_ (show cO 34 _=true by decide +kernel) g0 (fun ρ1 a1 w1 g1 => ?_)
 ·repeat' (refine aj (fun K hK => ?_);and_intros;all_goals first|(refine hK _ ?_;clear hK K)|try exact aa)
  refine ⟨_, ?_,rfl⟩
  refine aE [(1,some 1),(2,some 2)] ?_ ?_
  and_intros
  all_goals first|exact aw|skip
 refine tg gp (bg [(2, .b (.c (.ptr 0 0))),(3, .b (.c (.ptr 1 0))),(4, .b (.c (.ptr 2 0)))] [(0, .fix ((bl m).map CV.p)),(1, .fix ([PU mx].map CV.p)),(2, .fix ([PI 0].map CV.p))] 3) ?_ (show cO 34 _=true by decide +kernel) g1 (fun ρ2 a2 w2 g2 => ?_)
 ·have ht:True:=trivial
  repeat' (first|refine ak ht ?_|refine an ?_|((first|refine aj (fun K hK => ?_)|refine ae (h1) ?_);and_intros;all_goals first|(refine hK _ ?_;clear hK K)|try exact aa))
  refine ⟨_, ?_,rfl⟩
  refine aE [(1,some 1),(2,some 2)] ?_ ?_
  and_intros
  all_goals first|exact aw|skip
 refine tg gp (bg [(2, .b (.c (.ptr 0 0))),(3, .b (.c (.ptr 1 0))),(4, .b (.c (.ptr 2 0)))] [(0, .fix ((bl m).map CV.p)),(1, .fix ([PU mx].map CV.p)),(2, .fix ([PI 0].map CV.p))] 3) ?_ (show cO 34 _=true by decide +kernel) g2 (fun ρ3 a3 w3 g3 => ?_)
 ·repeat' (first|refine ak hs ?_|refine an ?_|(refine aj (fun K hK => ?_);and_intros;all_goals first|(refine hK _ ?_;clear hK K)|try exact aa))
  refine ⟨_, ?_,rfl⟩
  refine aE [(1,some 1),(2,some 2)] ?_ ?_
  and_intros
  all_goals first|exact aw|skip
 refine wp_seq ?_
 refine tg gp (bg [(2, .b (.c (.ptr 0 0))),(3, .b (.c (.ptr 1 0))),(4, .b (.c (.ptr 2 0))),(24, .b (.c (.p (RJ m.w m.h))))] [(0, .fix ((bl m).map CV.p)),(1, .fix ([PU mx].map CV.p)),(2, .fix ([PI 0].map CV.p))] 3) ?_ (show cO 34 _=true by decide +kernel) g3 (fun ρ a w1 g => ?_)
 ·repeat' ((first|refine aj (fun K hK => ?_)|refine ae (hpl) ?_);and_intros;all_goals first|(refine hK _ ?_;clear hK K)|try exact aa)
  refine ⟨_, ?_,rfl⟩
  refine aE [(1,some 1),(2,some 2)] ?_ ?_
  and_intros
  all_goals first|exact aw|skip
 refine wp_block ?_
 clear g0 g1 g2 g3
 have d24:bt (bL { w0:=w,ok0:=ok,rx:=none,N:=34 } _ ρ w1) w1 (RJ m.w m.h) (a.tmps.getD 24 undef):=g.slt 24
 obtain ⟨lb,hu,hlb,hcl⟩:=d24
 obtain ⟨Bh,oh,e1,k1,c1⟩:=hcl 0 (by decide)
 obtain ⟨Bw,ow,e2,k2,c2⟩:=hcl 1 (by decide)
 obtain ⟨xh,qh,_,dh⟩:=c1 0 (by decide)
 obtain ⟨xw,qw,_,dw⟩:=c2 0 (by decide)
 have dh:xh = .int .i64 m.h:=dh
 have dw:xw = .int .i64 m.w:=dw
 rw [dh,hH,Nat.add_zero] at qh
 rw [dw,hW,Nat.add_zero] at qw
 have hlb2:lb = #[.pointer (some ⟨Bh,oh,none⟩), .pointer (some ⟨Bw,ow,none⟩)]:=by
  rw [← e1,← e2]
  refine Array.ext hlb (fun i h1 h2 => ?_)
  have hi:i=0∨i=1:=by omega
  rcases hi with rfl|rfl
  ·simp [Array.getD,h1]
  ·simp [Array.getD,h1]
 have f0:=KC g (s:=2) (x := .c (.ptr 0 0)) rfl (Bk (l:=bl m) rfl) trivial
 have f1:=KC g (s:=3) (x := .c (.ptr 1 0)) rfl (Bk (l:=[PU mx]) rfl) trivial
 have f4:∃ b o,ρ 2 = .pointer (some ⟨b,o,none⟩)∧a.tmps.getD 4 undef = .pointer (some ⟨b,o+0,none⟩):=g.slt 4
 obtain ⟨b,o,r2,f4⟩:=f4
 have q2:jG ρ (bL { w0:=w,ok0:=ok,rx:=none,N:=34 } _ ρ w1) w1 (.fix ([PI 0].map CV.p)) (ρ 2):=g.bxs 2 _ rfl
 obtain ⟨b',o',cells,ty,hv,hh,hsz2,hone,hdd⟩:=q2
 rw [r2] at hv
 obtain ⟨rfl,rfl⟩:b=b'∧o=o':=by simpa using hv
 have hbn:w.heap.size≤b:=by
  have:=(g.new 2 _ b rfl (by rw [r2];rfl)).2
  rcases this with q|⟨_,_,_,_,q⟩
  ·exact q
  ·cases q
 have hgl1:=UL g
 have hB1:Below w.heap.size w w1:=⟨g.frm.os,g.frm.tape,g.frm.output,g.frm.size,fun k hk=>g.frm.block k hk fun _ _ q=>by cases q⟩
 obtain ⟨t0,t1,t2,t3,t4,t5,t6,t7,t8,t9,t10,t11,t12,t13,t14,t15,t16,t17,t18,t19,t20,t21,t22,t23,t24,t25,t26,t27,t28,t29,t30,t31,t32,t33,ha⟩:=Vn a.tmps g.sz
 obtain ⟨tm,df⟩:=a
 have hdf:df=[]:=g.dfr
 dsimp only at ha hu f0 f1 f4
 subst hdf
 clear g
 subst ha
 have hu:t24=_:=hu
 have f4:t4 = .pointer (some ⟨b,o,none⟩):=f4
 subst hu f4 hlb2
 refine BO gp (gf:=150) (N:=34) rfl (enters_of Tryz.func150 (by kernel_rfl) rfl) (yc 3 (by omega) Bh oh Bw ow w1.heap.size W H (by omega) (by omega) w1 (Nat.le_refl _) k1.1 k2.1 qh qw) (fun _=>rfl)
  (fun x => { tmps := #[t0,t1,t2,t3, .pointer (some ⟨b,o,none⟩),t5, .int .i64 x.1.1, .int .i64 x.1.2,t8,t9,t10,t11,t12,t13,t14,t15,t16,t17,t18,t19,t20,t21,t22,t23, .func (.func 150) #[] #[.pointer (some ⟨Bh,oh,none⟩), .pointer (some ⟨Bw,ow,none⟩)], .int .i64 x.1.1, .int .i64 x.1.2,t27,t28,t29,t30,t31,t32,t33],defers:=[] })
  (fun x=>kF [(2, .b (.c (.ipt (bl m).length (fun j=>(bl m).getD j .any) 0))),(3, .b (.c (.ipt [PU mx].length (fun j=>[PU mx].getD j .any) 0))),(6, .b (I x.1.1)),(7, .b (I x.1.2))]) ?assign (fun x=>⟨rfl,rfl,fun s => ?lt,fun s => ?den⟩) hgl1 (by decide +kernel) (by decide +kernel) (fun x => ?cw) ?done
 case assign =>
  intro l x W0 K hK
  gi_wp2
  exact hK
 case lt =>
  simp only [kF]
  repeat' split
  all_goals trivial
 case den =>
  simp only [kF]
  split
  ·rename_i q;subst q;exact f0
  split
  ·rename_i q;subst q;exact f1
  split
  ·rename_i q;subst q;rfl
  split
  ·rename_i q;subst q;rfl
  trivial
 case cw =>
  obtain ⟨⟨px,py⟩,hx,hy⟩:=x
  have hp:=xI m px py hf (by omega) (by dsimp only at hx;omega) (by omega) (by dsimp only at hy;omega)
  have hv:=jv (eF m px py) mx
  rw [jZ (h.p px py (by omega) (by dsimp only at hx;omega) (by omega) (by dsimp only at hy;omega))] at hv
  generalize eF m px py=q at *
  have ht:True:=trivial
  dsimp only
  repeat' (first|with_reducible exact aK|refine ak ht ?_|refine an ?_|((first|refine aj (fun K hK => ?_)|refine ae (hp) ?_|refine ae (hv) ?_);and_intros;all_goals first|(refine hK _ ?_;clear hK K)|try exact aa))
 case done =>
  intro D W0 hD hB hK
  have hbw:b<w1.heap.size:=bN hh
  have hcell:W0.heap[b]?=some (.cells cells ty (0,0)):=(hB.block b hbw).trans hh
  have hco:∃ u,W0.cell? ⟨b,o,none⟩=some u∧W0.frozen? ⟨b,o,none⟩=false:=by
   have hsz3:o<cells.size:=by simp at hsz2;omega
   exact ⟨cells.getD o undef,bG hcell hsz3,by simp [World.frozen?,hcell]⟩
  obtain ⟨u0,hco,hfr⟩:=hco
  refine (wpIn_wide (n:=5)).1 ?_
  simp only [Wx]
  gi_wp2
  have hK':=(KeepsOthers.setCell W0 ⟨b,o,none⟩ (.int .i64 0)).same D _ hK rfl
  refine ⟨by simp, .inl ⟨_,_,rfl,run_takeDeferred hK', ?_⟩⟩
  have hc5:=cell_kept (World.cell?_setCell_same' W0 ⟨b,o,none⟩ (.int .i64 0) (by rw [hco];rfl)) (grownBy_putObj' _ D (.deferred none)) (fun r e=>by cases e;exact ⟨_,hK',rfl⟩)
  refine ⟨.int .i64 0, ?_, ?_⟩
  ·simp [results,Tryz.f69,go_sem,hc5]
  ·have hDb:w.heap.size≤D:=Nat.le_trans hB1.size hD
   have hB2:Below w.heap.size w ((W0.setCell ⟨b,o,none⟩ (.int .i64 0)).putObj D (.deferred none)):=by
    have q1:Below w.heap.size w W0:=hB1.trans (hB.mono hB1.size)
    refine (q1.setCell (p:=⟨b,o,none⟩) hbn _).grown (grownBy_putObj' _ D (.deferred none)) ?_ (fun k e=>by cases e;exact hDb)
    have:=q1.size
    have:=(KeepsOthers.setCell W0 ⟨b,o,none⟩ (.int .i64 0)).size
    omega
   exact ⟨_,rfl,hB2,rfl⟩
end Go.Proofs.YtcbifofjjpfbcaaGreatDoor
