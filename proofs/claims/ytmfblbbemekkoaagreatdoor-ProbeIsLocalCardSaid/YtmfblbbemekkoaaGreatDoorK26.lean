/- Part of the proof: WR, Q1, WP. -/
import Derived.Test.YtmfblbbemekkoaaGreatDoorK25
set_option linter.unusedSimpArgs false
set_option linter.unusedVariables false
set_option maxHeartbeats 4000000
set_option maxRecDepth 16000
namespace Go.Proofs.YtmfblbbemekkoaaGreatDoor
open Go Go.SL
open Go.RowKit (wrap64)
attribute [local go_sem] dI uB cO Int.toNat_natCast cU
theorem Qz:Sg.P.underlying 169=some (.pointer 204):=by kernel_rfl
attribute [local go_sem] Qz
theorem CF (bx : Nat → Option Bx) (nx : Nat) (m : Int) (hm : Full m) (hw : ∀ i, nx ≤ i → bx i = none) : ∃ F : Nat → Nat → PV, eI (F 0) base ∧ kR Sg bx nx 104 [U m] (.tup [.c (.ptr (nx + 1) 0), I 0])
  (aA (nx+1) (.fix [.p (PU m), .own nx 1]) (aA nx (.arr 201 23 1 F) bx)) (nx+2):=by
 have g:(m != 255 && m != 65535)=false:=by rcases hm.h with q|q <;> rw [q] <;> rfl
 refine ⟨?F, ?hF, ?hI⟩
 case hI =>
  refine gw Tryz.func104 rfl (rs:=[.tmp 2, .tmp 3]) rfl rfl dZ (by decide +kernel) (Nat.le_of_ble_eq_true rfl) ?_ (fun kf => ?_)
  ·intro v hv
   rw [List.mem_singleton.1 hv];trivial
  repeat' (first|refine aj g ?_|refine ak ?_|(refine ai (fun K hK => ?_);and_intros;all_goals first|(refine hK _ ?_;clear hK K)|try exact aa)|(refine an ?_;(try clear hB KB);(try clear hK K)))
  refine ⟨zG hw ?_ ?_ (fun i hi h1 h2 => ?_),by omega⟩
  ·simp (maxSteps:=999999)(disch:=omega) only [go_sem]
  ·simp (maxSteps:=999999)(disch:=omega) only [go_sem]
   rfl
  ·simp (maxSteps:=999999)(disch:=omega) only [go_sem]
 intro j hj
 have hivl:j=0∨j=1∨j=2∨j=3∨j=4∨j=5∨j=6∨j=7∨j=8∨j=9∨j=10∨j=11∨j=12∨j=13∨j=14∨j=15∨j=16∨j=17∨j=18∨j=19∨j=20∨j=21∨j=22:=by omega
 rcases hivl with rfl|rfl|rfl|rfl|rfl|rfl|rfl|rfl|rfl|rfl|rfl|rfl|rfl|rfl|rfl|rfl|rfl|rfl|rfl|rfl|rfl|rfl|rfl <;> rfl
theorem AA (bx : Nat → Option Bx) (nx b k n N : Nat) (hN : n + 1 ≤ N) (f : Nat → Nat → PV) (m : Int) (o : Op) (p : Pixel) (ms : Int) (t : Lv)
  (hb:bx b=some (.fix [.p (PU m), .own k (n+1)])) (hk:bx k=some (.arr 201 23 N f)) (hbn:b<nx) (hkn:k<nx) (hbk:b≠k) (hn:n≤1000) (hf:eI (f n) t)
  (hm:Full m) (hkd:o.kind=1) (ho:1≤o.operator∧o.operator≤12) (hmo:1≤o.mode∧o.mode≤12) (hop:0≤o.opacity∧o.opacity≤m) (hp:PixV p m) (hms:0≤ms∧ms≤m) (hv:AccV t.acc t.back m) (hko:t.op.knockout=true→o.operator=4) (hw:∀ i,nx≤i→bx i=none) :
  ∃ F:Nat→Nat→PV,(eI (F n) (bT m o (az m o p ms) t)∧∀ i,i<n→∀ j,F i j=f i j) ∧
  kR Sg bx nx 112 [.c (.ptr b 0),ag (dJ o),ag (aH p),U ms] (.tup [ag (aH (az m o p ms)),I 0]) (aA k (.arr 201 23 N F) bx) (nx+5):=by
 have hsv:=nz (o:=o) hm hp hms.1 hms.2 hop.1 hop.2
 have hvs:=gG p m
 rw [lx hp] at hvs
 have e:bx=aA b (.fix [.p (PU m), .own k (n+1)]) (aA k (.arr 201 23 N f) bx):=by rw [← bt hk];exact bt hb
 have g:(o.kind != 1)=false:=by rw [bne_eq_false_iff_eq];exact hkd
 have hsc:=fun (st:St) (K:SV→St→Prop) hb hk hK=>mH (st:=st) (K:=K) b k (n+1) N 201 f m o p ms hN hb hk hm hp hms.1 hms.2 hop.1 hop.2 hK
 have hpt:=fun (st:St) (K:SV→St→Prop) hb hk hK=>oU (st:=st) (K:=K) b k (n+1) N n 201 f m o (az m o p ms) t hN hN hb hk hn hf hm ho hmo hsv hv hko hK
 generalize az m o p ms=q at *
 generalize bT m o q t=t' at *
 refine ⟨?F,⟨?hF, ?hG⟩, ?hI⟩
 case hI =>
  refine gw Tryz.func112 rfl (rs:=[.cell 8 41, .tmp 9]) rfl rfl dZ (by decide +kernel) (Nat.le_of_ble_eq_true rfl) ?_ (fun kf => ?_)
  ·intro v hv
   simp only [List.mem_cons,List.not_mem_nil,or_false] at hv
   rcases hv with rfl|rfl|rfl|rfl
   ·exact hbn
   ·exact fun c hc=>by (obtain ⟨x,_,rfl⟩:=List.mem_map.1 hc;trivial)
   ·exact fun c hc=>by (obtain ⟨x,_,rfl⟩:=List.mem_map.1 hc;trivial)
   ·trivial
  rw [e]
  repeat' (first|(((with_reducible refine cr (id:=1) [] (by decide +kernel) (by decide +kernel) ?_ (fun K hK => ?_));(first|(refine And.intro (fun iw hiw => ?_) ?_;(focus ((try simp (maxSteps:=999999)(disch:=omega) only [go_sem] at hiw ⊢);(repeat (refine Eq.trans (if_neg ?_) ?_;(focus omega)));exact hw iw (by omega)));(focus (first|exact Nat.zero_le _|(simp (maxSteps:=999999)(disch:=omega) only [go_sem];done)|(simp (maxSteps:=999999)(disch:=omega) only [go_sem];omega))))|exact eS));(try simp (maxSteps:=999999)(disch:=omega) only [go_sem]);and_intros;(all_goals first|(refine hK _ (by simp (maxSteps:=999999)(disch:=omega) only [go_sem]) ?_;clear hK K)|exact aa|skip))|refine ak ?_|((first|refine ai (fun K hK => ?_)|refine aE (fun hg=>hvs) ?_);and_intros;all_goals first|(refine hK _ ?_;clear hK K)|try exact aa))
  refine hK _ trivial ?_
  clear hK
  repeat' (first|refine aj g ?_|refine ak ?_|(refine ai (fun K hK => ?_);and_intros;all_goals first|(refine hK _ ?_;clear hK K)|try exact aa))
  refine hsc _ _ ?_ ?_ ?_
  ·simp (maxSteps:=999999)(disch:=omega) only [go_sem]
  ·simp (maxSteps:=999999)(disch:=omega) only [go_sem]
  simp (maxSteps:=999999)(disch:=omega) only [go_sem]
  refine hK _ ?_
  clear hK
  repeat' (first|refine aj g ?_|refine ak ?_|(refine ai (fun K hK => ?_);and_intros;all_goals first|(refine hK _ ?_;clear hK K)|try exact aa))
  refine nB (id:=6) (.br 0 (.br 1 (.br 2 (.br 3 (.br 4 (.br 5 (.br 6 (.br 7 (.br 8 (.br 9 (.br 10 (.br 11 (.br 12 (.br 13 .leaf .nil) .nil) .nil) .nil) .nil) .nil) (.br 11 (.br 7 (.br 8 (.br 9 (.br 10 (.br 12 (.br 13 .leaf .nil) .nil) .nil) .nil) .nil) .nil) .nil)) .nil) .nil) .nil) .nil) .nil) .nil) .nil) (by decide +kernel) ?_ (fun K0 hW => ?_)
  ·(first|(refine And.intro (fun iw hiw => ?_) ?_;(focus ((try simp (maxSteps:=999999)(disch:=omega) only [go_sem] at hiw ⊢);(repeat (refine Eq.trans (if_neg ?_) ?_;(focus omega)));exact hw iw (by omega)));(focus (first|exact Nat.zero_le _|(simp (maxSteps:=999999)(disch:=omega) only [go_sem];done)|(simp (maxSteps:=999999)(disch:=omega) only [go_sem];omega))))|exact eS)
  replace hW:=kD hW
  repeat' (first|exact cz|(refine cZ (fun K' hK' => ?_) ?_)|(simp (maxSteps:=999999)(disch:=omega) only [go_sem];and_intros;(all_goals first|(refine hK' _ ?_;clear hK' K')|trivial|omega|exact Nat.le_of_ble_eq_true rfl|exact aa|skip)))
  all_goals
   refine hpt _ _ ?_ ?_ ?_
   ·simp (maxSteps:=999999)(disch:=omega) only [go_sem]
   ·simp (maxSteps:=999999)(disch:=omega) only [go_sem]
   simp (maxSteps:=999999)(disch:=omega) only [go_sem]
   refine hK' _ ?_
   clear hK' K'
   repeat' (first|exact cz|(refine cZ (fun K' hK' => ?_) ?_)|(refine cj (hW _ ?_);clear hW)|(simp (maxSteps:=999999)(disch:=omega) only [go_sem];and_intros;(all_goals first|(refine hK' _ ?_;clear hK' K')|trivial|omega|exact Nat.le_of_ble_eq_true rfl|exact aa|skip)))
   refine iT ?_
   repeat' (first|refine aj g ?_|(((with_reducible refine cr (id:=9) [] (by decide +kernel) (by decide +kernel) ?_ (fun K hK => ?_));(first|(refine And.intro (fun iw hiw => ?_) ?_;(focus ((try simp (maxSteps:=999999)(disch:=omega) only [go_sem] at hiw ⊢);(repeat (refine Eq.trans (if_neg ?_) ?_;(focus omega)));exact hw iw (by omega)));(focus (first|exact Nat.zero_le _|(simp (maxSteps:=999999)(disch:=omega) only [go_sem];done)|(simp (maxSteps:=999999)(disch:=omega) only [go_sem];omega))))|exact eS));(try simp (maxSteps:=999999)(disch:=omega) only [go_sem]);and_intros;(all_goals first|(refine hK _ (by simp (maxSteps:=999999)(disch:=omega) only [go_sem]) ?_;clear hK K)|exact aa|skip))|refine ak ?_|(refine ai (fun K hK => ?_);and_intros;all_goals first|(refine hK _ ?_;clear hK K)|try exact aa)|(refine an ?_;(try clear hB KB);(try clear hK K)))
   refine ⟨rfl,zB (bx:=aA b (.fix [.p (PU m), .own k (n+1)]) (aA k (.arr 201 23 N f) bx)) (nx:=nx) ?_ ?_ (fun i hi h1 => ?_)⟩
   ·rw [← e];exact hw
   ·(first|(simp (maxSteps:=999999)(disch:=omega) only [go_sem];done)|(simp (maxSteps:=999999)(disch:=omega) only [go_sem];rfl))
   ·simp (maxSteps:=999999)(disch:=omega) only [go_sem]
 ·intro j hj
  dsimp only
  rw [if_pos rfl]
  have hivl:j=0∨j=1∨j=2∨j=3∨j=4∨j=5∨j=6∨j=7∨j=8∨j=9∨j=10∨j=11∨j=12∨j=13∨j=14∨j=15∨j=16∨j=17∨j=18∨j=19∨j=20∨j=21∨j=22:=by omega
  rcases hivl with rfl|rfl|rfl|rfl|rfl|rfl|rfl|rfl|rfl|rfl|rfl|rfl|rfl|rfl|rfl|rfl|rfl|rfl|rfl|rfl|rfl|rfl|rfl <;> rfl
 ·intro i hi j
  exact if_neg (by omega)
end Go.Proofs.YtmfblbbemekkoaaGreatDoor
set_option maxHeartbeats 4000000
set_option maxRecDepth 16000
namespace Go.Proofs.YtmfblbbemekkoaaGreatDoor
open Go Go.SL
open Go.RowKit (wrap64)
attribute [local go_sem] dI Int.toNat_natCast cU
def cB (x:Mic):List PV:=[PI x.op,PI x.kind,PU x.inp.c0,PU x.inp.c1,PU x.inp.c2,PU x.inp.a,PU x.inp.f,PU x.back.c0,PU x.back.c1,PU x.back.c2,PU x.back.a,PU x.back.f,PU x.k,PU x.out.c0,PU x.out.c1,PU x.out.c2,PU x.out.a,PU x.out.f]
def gV (g:Nat→Nat→PV) (L:List Mic):Prop:=∀ i,i<L.length→∀ j,j<18→g i j=(cB (L.getD i default)).getD j .any
theorem Fe {n:Nat} {g h:Nat→Nat→PV} {L:List Mic} {v:Mic} (hn:L.length=n) (hg:gV g L) (hh:∀ j,j<18→h 0 j=(cB v).getD j .any):gV (ix n g h) (L ++ [v]):=by
 subst hn
 intro i hi j hj
 rw [List.length_append,List.length_singleton] at hi
 unfold ix
 by_cases q:i<L.length
 ·have e:(L ++ [v]).getD i default=L.getD i default:=by
   rw [List.getD_eq_getElem?_getD,List.getD_eq_getElem?_getD,List.getElem?_append_left q]
  rw [if_pos q,hg i q j hj,e]
 ·have e:i=L.length:=by omega
  subst e
  have e:(L ++ [v]).getD L.length default=v:=by
   rw [List.getD_eq_getElem?_getD,List.getElem?_append_right (Nat.le_refl _),Nat.sub_self];rfl
  rw [if_neg q,Nat.sub_self,hh j hj,e]
theorem mE {g:Nat→Nat→PV} {L:List Mic} (h:gV g L):∀ i,i<L.length→∀ j,j<18→PV.le (g i j) (bd cB L i j):=fun i hi j hj=>by
 rw [h i hi j hj]
 exact PV.le_refl _
theorem ry (L:List Mic):gV (bd cB L) L:=fun _ _ _ _=>rfl
abbrev Ew (L:List Mic):PV := .lst 18 L.length (bd cB L)
end Go.Proofs.YtmfblbbemekkoaaGreatDoor
set_option maxHeartbeats 4000000
set_option maxRecDepth 16000
namespace Go.Proofs.YtmfblbbemekkoaaGreatDoor
open Go Go.SL
open Go.RowKit (wrap64)
theorem tH (m:Image) (x y:Int) (hf:aW m=true) (hx:0≤x) (hxm:x<m.w) (hy:0≤y) (hym:y<m.h):aD Sg 138 [ag (aY m),I x,I y] (fun r=>r = .b (ag (aH (eG m x y)))):=by
 unfold eG
 by_cases hs:m.solid=true
 ·rw [if_pos hs]
  refine aC Tryz.func138 [.cell 6 41] ?_
  repeat' (first|refine aj hs ?_|refine ak ?_|(refine ai (fun K hK => ?_);and_intros;all_goals first|(refine hK _ ?_;clear hK K)|try exact aa)|(refine an ?_;(try clear hB KB);(try clear hK K)))
  rfl
 ·rw [if_neg hs]
  have hs':m.solid=false:=by simpa using hs
  unfold aW at hf
  simp only [Bool.and_eq_true] at hf
  obtain ⟨_,⟨⟨⟨⟨⟨f0,f1⟩,f2⟩,f3⟩,f4⟩,_⟩⟩:=hf
  obtain ⟨a0,b0,c0,d0⟩:=en hs' f0 hx hxm hy hym
  obtain ⟨a1,b1,c1,_⟩:=en hs' f1 hx hxm hy hym
  obtain ⟨a2,b2,c2,_⟩:=en hs' f2 hx hxm hy hym
  obtain ⟨a3,b3,c3,_⟩:=en hs' f3 hx hxm hy hym
  obtain ⟨a4,b4,c4,_⟩:=en hs' f4 hx hxm hy hym
  refine aC Tryz.func138 [.cell 6 41] ?_
  repeat' (first|(apply qU;(case hc=>exact eC);(case ht=>(simp only [Int.toNat_natCast,Int.reduceBEq,Int.reduceBNe,Int.reduceLT,Int.reduceLE,decide_true,decide_false,yj,hs'];done)))|refine ak ?_|(refine ai (fun K hK => ?_);and_intros;all_goals first|(refine hK _ ?_;clear hK K)|try exact aa))
  refine aS (X:=Int) (fun k=>aZ [(1, .b (I x)),(2, .b (I y)),(3, .b (.c (.ptr 0 0))),(6, .b (.c (.ptr 1 0))),(7, .b (.c (.ptr 2 0))),(15, .b (ag [PI m.p0.w,PI m.p0.h,PI m.p0.stride,iB m.p0.s,PI m.p1.w,PI m.p1.h,PI m.p1.stride,iB m.p1.s,PI m.p2.w,PI m.p2.h,PI m.p2.stride,iB m.p2.s,PI m.p3.w,PI m.p3.h,PI m.p3.stride,iB m.p3.s,PI m.p4.w,PI m.p4.h,PI m.p4.stride,iB m.p4.s])),(16, .b (I k))]
   [(0, .fix ((aY m).map CV.p)),(1, .fix ((aH aG).map CV.p)),(2, .fix [.p (PU (if 0<k then m.p0.s.getD (y * m.p0.stride+x).toNat 0 else 0)), .p (PU (if 1<k then m.p1.s.getD (y * m.p1.stride+x).toNat 0 else 0)), .p (PU (if 2<k then m.p2.s.getD (y * m.p2.stride+x).toNat 0 else 0)), .p (PU (if 3<k then m.p3.s.getD (y * m.p3.stride+x).toNat 0 else 0)), .p (PU (if 4<k then m.p4.s.getD (y * m.p4.stride+x).toNat 0 else 0))])] 3) (fun k=>0≤k∧k≤5) (fun k=>(5 - k).toNat) 0 ?_ ?_ ?_
  ·omega
  ·refine ay [(1,some 1),(2,some 2)] ?_ ?_
   and_intros
   all_goals first|exact ao|skip
  ·intro k hk
   have hkv:k=0∨k=1∨k=2∨k=3∨k=4∨k=5:=by omega
   rcases hkv with rfl|rfl|rfl|rfl|rfl|rfl
   ·repeat' (first|(apply gY;(case hc=>exact eC);(case ht=>(simp only [Int.toNat_natCast,Int.reduceBEq,Int.reduceBNe,Int.reduceLT,Int.reduceLE,decide_true,decide_false,yj,hs'];done)))|refine ak ?_|(refine ai (fun K hK => ?_);and_intros;all_goals first|(refine hK _ ?_;clear hK K)|try exact aa))
    rw [ah]
    refine au 1 ?_ (by omega) (by decide)
    refine ay [(1,some 1),(2,some 2)] ?_ ?_
    and_intros
    all_goals first|exact ao|skip
   ·repeat' (first|(apply gY;(case hc=>exact eC);(case ht=>(simp only [Int.toNat_natCast,Int.reduceBEq,Int.reduceBNe,Int.reduceLT,Int.reduceLE,decide_true,decide_false,yj,hs'];done)))|refine ak ?_|(refine ai (fun K hK => ?_);and_intros;all_goals first|(refine hK _ ?_;clear hK K)|try exact aa))
    rw [ah]
    refine au 2 ?_ (by omega) (by decide)
    refine ay [(1,some 1),(2,some 2)] ?_ ?_
    and_intros
    all_goals first|exact ao|skip
   ·repeat' (first|(apply gY;(case hc=>exact eC);(case ht=>(simp only [Int.toNat_natCast,Int.reduceBEq,Int.reduceBNe,Int.reduceLT,Int.reduceLE,decide_true,decide_false,yj,hs'];done)))|refine ak ?_|(refine ai (fun K hK => ?_);and_intros;all_goals first|(refine hK _ ?_;clear hK K)|try exact aa))
    rw [ah]
    refine au 3 ?_ (by omega) (by decide)
    refine ay [(1,some 1),(2,some 2)] ?_ ?_
    and_intros
    all_goals first|exact ao|skip
   ·repeat' (first|(apply gY;(case hc=>exact eC);(case ht=>(simp only [Int.toNat_natCast,Int.reduceBEq,Int.reduceBNe,Int.reduceLT,Int.reduceLE,decide_true,decide_false,yj,hs'];done)))|refine ak ?_|(refine ai (fun K hK => ?_);and_intros;all_goals first|(refine hK _ ?_;clear hK K)|try exact aa))
    rw [ah]
    refine au 4 ?_ (by omega) (by decide)
    refine ay [(1,some 1),(2,some 2)] ?_ ?_
    and_intros
    all_goals first|exact ao|skip
   ·repeat' (first|(apply gY;(case hc=>exact eC);(case ht=>(simp only [Int.toNat_natCast,Int.reduceBEq,Int.reduceBNe,Int.reduceLT,Int.reduceLE,decide_true,decide_false,yj,hs'];done)))|refine ak ?_|(refine ai (fun K hK => ?_);and_intros;all_goals first|(refine hK _ ?_;clear hK K)|try exact aa))
    rw [ah]
    refine au 5 ?_ (by omega) (by decide)
    refine ay [(1,some 1),(2,some 2)] ?_ ?_
    and_intros
    all_goals first|exact ao|skip
   ·repeat' (first|(apply qU;(case hc=>exact eC);(case ht=>(simp only [Int.toNat_natCast,Int.reduceBEq,Int.reduceBNe,Int.reduceLT,Int.reduceLE,decide_true,decide_false,yj,hs'];done)))|refine ak ?_|(refine ai (fun K hK => ?_);and_intros;all_goals first|(refine hK _ ?_;clear hK K)|try exact aa)|(refine an ?_;(try clear hB KB);(try clear hK K)))
    rfl
theorem KP (m:Image) (x y:Int):aD Sg 90 [ag (aY m),I x,I y] (fun r=>r = .b (ag (aH (dK m x y)))):=by
 have hF:=qG m
 unfold dK
 by_cases h:aW m=false∨x<0∨m.w≤x∨y<0∨m.h≤y
 ·rw [if_pos h]
  have g:(!aW m || decide (x<0) || decide (x≥m.w) || decide (y<0) || decide (y≥m.h))=true:=by
   simp only [Bool.or_eq_true,Bool.not_eq_true',decide_eq_true_eq]
   rcases h with h|h|h|h|h
   ·exact .inl (.inl (.inl (.inl h)))
   ·exact .inl (.inl (.inl (.inr h)))
   ·exact .inl (.inl (.inr h))
   ·exact .inl (.inr h)
   ·exact .inr h
  refine aC Tryz.func90 [.cell 6 41] ?_
  repeat' (first|refine aj g ?_|refine ak ?_|((first|refine ai (fun K hK => ?_)|refine ae (hF) ?_);and_intros;all_goals first|(refine hK _ ?_;clear hK K)|try exact aa)|(refine an ?_;(try clear hB KB);(try clear hK K)))
  rfl
 ·rw [if_neg h]
  have hf:aW m=true:=by
   rw [← Bool.not_eq_false];exact fun q=>h (.inl q)
  have hp:=tH m x y hf (by omega) (by omega) (by omega) (by omega)
  rw [hf] at hF
  have g1:decide (x<0)=false:=decide_eq_false (by omega)
  have g2:decide (x≥m.w)=false:=decide_eq_false (by omega)
  have g3:decide (y<0)=false:=decide_eq_false (by omega)
  have g4:decide (y≥m.h)=false:=decide_eq_false (by omega)
  generalize eG m x y=p at *
  refine aC Tryz.func90 [.cell 6 41] ?_
  repeat' (first|refine aj (And.intro g1 (And.intro g2 (And.intro g3 g4))) ?_|refine ak ?_|((first|refine ai (fun K hK => ?_)|refine ae (hF) ?_|refine ae (hp) ?_);and_intros;all_goals first|(refine hK _ ?_;clear hK K)|try exact aa)|(refine an ?_;(try clear hB KB);(try clear hK K)))
  rfl
theorem mz (m:Image):aD Sg 161 [ag (aY m)] (fun r=>r = .b (I (if bU m.w m.h=false then 6 else if aW m=false then 7 else 0))):=by
 have h1:=wC m.w m.h
 have h2:=qG m
 have ht:True:=trivial
 cases hf:bU m.w m.h
 ·rw [hf] at h1
  rw [if_pos rfl]
  refine aC Tryz.func161 [.tmp 2] ?_
  repeat' (first|with_reducible exact cn|refine aj ht ?_|refine ak ?_|((first|refine ai (fun K hK => ?_)|refine ae (h1) ?_);and_intros;all_goals first|(refine hK _ ?_;clear hK K)|try exact aa)|(refine an ?_;(try clear hB KB);(try clear hK K)))
 ·rw [hf] at h1
  rw [if_neg (by decide)]
  cases hg:aW m
  ·rw [hg] at h2
   rw [if_pos rfl]
   refine aC Tryz.func161 [.tmp 2] ?_
   repeat' (first|with_reducible exact cn|refine aj ht ?_|refine ak ?_|((first|refine ai (fun K hK => ?_)|refine ae (h1) ?_|refine ae (h2) ?_);and_intros;all_goals first|(refine hK _ ?_;clear hK K)|try exact aa)|(refine an ?_;(try clear hB KB);(try clear hK K)))
  ·rw [hg] at h2
   rw [if_neg (by decide)]
   refine aC Tryz.func161 [.tmp 2] ?_
   repeat' (first|with_reducible exact cn|refine aj ht ?_|refine ak ?_|((first|refine ai (fun K hK => ?_)|refine ae (h1) ?_|refine ae (h2) ?_);and_intros;all_goals first|(refine hK _ ?_;clear hK K)|try exact aa)|(refine an ?_;(try clear hB KB);(try clear hK K)))
end Go.Proofs.YtmfblbbemekkoaaGreatDoor
