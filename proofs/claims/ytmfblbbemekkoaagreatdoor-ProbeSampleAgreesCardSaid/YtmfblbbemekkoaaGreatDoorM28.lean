/- Part of the proof: WR, Q1, Y4, WS, WT, WU, DA, VB, DC. -/
import Derived.Test.YtmfblbbemekkoaaGreatDoorM25
import Derived.Test.YtmfblbbemekkoaaGreatDoorM26
import Derived.Test.YtmfblbbemekkoaaGreatDoorM27
set_option linter.unusedSimpArgs false
set_option linter.unusedVariables false
set_option maxHeartbeats 4000000
set_option maxRecDepth 16000
namespace Go.Proofs.YtmfblbbemekkoaaGreatDoor
open Go Go.SL
open Go.RowKit (wrap64)
attribute [local go_sem] cN pE cA Int.toNat_natCast cM
theorem Sz:Sg.P.underlying 169=some (.pointer 204):=by kernel_rfl
attribute [local go_sem] Sz
theorem Hb (bx : Nat → Option Bx) (nx : Nat) (m : Int) (hm : Full m) (hw : ∀ i, nx ≤ i → bx i = none) : ∃ F : Nat → Nat → PV, cQ (F 0) cz ∧ iV Sg bx nx 104 [U m] (.tup [.c (.ptr (nx + 1) 0), I 0])
  (aB (nx+1) (.fix [.p (PU m), .own nx 1]) (aB nx (.arr 201 23 1 F) bx)) (nx+2):=by
 have g:(m != 255 && m != 65535)=false:=by rcases hm.h with q|q <;> rw [q] <;> rfl
 refine ⟨?F, ?hF, ?hI⟩
 case hI =>
  refine dO Tryz.func104 rfl (rs:=[.tmp 2, .tmp 3]) rfl rfl dK (by decide +kernel) (Nat.le_of_ble_eq_true rfl) ?_ (fun kf => ?_)
  ·intro v hv
   rw [List.mem_singleton.1 hv];trivial
  repeat' (first|refine aj g ?_|refine an ?_|(refine ai (fun K hK => ?_);and_intros;(all_goals first|(refine hK _ ?_;clear hK K)|exact aa|skip))|(refine ak ?_;(try clear hB KB);(try clear hK K)))
  refine ⟨oU hw ?_ ?_ (fun i hi h1 h2 => ?_),by omega⟩
  ·simp (maxSteps:=999999)(disch:=omega) only [go_sem]
  ·simp (maxSteps:=999999)(disch:=omega) only [go_sem]
   rfl
  ·simp (maxSteps:=999999)(disch:=omega) only [go_sem]
 intro j hj
 have hivl:j=0∨j=1∨j=2∨j=3∨j=4∨j=5∨j=6∨j=7∨j=8∨j=9∨j=10∨j=11∨j=12∨j=13∨j=14∨j=15∨j=16∨j=17∨j=18∨j=19∨j=20∨j=21∨j=22:=by omega
 rcases hivl with rfl|rfl|rfl|rfl|rfl|rfl|rfl|rfl|rfl|rfl|rfl|rfl|rfl|rfl|rfl|rfl|rfl|rfl|rfl|rfl|rfl|rfl|rfl <;> rfl
theorem EN (bx : Nat → Option Bx) (nx b k n N : Nat) (hN : n + 1 ≤ N) (f : Nat → Nat → PV) (m : Int) (o : Op) (p : Pixel) (ms : Int) (t : Lv)
  (hb:bx b=some (.fix [.p (PU m), .own k (n+1)])) (hk:bx k=some (.arr 201 23 N f)) (hbn:b<nx) (hkn:k<nx) (hbk:b≠k) (hn:n≤1000) (hf:cQ (f n) t)
  (hm:Full m) (hkd:o.kind=1) (ho:1≤o.operator∧o.operator≤12) (hmo:1≤o.mode∧o.mode≤12) (hop:0≤o.opacity∧o.opacity≤m) (hp:PixV p m) (hms:0≤ms∧ms≤m) (hv:AccV t.acc t.back m) (hko:t.op.knockout=true→o.operator=4) (hw:∀ i,nx≤i→bx i=none) :
  ∃ F:Nat→Nat→PV,(cQ (F n) (bJ m o (ax m o p ms) t)∧∀ i,i<n→∀ j,F i j=f i j) ∧
  iV Sg bx nx 112 [.c (.ptr b 0),ag (cT o),ag (aF p),U ms] (.tup [ag (aF (ax m o p ms)),I 0]) (aB k (.arr 201 23 N F) bx) (nx+5):=by
 have hsv:=kN (o:=o) hm hp hms.1 hms.2 hop.1 hop.2
 have hvs:=jC p m
 rw [gi hp] at hvs
 have e:bx=aB b (.fix [.p (PU m), .own k (n+1)]) (aB k (.arr 201 23 N f) bx):=by rw [← bg hk];exact bg hb
 have g:(o.kind != 1)=false:=by rw [bne_eq_false_iff_eq];exact hkd
 have hsc:=fun (st:St) (K:SV→St→Prop) hb hk hK=>pO (st:=st) (K:=K) b k (n+1) N 201 f m o p ms hN hb hk hm hp hms.1 hms.2 hop.1 hop.2 hK
 have hpt:=fun (st:St) (K:SV→St→Prop) hb hk hK=>rL (st:=st) (K:=K) b k (n+1) N n 201 f m o (ax m o p ms) t hN hN hb hk hn hf hm ho hmo hsv hv hko hK
 generalize ax m o p ms=q at *
 generalize bJ m o q t=t' at *
 refine ⟨?F,⟨?hF, ?hG⟩, ?hI⟩
 case hI =>
  refine dO Tryz.func112 rfl (rs:=[.cell 8 41, .tmp 9]) rfl rfl dK (by decide +kernel) (Nat.le_of_ble_eq_true rfl) ?_ (fun kf => ?_)
  ·intro v hv
   simp only [List.mem_cons,List.not_mem_nil,or_false] at hv
   rcases hv with rfl|rfl|rfl|rfl
   ·exact hbn
   ·exact fun c hc=>by (obtain ⟨x,_,rfl⟩:=List.mem_map.1 hc;trivial)
   ·exact fun c hc=>by (obtain ⟨x,_,rfl⟩:=List.mem_map.1 hc;trivial)
   ·trivial
  rw [e]
  repeat' (first|(((with_reducible refine bM (id:=1) [] (by decide +kernel) (by decide +kernel) ?_ (fun K hK => ?_));(first|(refine And.intro (fun iw hiw => ?_) ?_;(focus ((try simp (maxSteps:=999999)(disch:=omega) only [go_sem] at hiw ⊢);(repeat (refine Eq.trans (if_neg ?_) ?_;(focus omega)));exact hw iw (by omega)));(focus (first|exact Nat.zero_le _|(simp (maxSteps:=999999)(disch:=omega) only [go_sem];done)|(simp (maxSteps:=999999)(disch:=omega) only [go_sem];omega))))|exact cR));(try simp (maxSteps:=999999)(disch:=omega) only [go_sem]);and_intros;(all_goals first|(refine hK _ (by simp (maxSteps:=999999)(disch:=omega) only [go_sem]) ?_;clear hK K)|exact aa|skip))|refine an ?_|((first|refine ai (fun K hK => ?_)|refine aD (fun hg=>hvs) ?_);and_intros;(all_goals first|(refine hK _ ?_;clear hK K)|exact aa|skip)))
  refine hK _ trivial ?_
  clear hK
  repeat' (first|refine aj g ?_|refine an ?_|(refine ai (fun K hK => ?_);and_intros;(all_goals first|(refine hK _ ?_;clear hK K)|exact aa|skip)))
  refine hsc _ _ ?_ ?_ ?_
  ·simp (maxSteps:=999999)(disch:=omega) only [go_sem]
  ·simp (maxSteps:=999999)(disch:=omega) only [go_sem]
  simp (maxSteps:=999999)(disch:=omega) only [go_sem]
  refine hK _ ?_
  clear hK
  repeat' (first|refine aj g ?_|refine an ?_|(refine ai (fun K hK => ?_);and_intros;(all_goals first|(refine hK _ ?_;clear hK K)|exact aa|skip)))
  refine fc (id:=6) (.br 0 (.br 1 (.br 2 (.br 3 (.br 4 (.br 5 (.br 6 (.br 7 (.br 8 (.br 9 (.br 10 (.br 11 (.br 12 (.br 13 .leaf .nil) .nil) .nil) .nil) .nil) .nil) (.br 11 (.br 7 (.br 8 (.br 9 (.br 10 (.br 12 (.br 13 .leaf .nil) .nil) .nil) .nil) .nil) .nil) .nil)) .nil) .nil) .nil) .nil) .nil) .nil) .nil) (by decide +kernel) ?_ (fun K0 hW => ?_)
  ·(first|(refine And.intro (fun iw hiw => ?_) ?_;(focus ((try simp (maxSteps:=999999)(disch:=omega) only [go_sem] at hiw ⊢);(repeat (refine Eq.trans (if_neg ?_) ?_;(focus omega)));exact hw iw (by omega)));(focus (first|exact Nat.zero_le _|(simp (maxSteps:=999999)(disch:=omega) only [go_sem];done)|(simp (maxSteps:=999999)(disch:=omega) only [go_sem];omega))))|exact cR)
  replace hW:=ep hW
  repeat' (first|exact ba|(refine bq (fun K' hK' => ?_) ?_)|(simp (maxSteps:=999999)(disch:=omega) only [go_sem];and_intros;(all_goals first|(refine hK' _ ?_;clear hK' K')|trivial|omega|exact Nat.le_of_ble_eq_true rfl|exact aa|skip)))
  all_goals
   refine hpt _ _ ?_ ?_ ?_
   ·simp (maxSteps:=999999)(disch:=omega) only [go_sem]
   ·simp (maxSteps:=999999)(disch:=omega) only [go_sem]
   simp (maxSteps:=999999)(disch:=omega) only [go_sem]
   refine hK' _ ?_
   clear hK' K'
   repeat' (first|exact ba|(refine bq (fun K' hK' => ?_) ?_)|(refine aV (hW _ ?_);clear hW)|(simp (maxSteps:=999999)(disch:=omega) only [go_sem];and_intros;(all_goals first|(refine hK' _ ?_;clear hK' K')|trivial|omega|exact Nat.le_of_ble_eq_true rfl|exact aa|skip)))
   refine dg ?_
   repeat' (first|refine aj g ?_|(((with_reducible refine bM (id:=9) [] (by decide +kernel) (by decide +kernel) ?_ (fun K hK => ?_));(first|(refine And.intro (fun iw hiw => ?_) ?_;(focus ((try simp (maxSteps:=999999)(disch:=omega) only [go_sem] at hiw ⊢);(repeat (refine Eq.trans (if_neg ?_) ?_;(focus omega)));exact hw iw (by omega)));(focus (first|exact Nat.zero_le _|(simp (maxSteps:=999999)(disch:=omega) only [go_sem];done)|(simp (maxSteps:=999999)(disch:=omega) only [go_sem];omega))))|exact cR));(try simp (maxSteps:=999999)(disch:=omega) only [go_sem]);and_intros;(all_goals first|(refine hK _ (by simp (maxSteps:=999999)(disch:=omega) only [go_sem]) ?_;clear hK K)|exact aa|skip))|refine an ?_|(refine ai (fun K hK => ?_);and_intros;(all_goals first|(refine hK _ ?_;clear hK K)|exact aa|skip))|(refine ak ?_;(try clear hB KB);(try clear hK K)))
   refine ⟨rfl,rW (bx:=aB b (.fix [.p (PU m), .own k (n+1)]) (aB k (.arr 201 23 N f) bx)) (nx:=nx) ?_ ?_ (fun i hi h1 => ?_)⟩
   ·rw [← e];exact hw
   ·(first|(simp (maxSteps:=999999)(disch:=omega) only [go_sem];done)|(simp (maxSteps:=999999)(disch:=omega) only [go_sem];rfl))
   ·simp (maxSteps:=999999)(disch:=omega) only [go_sem]
 ·intro j hj
  dsimp only
  rw [if_pos rfl]
  have hivl:j=0∨j=1∨j=2∨j=3∨j=4∨j=5∨j=6∨j=7∨j=8∨j=9∨j=10∨j=11∨j=12∨j=13∨j=14∨j=15∨j=16∨j=17∨j=18∨j=19∨j=20∨j=21∨j=22:=by omega
  rcases hivl with rfl|rfl|rfl|rfl|rfl|rfl|rfl|rfl|rfl|rfl|rfl|rfl|rfl|rfl|rfl|rfl|rfl|rfl|rfl|rfl|rfl|rfl|rfl <;> rfl
 ·intro i hi j
  exact if_neg (by omega)
end Go.Proofs.YtmfblbbemekkoaaGreatDoor
set_option maxHeartbeats 4000000
set_option maxRecDepth 16000
namespace Go.Proofs.YtmfblbbemekkoaaGreatDoor
open Go Go.SL
open Go.RowKit (wrap64)
attribute [local go_sem] cN Int.toNat_natCast cM
def cP (x:Mic):List PV:=[PI x.op,PI x.kind,PU x.inp.c0,PU x.inp.c1,PU x.inp.c2,PU x.inp.a,PU x.inp.f,PU x.back.c0,PU x.back.c1,PU x.back.c2,PU x.back.a,PU x.back.f,PU x.k,PU x.out.c0,PU x.out.c1,PU x.out.c2,PU x.out.a,PU x.out.f]
def fp (g:Nat→Nat→PV) (L:List Mic):Prop:=∀ i,i<L.length→∀ j,j<18→g i j=(cP (L.getD i default)).getD j .any
theorem gN {n:Nat} {g h:Nat→Nat→PV} {L:List Mic} {v:Mic} (hn:L.length=n) (hg:fp g L) (hh:∀ j,j<18→h 0 j=(cP v).getD j .any):fp (fX n g h) (L ++ [v]):=by
 subst hn
 intro i hi j hj
 rw [List.length_append,List.length_singleton] at hi
 unfold fX
 by_cases q:i<L.length
 ·have e:(L ++ [v]).getD i default=L.getD i default:=by
   rw [List.getD_eq_getElem?_getD,List.getD_eq_getElem?_getD,List.getElem?_append_left q]
  rw [if_pos q,hg i q j hj,e]
 ·have e:i=L.length:=by omega
  subst e
  have e:(L ++ [v]).getD L.length default=v:=by
   rw [List.getD_eq_getElem?_getD,List.getElem?_append_right (Nat.le_refl _),Nat.sub_self];rfl
  rw [if_neg q,Nat.sub_self,hh j hj,e]
theorem gV {g:Nat→Nat→PV} {L:List Mic} (h:fp g L):∀ i,i<L.length→∀ j,j<18→PV.le (g i j) (bj cP L i j):=fun i hi j hj=>by
 rw [h i hi j hj]
 exact PV.le_refl _
theorem kJ (L:List Mic):fp (bj cP L) L:=fun _ _ _ _=>rfl
abbrev pM (L:List Mic):PV := .lst 18 L.length (bj cP L)
end Go.Proofs.YtmfblbbemekkoaaGreatDoor
set_option maxHeartbeats 8000000
set_option maxRecDepth 16000
namespace Go.Proofs.YtmfblbbemekkoaaGreatDoor
open Go Go.SL
open Go.RowKit (wrap64)
attribute [local go_sem] Int.toNat_natCast cM cP cN
theorem va:Sg.ti 121=some (1,false):=by kernel_rfl
theorem Mc:Sg.ti 207=some (1,false):=by kernel_rfl
attribute [local go_sem] va Mc
theorem gx (a:Acc):aC Sg 113 [ag (cN a)] (fun r=>r = .b (ag (aF (dP a)))):=by
 have ht:True:=trivial
 unfold dP
 refine aA Tryz.func113 [.cell 2 41] ?_
 repeat' (first|(refine ai (fun K hK => ?_);and_intros;(all_goals first|(refine hK _ ?_;clear hK K)|exact aa|skip))|(refine ak ?_;(try clear hB KB);(try clear hK K)))
 rfl
theorem ng (a0 a1 a2 a3 a4 a5 a6 a7 a8 a9 a10 a11 a12 a13 a14 a15 a16 a17:PV):aC Sg 63 [ag [a0,a1,a2,a3,a4,a5,a6,a7,a8,a9,a10,a11,a12,a13,a14,a15,a16,a17]] (fun r=>r = .tup []):=by
 have ht:True:=trivial
 refine aA Tryz.func63 [] ?_
 repeat' (refine ai (fun K hK => ?_);and_intros;(all_goals first|(refine hK _ ?_;clear hK K)|exact aa|skip))
 exact ⟨trivial,fun _ h=>(by cases h),rfl⟩
def iE:BV := .c (.p (.val (.func (.func 63) #[] #[])))
attribute [local go_sem] iE
theorem nS (bx : Nat → Option Bx) (nx b5 b2 b3 b1 : Nat) (kd k m : Int) (p : Pixel) (v : Mic) (h5 : bx b5 = some (.fix ((aF p).map CV.p))) (h2 : bx b2 = some (.fix [.p (PU m)])) (h3 : bx b3 = some (.fix [.p (.val (.func (.func 63) #[] #[]))])) (h1 : bx b1 = some (.fix ((cP v).map CV.p)))
  (n5:b5<nx) (n2:b2<nx) (n3:b3<nx) (n1:b1<nx) (d52:b5≠b2) (d53:b5≠b3) (d51:b5≠b1) (d23:b2≠b3) (d21:b2≠b1) (d31:b3≠b1)
  (hm:Full m) (hp:PixV p m) (hk:0≤k) (hkm:k≤m) (hw:∀ i,nx≤i→bx i=none) :
  iV Sg bx nx 151 [I kd,U k, .c (.ptr b5 0), .c (.ptr b2 0), .c (.ptr b3 0), .c (.ptr b1 0)] (.tup []) (aB b5 (.fix ((aF (aL p k m)).map CV.p)) bx) (nx+1):=by
 have hs:=jz p k m hm hp hk hkm
 have e:bx=aB b5 (.fix ((aF p).map CV.p)) (aB b2 (.fix [.p (PU m)]) (aB b3 (.fix [.p (.val (.func (.func 63) #[] #[]))]) (aB b1 (.fix ((cP v).map CV.p)) bx))):=by
  rw [← bg h1,← bg h3,← bg h2];exact bg h5
 have ht:True:=trivial
 generalize aL p k m=q at *
 refine dO Tryz.func151 rfl (rs:=[]) rfl rfl dK (by decide +kernel) (Nat.le_of_ble_eq_true rfl) ?_ (fun kf => ?_)
 ·intro v hv
  simp only [List.mem_cons,List.not_mem_nil,or_false] at hv
  rcases hv with rfl|rfl|rfl|rfl|rfl|rfl
  ·trivial
  ·trivial
  ·exact n5
  ·exact n2
  ·exact n3
  ·exact n1
 rw [e]
 repeat' ((first|refine ai (fun K hK => ?_)|refine ae (hs) ?_|refine ae (ng _ _ _ _ _ _ _ _ _ _ _ _ _ _ _ _ _ _) ?_);and_intros;(all_goals first|(refine hK _ ?_;clear hK K)|exact aa|skip))
 refine ⟨trivial,rfl,rW (bx:=aB b5 (.fix ((aF p).map CV.p)) (aB b2 (.fix [.p (PU m)]) (aB b3 (.fix [.p (.val (.func (.func 63) #[] #[]))]) (aB b1 (.fix ((cP v).map CV.p)) bx)))) (nx:=nx) ?_ ?_ (fun i hi h1 => ?_), ?_, ?_, ?_⟩
 ·rw [← e];exact hw
 ·(first|(simp (maxSteps:=999999)(disch:=omega) only [go_sem];done)|(simp (maxSteps:=999999)(disch:=omega) only [go_sem];rfl))
 ·simp (maxSteps:=999999)(disch:=omega) only [go_sem]
 ·simp (maxSteps:=999999)(disch:=omega) only [go_sem]
 ·rfl
 ·exact fun v hv=>(by cases hv)
theorem rr (o:Op) (v:Mic) (k m:Int) (hm:Full m) (hp:PixV v.out m) (hk:0≤k) (hkm:k≤m) (ho:0≤o.opacity) (hom:o.opacity≤m):aC Sg 109 [ag (cT o),ag (cP v),U k,U m,iE] (fun r=>r = .b (ag (aF (ax m o v.out k)))):=by
 have ht:True:=trivial
 unfold ax
 by_cases h:o.mask=0
 ·rw [if_pos h,gr hm]
  have g:(o.mask != 0)=false:=bne_eq_false_iff_eq.2 h
  refine aA Tryz.func109 [.cell 10 41] ?_
  repeat' (first|refine aj g ?_|refine an ?_|((first|refine ai (fun K hK => ?_)|refine ae (ng _ _ _ _ _ _ _ _ _ _ _ _ _ _ _ _ _ _) ?_);and_intros;(all_goals first|(refine hK _ ?_;clear hK K)|exact aa|skip)))
  refine cf (nS _ _ 5 2 3 1 3 o.opacity m v.out v ?_ ?_ ?_ ?_ ?_ ?_ ?_ ?_ (by decide) (by decide) (by decide) (by decide) (by decide) (by decide) hm hp ho hom ?_) rfl ?_ ?_ ?_
  ·simp (maxSteps:=999999)(disch:=omega) only [go_sem]
  ·simp (maxSteps:=999999)(disch:=omega) only [go_sem]
  ·simp (maxSteps:=999999)(disch:=omega) only [go_sem]
  ·simp (maxSteps:=999999)(disch:=omega) only [go_sem]
  ·(first|(simp (maxSteps:=999999)(disch:=omega) only [go_sem];done)|(simp (maxSteps:=999999)(disch:=omega) only [go_sem];omega))
  ·(first|(simp (maxSteps:=999999)(disch:=omega) only [go_sem];done)|(simp (maxSteps:=999999)(disch:=omega) only [go_sem];omega))
  ·(first|(simp (maxSteps:=999999)(disch:=omega) only [go_sem];done)|(simp (maxSteps:=999999)(disch:=omega) only [go_sem];omega))
  ·(first|(simp (maxSteps:=999999)(disch:=omega) only [go_sem];done)|(simp (maxSteps:=999999)(disch:=omega) only [go_sem];omega))
  ·intro iw hiw
   (try simp (maxSteps:=999999)(disch:=omega) only [go_sem] at hiw ⊢)
   (repeat (refine Eq.trans (if_neg ?_) ?_;(focus omega)))
   (try rfl)
  ·intro iw hiw
   (try simp (maxSteps:=999999)(disch:=omega) only [go_sem] at hiw ⊢)
   (repeat (refine Eq.trans (if_neg ?_) ?_;(focus omega)))
   (try rfl)
  ·exact Nat.le_succ _
  simp (maxSteps:=999999)(disch:=omega) only [go_sem]
  refine hK _ ?_
  clear hK
  repeat' (first|(refine ai (fun K hK => ?_);and_intros;(all_goals first|(refine hK _ ?_;clear hK K)|exact aa|skip))|(refine ak ?_;(try clear hB KB);(try clear hK K)))
  rfl
 ·rw [if_neg h]
  have g:(o.mask != 0)=true:=bne_iff_ne.2 h
  have hp2:=gP hm hp hk hkm
  generalize hq:aL v.out k m=q at hp2 ⊢
  refine aA Tryz.func109 [.cell 10 41] ?_
  repeat' (first|refine aj g ?_|refine an ?_|((first|refine ai (fun K hK => ?_)|refine ae (ng _ _ _ _ _ _ _ _ _ _ _ _ _ _ _ _ _ _) ?_);and_intros;(all_goals first|(refine hK _ ?_;clear hK K)|exact aa|skip)))
  refine cf (nS _ _ 5 2 3 1 2 k m v.out v ?_ ?_ ?_ ?_ ?_ ?_ ?_ ?_ (by decide) (by decide) (by decide) (by decide) (by decide) (by decide) hm hp hk hkm ?_) rfl ?_ ?_ ?_
  ·simp (maxSteps:=999999)(disch:=omega) only [go_sem]
  ·simp (maxSteps:=999999)(disch:=omega) only [go_sem]
  ·simp (maxSteps:=999999)(disch:=omega) only [go_sem]
  ·simp (maxSteps:=999999)(disch:=omega) only [go_sem]
  ·(first|(simp (maxSteps:=999999)(disch:=omega) only [go_sem];done)|(simp (maxSteps:=999999)(disch:=omega) only [go_sem];omega))
  ·(first|(simp (maxSteps:=999999)(disch:=omega) only [go_sem];done)|(simp (maxSteps:=999999)(disch:=omega) only [go_sem];omega))
  ·(first|(simp (maxSteps:=999999)(disch:=omega) only [go_sem];done)|(simp (maxSteps:=999999)(disch:=omega) only [go_sem];omega))
  ·(first|(simp (maxSteps:=999999)(disch:=omega) only [go_sem];done)|(simp (maxSteps:=999999)(disch:=omega) only [go_sem];omega))
  ·intro iw hiw
   (try simp (maxSteps:=999999)(disch:=omega) only [go_sem] at hiw ⊢)
   (repeat (refine Eq.trans (if_neg ?_) ?_;(focus omega)))
   (try rfl)
  ·intro iw hiw
   (try simp (maxSteps:=999999)(disch:=omega) only [go_sem] at hiw ⊢)
   (repeat (refine Eq.trans (if_neg ?_) ?_;(focus omega)))
   (try rfl)
  ·exact Nat.le_succ _
  simp (maxSteps:=999999)(disch:=omega) only [go_sem]
  refine hK _ ?_
  clear hK
  rw [hq]
  repeat' (refine ai (fun K hK => ?_);and_intros;(all_goals first|(refine hK _ ?_;clear hK K)|exact aa|skip))
  refine cf (nS _ _ 5 2 3 1 3 o.opacity m q v ?_ ?_ ?_ ?_ ?_ ?_ ?_ ?_ (by decide) (by decide) (by decide) (by decide) (by decide) (by decide) hm hp2 ho hom ?_) rfl ?_ ?_ ?_
  ·simp (maxSteps:=999999)(disch:=omega) only [go_sem]
  ·simp (maxSteps:=999999)(disch:=omega) only [go_sem]
  ·simp (maxSteps:=999999)(disch:=omega) only [go_sem]
  ·simp (maxSteps:=999999)(disch:=omega) only [go_sem]
  ·(first|(simp (maxSteps:=999999)(disch:=omega) only [go_sem];done)|(simp (maxSteps:=999999)(disch:=omega) only [go_sem];omega))
  ·(first|(simp (maxSteps:=999999)(disch:=omega) only [go_sem];done)|(simp (maxSteps:=999999)(disch:=omega) only [go_sem];omega))
  ·(first|(simp (maxSteps:=999999)(disch:=omega) only [go_sem];done)|(simp (maxSteps:=999999)(disch:=omega) only [go_sem];omega))
  ·(first|(simp (maxSteps:=999999)(disch:=omega) only [go_sem];done)|(simp (maxSteps:=999999)(disch:=omega) only [go_sem];omega))
  ·intro iw hiw
   (try simp (maxSteps:=999999)(disch:=omega) only [go_sem] at hiw ⊢)
   (repeat (refine Eq.trans (if_neg ?_) ?_;(focus omega)))
   (try rfl)
  ·intro iw hiw
   (try simp (maxSteps:=999999)(disch:=omega) only [go_sem] at hiw ⊢)
   (repeat (refine Eq.trans (if_neg ?_) ?_;(focus omega)))
   (try rfl)
  ·exact Nat.le_succ _
  simp (maxSteps:=999999)(disch:=omega) only [go_sem]
  refine hK _ ?_
  clear hK
  repeat' (first|(refine ai (fun K hK => ?_);and_intros;(all_goals first|(refine hK _ ?_;clear hK K)|exact aa|skip))|(refine ak ?_;(try clear hB KB);(try clear hK K)))
  rfl
end Go.Proofs.YtmfblbbemekkoaaGreatDoor
set_option maxHeartbeats 8000000
set_option maxRecDepth 16000
namespace Go.Proofs.YtmfblbbemekkoaaGreatDoor
open Go Go.SL
open Go.RowKit (wrap64)
attribute [local go_sem] cN pE cA Int.toNat_natCast cM
attribute [local go_sem] Sz
theorem kh {a c k nx:Nat} {A C:Bx} {bx b:Nat→Option Bx} (hw:∀ i,nx≤i→bx i=none) (h1:b a=some A) (h2:b c=some C) (h3:∀ i,i<nx→i≠a→i≠c→i≠k→b i=bx i):LN (aB a A (aB c C (cY k bx))) b:=fun i y hi=>by
 unfold aB at hi
 split at hi
 ·rename_i e;rw [e,h1];exact hi
 rename_i e
 split at hi
 ·rename_i e2;rw [e2,h2];exact hi
 rename_i e2
 unfold cY at hi
 split at hi
 ·cases hi
 ·rename_i e3
  rcases Nat.lt_or_ge i nx with q|q
  ·rw [h3 i q e e2 e3];exact hi
  ·rw [hw i q] at hi;cases hi
theorem EA (bx : Nat → Option Bx) (nx b k n N : Nat) (hN : n + 1 ≤ N) (f : Nat → Nat → PV) (m : Int) (o : Op) (t : Lv)
  (hb:bx b=some (.fix [.p (PU m), .own k (n+1)])) (hk:bx k=some (.arr 201 23 N f)) (hbn:b<nx) (hkn:k<nx) (hbk:b≠k) (hn:n<64) (hf:cQ (f n) t) (hkd:o.kind=2) (hw:∀ i,nx≤i→bx i=none) :
  ∃ F:Nat→Nat→PV,(cQ (F (n+1)) (fi o t)∧∀ i,i<n+1→∀ j,F i j=f i j) ∧
  iV Sg bx nx 105 [.c (.ptr b 0),ag (cT o)] (.b (I 0)) (aB b (.fix [.p (PU m), .own (nx+5) (n+2)]) (aB (nx+5) (.arr 201 23 (n+2) F) (cY k bx))) (nx+6):=by
 have hst:=ED o.isolated t.op.knockout t.acc t.back
 have hdp:=ni m n f (by omega)
 have htp:=oA m n f t (by omega) hf
 have e:bx=aB b (.fix [.p (PU m), .own k (n+1)]) (aB k (.arr 201 23 N f) bx):=by rw [← bg hk];exact bg hb
 have g1:(o.kind != 2)=false:=by rw [bne_eq_false_iff_eq];exact hkd
 have g2:decide ((n:Int)≥64)=false:=decide_eq_false (by omega)
 unfold fi
 generalize fu o.isolated t.op.knockout t.acc t.back=q at *
 refine ⟨?F,⟨?hF, ?hG⟩, ?hI⟩
 case hI =>
  refine dO Tryz.func105 rfl (rs:=[.tmp 4]) rfl rfl dK (by decide +kernel) (Nat.le_of_ble_eq_true rfl) ?_ (fun kf => ?_)
  ·intro v hv
   simp only [List.mem_cons,List.not_mem_nil,or_false] at hv
   rcases hv with rfl|rfl
   ·exact hbn
   ·exact fun c hc=>by (obtain ⟨x,_,rfl⟩:=List.mem_map.1 hc;trivial)
  rw [e]
  repeat' (first|refine aj (And.intro g1 g2) ?_|refine an ?_|((first|refine ai (fun K hK => ?_)|refine fN (k:=k) (e:=201) hN hdp trivial ?_|refine fN (k:=k) (e:=201) hN htp (xe _) ?_|refine ae (hst) ?_);and_intros;(all_goals first|(refine hK _ ?_;clear hK K)|exact aa|skip)))
  refine fc (id:=7) (.br 0 (.br 1 (.br 2 (.br 3 (.br 4 (.br 5 (.br 6 (.br 7 (.br 8 (.br 9 (.br 10 (.br 11 (.br 12 (.br 13 .leaf .nil) .nil) .nil) .nil) .nil) .nil) .nil) .nil) .nil) .nil) .nil) .nil) .nil) .nil) (by decide +kernel) ?_ (fun K0 hW => ?_)
  ·(first|(refine And.intro (fun iw hiw => ?_) ?_;(focus ((try simp (maxSteps:=999999)(disch:=omega) only [go_sem] at hiw ⊢);(repeat (refine Eq.trans (if_neg ?_) ?_;(focus omega)));exact hw iw (by omega)));(focus (first|exact Nat.zero_le _|(simp (maxSteps:=999999)(disch:=omega) only [go_sem];done)|(simp (maxSteps:=999999)(disch:=omega) only [go_sem];omega))))|exact cR)
  replace hW:=ep hW
  repeat' (first|exact ba|(refine bq (fun K' hK' => ?_) ?_)|(refine aV (hW _ ?_);clear hW)|(simp (maxSteps:=999999)(disch:=omega) only [go_sem];and_intros;(all_goals first|(refine hK' _ ?_;clear hK' K')|trivial|omega|exact Nat.le_of_ble_eq_true rfl|exact aa|skip)))
  all_goals
   refine dg ?_
   repeat' (first|(refine ai (fun K hK => ?_);and_intros;(all_goals first|(refine hK _ ?_;clear hK K)|exact aa|skip))|(refine ak ?_;(try clear hB KB);(try clear hK K)))
   refine kh (bx:=aB b (.fix [.p (PU m), .own k (n+1)]) (aB k (.arr 201 23 N f) bx)) (nx:=nx) ?_ ?_ ?_ (fun i hi h1 h2 h3 => ?_)
   ·rw [← e];exact hw
   ·simp (maxSteps:=999999)(disch:=omega) only [go_sem]
   ·(first|(simp (maxSteps:=999999)(disch:=omega) only [go_sem];done)|(simp (maxSteps:=999999)(disch:=omega) only [go_sem];rfl))
   ·simp (maxSteps:=999999)(disch:=omega) only [go_sem]
 ·intro j hj
  show fX (n+1) f _ (n+1) j=_
  unfold fX
  rw [if_neg (by omega),Nat.sub_self]
  have hivl:j=0∨j=1∨j=2∨j=3∨j=4∨j=5∨j=6∨j=7∨j=8∨j=9∨j=10∨j=11∨j=12∨j=13∨j=14∨j=15∨j=16∨j=17∨j=18∨j=19∨j=20∨j=21∨j=22:=by omega
  rcases hivl with rfl|rfl|rfl|rfl|rfl|rfl|rfl|rfl|rfl|rfl|rfl|rfl|rfl|rfl|rfl|rfl|rfl|rfl|rfl|rfl|rfl|rfl|rfl <;> rfl
 ·intro i hi j
  show fX (n+1) f _ i j=_
  unfold fX
  rw [if_pos hi]
end Go.Proofs.YtmfblbbemekkoaaGreatDoor
set_option maxHeartbeats 8000000
set_option maxRecDepth 16000
namespace Go.Proofs.YtmfblbbemekkoaaGreatDoor
open Go Go.SL
open Go.RowKit (wrap64)
attribute [local go_sem] cN pE cA Int.toNat_natCast cM
attribute [local go_sem] Sz
theorem Gw (bx : Nat → Option Bx) (nx b k n N : Nat) (hN : n + 2 ≤ N) (f : Nat → Nat → PV) (m ms : Int) (t u : Lv)
  (hb:bx b=some (.fix [.p (PU m), .own k (n+2)])) (hk:bx k=some (.arr 201 23 N f)) (hbn:b<nx) (hkn:k<nx) (hbk:b≠k) (hn:n<64) (hf:cQ (f (n+1)) t) (hf2:cQ (f n) u)
  (hm:Full m) (ho:1≤t.op.operator∧t.op.operator≤12) (hmo:1≤t.op.mode∧t.op.mode≤12) (hop:0≤t.op.opacity∧t.op.opacity≤m) (hms:0≤ms∧ms≤m) (hv:AccV t.acc t.back m) (hv2:AccV u.acc u.back m) (hko:u.op.knockout=true→t.op.operator=4) (hw:∀ i,nx≤i→bx i=none) :
  ∃ F:Nat→Nat→PV,(cQ (F n) (bJ m t.op (ax m t.op (aU t.acc t.back m) ms) u)∧∀ i,i<n→∀ j,F i j=f i j) ∧
  iV Sg bx nx 111 [.c (.ptr b 0),U ms] (.tup [ag (aF (ax m t.op (aU t.acc t.back m) ms)),I 0]) (aB b (.fix [.p (PU m), .own k (n+1)]) (aB k (.arr 201 23 N F) bx)) (nx+4):=by
 have hrv:=fW hm hv
 have hr:=lJ t.acc t.back m hm hv
 have hdp:=ni m (n+1) f (by omega)
 have htp:=oA m (n+1) f t (by omega) hf
 have hsv:=kN (o:=t.op) hm hrv hms.1 hms.2 hop.1 hop.2
 have e:bx=aB b (.fix [.p (PU m), .own k (n+2)]) (aB k (.arr 201 23 N f) bx):=by rw [← bg hk];exact bg hb
 have g:(((n+1:Nat):Int) == 0)=false:=by rw [beq_eq_false_iff_ne];omega
 have g2:decide (ms>m)=false:=decide_eq_false (by omega)
 have g3:decide (t.op.opacity>m)=false:=decide_eq_false (by omega)
 have hsc:=fun (st:St) (K:SV→St→Prop) hb hk hK=>pO (st:=st) (K:=K) b k (n+2) N 201 f m t.op (aU t.acc t.back m) ms hN hb hk hm hrv hms.1 hms.2 hop.1 hop.2 hK
 have hpt:=fun (st:St) (K:SV→St→Prop) hb hk hK=>rL (st:=st) (K:=K) b k (n+2) N n 201 f m t.op (ax m t.op (aU t.acc t.back m) ms) u hN (by omega) hb hk (by omega) hf2 hm ho hmo hsv hv2 hko hK
 generalize ax m t.op (aU t.acc t.back m) ms=q at *
 generalize aU t.acc t.back m=res at *
 generalize bJ m t.op q u=t' at *
 refine ⟨?F,⟨?hF, ?hG⟩, ?hI⟩
 case hI =>
  refine dO Tryz.func111 rfl (rs:=[.cell 4 41, .tmp 5]) rfl rfl dK (by decide +kernel) (Nat.le_of_ble_eq_true rfl) ?_ (fun kf => ?_)
  ·intro v hv
   simp only [List.mem_cons,List.not_mem_nil,or_false] at hv
   rcases hv with rfl|rfl
   ·exact hbn
   ·trivial
  rw [e]
  repeat' (first|refine aj (And.intro g (And.intro g2 g3)) ?_|refine an ?_|((first|refine ai (fun K hK => ?_)|refine fN (k:=k) (e:=201) hN hdp trivial ?_|refine fN (k:=k) (e:=201) hN htp (xe _) ?_);and_intros;(all_goals first|(refine hK _ ?_;clear hK K)|exact aa|skip)))
  refine fc (id:=9) (.br 0 (.br 1 (.br 2 (.br 3 (.br 4 (.br 5 (.br 6 (.br 7 (.br 8 (.br 9 (.br 10 (.br 11 (.br 12 (.br 13 (.br 14 .leaf .nil) .nil) .nil) .nil) .nil) .nil) .nil) .nil) .nil) .nil) .nil) .nil) .nil) .nil) .nil) (by decide +kernel) ?_ (fun K0 hW => ?_)
  ·(first|(refine And.intro (fun iw hiw => ?_) ?_;(focus ((try simp (maxSteps:=999999)(disch:=omega) only [go_sem] at hiw ⊢);(repeat (refine Eq.trans (if_neg ?_) ?_;(focus omega)));exact hw iw (by omega)));(focus (first|exact Nat.zero_le _|(simp (maxSteps:=999999)(disch:=omega) only [go_sem];done)|(simp (maxSteps:=999999)(disch:=omega) only [go_sem];omega))))|exact cR)
  replace hW:=ep hW
  repeat' (first|exact ba|(refine bq (fun K' hK' => ?_) ?_)|(refine aV (hW _ ?_);clear hW)|(refine ae (hr) ?_;(try simp (maxSteps:=999999)(disch:=omega) only [go_sem]);and_intros;(all_goals first|(refine hK' _ ?_;clear hK' K')|trivial|omega|exact Nat.le_of_ble_eq_true rfl|exact aa|skip))|(simp (maxSteps:=999999)(disch:=omega) only [go_sem];and_intros;(all_goals first|(refine hK' _ ?_;clear hK' K')|trivial|omega|exact Nat.le_of_ble_eq_true rfl|exact aa|skip)))
  all_goals
   refine dg ?_
   repeat' (first|refine aj g ?_|refine an ?_|(refine ai (fun K hK => ?_);and_intros;(all_goals first|(refine hK _ ?_;clear hK K)|exact aa|skip)))
   refine hsc _ _ ?_ ?_ ?_
   ·simp (maxSteps:=999999)(disch:=omega) only [go_sem]
   ·simp (maxSteps:=999999)(disch:=omega) only [go_sem]
   simp (maxSteps:=999999)(disch:=omega) only [go_sem]
   refine hK _ ?_
   clear hK
   repeat' (first|refine aj g ?_|refine an ?_|(refine ai (fun K hK => ?_);and_intros;(all_goals first|(refine hK _ ?_;clear hK K)|exact aa|skip)))
   refine hpt _ _ ?_ ?_ ?_
   ·simp (maxSteps:=999999)(disch:=omega) only [go_sem]
   ·simp (maxSteps:=999999)(disch:=omega) only [go_sem]
   simp (maxSteps:=999999)(disch:=omega) only [go_sem]
   refine hK _ ?_
   clear hK
   repeat' (first|refine aj g ?_|refine an ?_|(refine ai (fun K hK => ?_);and_intros;(all_goals first|(refine hK _ ?_;clear hK K)|exact aa|skip))|(refine ak ?_;(try clear hB KB);(try clear hK K)))
   refine ⟨rfl,oU (bx:=aB b (.fix [.p (PU m), .own k (n+2)]) (aB k (.arr 201 23 N f) bx)) (nx:=nx) ?_ ?_ ?_ (fun i hi h1 h2 => ?_)⟩
   ·rw [← e];exact hw
   ·simp (maxSteps:=999999)(disch:=omega) only [go_sem]
   ·(first|(simp (maxSteps:=999999)(disch:=omega) only [go_sem];done)|(simp (maxSteps:=999999)(disch:=omega) only [go_sem];rfl))
   ·simp (maxSteps:=999999)(disch:=omega) only [go_sem]
 ·intro j hj
  dsimp only
  rw [if_pos rfl]
  have hivl:j=0∨j=1∨j=2∨j=3∨j=4∨j=5∨j=6∨j=7∨j=8∨j=9∨j=10∨j=11∨j=12∨j=13∨j=14∨j=15∨j=16∨j=17∨j=18∨j=19∨j=20∨j=21∨j=22:=by omega
  rcases hivl with rfl|rfl|rfl|rfl|rfl|rfl|rfl|rfl|rfl|rfl|rfl|rfl|rfl|rfl|rfl|rfl|rfl|rfl|rfl|rfl|rfl|rfl|rfl <;> rfl
 ·intro i hi j
  exact if_neg (by omega)
end Go.Proofs.YtmfblbbemekkoaaGreatDoor
set_option maxHeartbeats 4000000
set_option maxRecDepth 16000
namespace Go.Proofs.YtmfblbbemekkoaaGreatDoor
open Go Go.SL
open Go.RowKit (wrap64)
attribute [local go_sem] cN
def jP (a b:Int):Bool:=(decide (a≥0) == decide (b≥0)) || (decide (IntKind.i64.wrap (a - b)≥0) == decide (a≥0))
theorem Ak (a b:Int):aC Sg 89 [I a,I b] (fun r=>r = .tup [I (IntKind.i64.wrap (a - b)),B (jP a b)]):=by
 refine aA Tryz.func89 [.tmp 4, .tmp 5] ?_
 repeat' (first|(refine ai (fun K hK => ?_);and_intros;(all_goals first|(refine hK _ ?_;clear hK K)|exact aa|skip))|(refine ak ?_;(try clear hB KB);(try clear hK K)))
 first|rfl|(refine congrArg (fun v=>SV.tup [_,B v]) ?_;unfold jP;simp)
theorem GY (n:Int):IntKind.i64.wrap n=(n+9223372036854775808) % 18446744073709551616 - 9223372036854775808:=by
 simp only [IntKind.wrap,IntKind.bits,IntKind.signed]
 simp
 split <;> omega
theorem yF {a b:Int} (ha:i64 a) (hb:i64 b) (h:jP a b=true):IntKind.i64.wrap (a - b)=a - b:=by
 obtain ⟨a1,a2⟩:=ha
 obtain ⟨b1,b2⟩:=hb
 unfold jP at h
 rw [GY] at h ⊢
 simp only [Bool.or_eq_true,beq_iff_eq,decide_eq_decide] at h
 omega
theorem Ac {a b:Int} (ha:i64 a) (hb:i64 b) (h:jP a b=false):a - b < -9223372036854775808∨9223372036854775808≤a - b:=by
 obtain ⟨a1,a2⟩:=ha
 obtain ⟨b1,b2⟩:=hb
 unfold jP at h
 rw [GY] at h
 simp only [Bool.or_eq_false_iff,beq_eq_false_iff_ne,ne_eq,decide_eq_decide] at h
 omega
theorem Gi {m:Image} {x y:Int} (h:x<0∨9223372036854775808≤x∨y<0∨9223372036854775808≤y):eI m x y=aI:=by
 unfold eI
 cases hf:aX m with
 | false=>rw [if_pos (.inl rfl)]
 | true =>
  obtain ⟨a,b,c,d⟩:=lv hf
  rw [if_pos (by omega)]
theorem GJ (s : Script) (i x y dx dy : Int) (hs : ScriptLen s) (hx : i64 x) (hy : i64 y) (hdx : i64 dx) (hdy : i64 dy) :
  aC Sg 57 [ag (aE s),I i,I x,I y,I dx,I dy] (fun r=>r = .b (ag (aF (if 0≤i∧i<s.images.length then eJ (gC s i) x y dx dy else aI)))):=by
 have hl:=hs.images
 have m1:=Ak x dx
 have m2:=Ak y dy
 by_cases hi:0≤i∧i<s.images.length
 ·rw [if_pos hi,ji]
  have g1:decide (i<0)=false:=decide_eq_false (by omega)
  have g2:decide (i≥s.images.length)=false:=decide_eq_false (by omega)
  have hm:∀ px py,aC Sg 90 [ag (aN (s.images.getD i.toNat default)),I px,I py] (fun r=>r = .b (ag (aF (eI (s.images.getD i.toNat default) px py)))):=fun px py=>MW _ px py
  cases h1:jP x dx
  ·have e:eI (gC s i) (x - dx) (y - dy)=aI:=Gi (by have:=Ac hx hdx h1;omega)
   rw [e]
   rw [h1] at m1
   generalize jP y dy=b2 at *
   refine aA Tryz.func57 [.cell 12 41] ?_
   repeat' (first|refine aj (And.intro g1 g2) ?_|refine an ?_|((first|refine ai (fun K hK => ?_)|refine ae (m1) ?_|refine ae (m2) ?_);and_intros;(all_goals first|(refine hK _ ?_;clear hK K)|exact aa|skip))|(refine ak ?_;(try clear hB KB);(try clear hK K)))
   all_goals rfl
  cases h2:jP y dy
  ·have e:eI (gC s i) (x - dx) (y - dy)=aI:=Gi (by have:=Ac hy hdy h2;omega)
   rw [e]
   rw [h1] at m1
   rw [h2] at m2
   refine aA Tryz.func57 [.cell 12 41] ?_
   repeat' (first|refine aj (And.intro g1 g2) ?_|refine an ?_|((first|refine ai (fun K hK => ?_)|refine ae (m1) ?_|refine ae (m2) ?_);and_intros;(all_goals first|(refine hK _ ?_;clear hK K)|exact aa|skip))|(refine ak ?_;(try clear hB KB);(try clear hK K)))
   rfl
  rw [h1,yF hx hdx h1] at m1
  rw [h2,yF hy hdy h2] at m2
  have hv:=hm (x - dx) (y - dy)
  show aC _ _ _ (fun r=>r = .b (ag (aF (eI (s.images.getD i.toNat default) (x - dx) (y - dy)))))
  generalize eI (s.images.getD i.toNat default) (x - dx) (y - dy)=q at *
  refine aA Tryz.func57 [.cell 12 41] ?_
  repeat' (first|refine aj (And.intro g1 g2) ?_|refine an ?_|((first|refine ai (fun K hK => ?_)|refine ae (m1) ?_|refine ae (m2) ?_|refine ae (hv) ?_);and_intros;(all_goals first|(refine hK _ ?_;clear hK K)|exact aa|skip))|(refine ak ?_;(try clear hB KB);(try clear hK K)))
  rfl
 ·rw [if_neg hi]
  have g:(decide (i<0) || decide (i≥s.images.length))=true:=by
   simp only [Bool.or_eq_true,decide_eq_true_eq]
   omega
  generalize jP x dx=b1 at *
  generalize jP y dy=b2 at *
  refine aA Tryz.func57 [.cell 12 41] ?_
  repeat' (first|refine aj g ?_|refine an ?_|((first|refine ai (fun K hK => ?_)|refine ae (m1) ?_|refine ae (m2) ?_);and_intros;(all_goals first|(refine hK _ ?_;clear hK K)|exact aa|skip))|(refine ak ?_;(try clear hB KB);(try clear hK K)))
  all_goals rfl
theorem eR (s : Script) (o : Op) (x y : Int) (hs : ScriptLen s) (hx : i64 x) (hy : i64 y) (h1 : i64 o.x) (h2 : i64 o.y) (h3 : i64 o.maskX) (h4 : i64 o.maskY) (h5 : i64 o.mask) :
  aC Sg 19 [ag (aE s),ag (cT o),I x,I y] (fun r=>r = .tup [ag (aF (bd s x y o).1),U (bd s x y o).2]):=by
 have n1:=GJ s o.image x y o.x o.y hs hx hy h1 h2
 have n2:=GJ s (o.mask - 1) x y o.maskX o.maskY hs hx hy h3 h4
 obtain ⟨q1,q2⟩:=h5
 have e1:(bd s x y o).1=if o.kind=1 then (if 0≤o.image∧o.image<s.images.length then eJ (gC s o.image) x y o.x o.y else aI) else aI:=by
  unfold bd
  dsimp only
  by_cases k:o.kind=1
  ·rw [if_pos k]
   by_cases c:0≤o.image∧o.image<s.images.length
   ·rw [if_pos ⟨k,c⟩,if_pos c]
   ·rw [if_neg (fun q=>c q.2),if_neg c]
  ·rw [if_neg (fun q=>k q.1),if_neg k]
 have e2:(bd s x y o).2=if 0<o.mask then (if 0≤o.mask - 1∧o.mask - 1<s.images.length then eJ (gC s (o.mask - 1)) x y o.maskX o.maskY else aI).a else 0:=by
  unfold bd
  dsimp only
  by_cases k:0<o.mask
  ·rw [if_pos k]
   by_cases c:1≤o.mask∧o.mask≤s.images.length
   ·rw [if_pos c,if_pos (by omega)]
   ·rw [if_neg c,if_neg (by omega)];rfl
  ·rw [if_neg k,if_neg (by omega)]
 rw [e1,e2]
 generalize (if 0≤o.image∧o.image<s.images.length then eJ (gC s o.image) x y o.x o.y else aI)=p1 at *
 generalize (if 0≤o.mask - 1∧o.mask - 1<s.images.length then eJ (gC s (o.mask - 1)) x y o.maskX o.maskY else aI)=p2 at *
 by_cases k1:o.kind=1
 ·rw [if_pos k1]
  have g1:(o.kind == 1)=true:=beq_iff_eq.2 k1
  by_cases k2:0<o.mask
  ·rw [if_pos k2]
   have g2:decide (o.mask>0)=true:=decide_eq_true k2
   refine aA Tryz.func19 [.cell 8 41, .tmp 9] ?_
   repeat' (first|refine aj (And.intro g1 g2) ?_|refine an ?_|((first|refine ai (fun K hK => ?_)|refine ae (n1) ?_|refine ae (n2) ?_);and_intros;(all_goals first|(refine hK _ ?_;clear hK K)|exact aa|skip))|(refine ak ?_;(try clear hB KB);(try clear hK K)))
   rfl
  ·rw [if_neg k2]
   have g2:decide (o.mask>0)=false:=decide_eq_false k2
   refine aA Tryz.func19 [.cell 8 41, .tmp 9] ?_
   repeat' (first|refine aj (And.intro g1 g2) ?_|refine an ?_|((first|refine ai (fun K hK => ?_)|refine ae (n1) ?_);and_intros;(all_goals first|(refine hK _ ?_;clear hK K)|exact aa|skip))|(refine ak ?_;(try clear hB KB);(try clear hK K)))
   rfl
 ·rw [if_neg k1]
  have g1:(o.kind == 1)=false:=beq_eq_false_iff_ne.2 k1
  by_cases k2:0<o.mask
  ·rw [if_pos k2]
   have g2:decide (o.mask>0)=true:=decide_eq_true k2
   refine aA Tryz.func19 [.cell 8 41, .tmp 9] ?_
   repeat' (first|refine aj (And.intro g1 g2) ?_|refine an ?_|((first|refine ai (fun K hK => ?_)|refine ae (n2) ?_);and_intros;(all_goals first|(refine hK _ ?_;clear hK K)|exact aa|skip))|(refine ak ?_;(try clear hB KB);(try clear hK K)))
   rfl
  ·rw [if_neg k2]
   have g2:decide (o.mask>0)=false:=decide_eq_false k2
   refine aA Tryz.func19 [.cell 8 41, .tmp 9] ?_
   repeat' (first|refine aj (And.intro g1 g2) ?_|refine an ?_|(refine ai (fun K hK => ?_);and_intros;(all_goals first|(refine hK _ ?_;clear hK K)|exact aa|skip))|(refine ak ?_;(try clear hB KB);(try clear hK K)))
   rfl
end Go.Proofs.YtmfblbbemekkoaaGreatDoor
set_option maxRecDepth 8000
set_option maxHeartbeats 4000000
namespace Go.Proofs.YtmfblbbemekkoaaGreatDoor
open Go Go.SL
open Go.RowKit (wrap64)
attribute [local go_sem] Int.toNat_natCast
def zS:List CV:=[CV.p (PI 0),CV.p (PI 0),CV.p (PI 0),CV.p (PI 0),CV.p (PI 0),CV.p (PI 0),CV.p (PI 0),CV.p Cb,CV.p Cb,CV.p Cb]
def tS (s:Script) (m:Nat):List CV:=[CV.p (PI s.bits),CV.p (PI s.canvas.x0),CV.p (PI s.canvas.y0),CV.p (PI s.canvas.x1),CV.p (PI s.canvas.y1),CV.p (PI s.tileW),CV.p (PI s.tileH),CV.p (dQ s.order),CV.p (sC s.images),CV.own 3 m]
attribute [local go_sem] zS tS
end Go.Proofs.YtmfblbbemekkoaaGreatDoor
set_option maxHeartbeats 2000000
set_option maxRecDepth 16000
namespace Go.Proofs.YtmfblbbemekkoaaGreatDoor
open Go Go.SL
open Go.RowKit (wrap64)
theorem qK {m:Image} {mx:Int} (h:ImgV m mx) (hs:m.solid=true):PixV m.color mx:=by
 obtain ⟨a,b,_,_⟩:=lv h.f
 have:=h.p 0 0 (Int.le_refl _) (by omega) (Int.le_refl _) (by omega)
 rw [eX,if_pos hs] at this
 exact this
theorem vy (m:Image) (mx:Int) (hm:Full mx) (h:ImgV m mx):aC Sg 42 [ag (aN m),U mx] (fun r=>r = .b (I 0)):=by
 have hf:=h.f
 have h1:=gS m.w m.h
 have h2:=qp m
 have hff:=hf
 rw [show aX m=(cl m.w m.h && eM m) from rfl,Bool.and_eq_true] at hff
 obtain ⟨b1,b2,b3,b4⟩:=lv hf
 rw [hff.1] at h1
 rw [hff.2] at h2
 have ht:True:=trivial
 by_cases hs:m.solid=true
 ·have hv:=dY m.color mx
  have hc:=qK h hs
  rw [gi hc] at hv
  refine aA Tryz.func42 [.tmp 4] ?_
  repeat' (first|with_reducible exact ca|refine aj hs ?_|refine an ?_|((first|refine ai (fun K hK => ?_)|refine ae (h1) ?_|refine ae (h2) ?_|refine ae (hv) ?_);and_intros;(all_goals first|(refine hK _ ?_;clear hK K)|exact aa|skip))|(refine ak ?_;(try clear hB KB);(try clear hK K)))
 ·have hs':m.solid=false:=by simpa using hs
  refine aA Tryz.func42 [.tmp 4] ?_
  repeat' (first|(apply nV;(case hc=>exact eH);(case ht=>(simp only [Int.toNat_natCast,Int.reduceBEq,Int.reduceBNe,Int.reduceLT,Int.reduceLE,decide_true,decide_false,yz,hs'];done)))|refine an ?_|((first|refine ai (fun K hK => ?_)|refine ae (h1) ?_|refine ae (h2) ?_);and_intros;(all_goals first|(refine hK _ ?_;clear hK K)|exact aa|skip)))
  refine aO (X:=Nat) (fun y=>aQ [(1, .b (U mx)),(2, .b (.c (.ptr 0 0))),(5, .b (I y))] [(0, .fix ((aN m).map CV.p))] 1) (fun y=>(y:Int)≤m.h) (fun y=>m.h.toNat - y) 0 ?_ ?_ ?_
  ·omega
  ·refine az [] ?_ ?_
   and_intros
   all_goals first|exact ao|skip
  ·intro y hy
   rcases Int.lt_or_le y m.h with hyl|hyg
   ·repeat' (first|refine an ?_|(refine ai (fun K hK => ?_);and_intros;(all_goals first|(refine hK _ ?_;clear hK K)|exact aa|skip))|(refine aW (fun hb => ?_) (fun hb => ?_);all_goals try exact aG))
    refine aO (X:=Nat) (fun x=>aQ [(1, .b (U mx)),(2, .b (.c (.ptr 0 0))),(5, .b (I y)),(6, .b (I x))] [(0, .fix ((aN m).map CV.p))] 1) (fun x=>(x:Int)≤m.w) (fun x=>m.w.toNat - x) 0 ?_ ?_ ?_
    ·omega
    ·refine az [] ?_ ?_
     and_intros
     all_goals first|exact ao|skip
    ·intro x hx
     rcases Int.lt_or_le x m.w with hxl|hxg
     ·have hp:=zk m x y hf (by omega) hxl (by omega) hyl
      have hv:=dY (eX m x y) mx
      rw [gi (h.p x y (by omega) hxl (by omega) hyl)] at hv
      generalize eX m x y=q at *
      repeat' (first|((first|apply nV|apply zs);(case hc=>exact eH);(case ht=>(simp only [Int.toNat_natCast,Int.reduceBEq,Int.reduceBNe,Int.reduceLT,Int.reduceLE,decide_true,decide_false,yz,hs'];done)))|refine an ?_|((first|refine ai (fun K hK => ?_)|refine ae (hp) ?_|refine ae (hv) ?_);and_intros;(all_goals first|(refine hK _ ?_;clear hK K)|exact aa|skip))|(refine aW (fun hb => ?_) (fun hb => ?_);all_goals try exact aG))
      rw [ah]
      refine aw (x+1) ?_ (by omega) (by omega)
      refine az [] ?_ ?_
      and_intros
      all_goals first|exact ao|skip
     ·repeat' (first|refine an ?_|(refine ai (fun K hK => ?_);and_intros;(all_goals first|(refine hK _ ?_;clear hK K)|exact aa|skip))|(refine aW (fun hb => ?_) (fun hb => ?_);all_goals try exact aG))
      rw [ah]
      refine aw (y+1) ?_ (by omega) (by omega)
      refine az [] ?_ ?_
      and_intros
      all_goals first|exact ao|skip
   ·repeat' (first|with_reducible exact ca|refine an ?_|(refine ai (fun K hK => ?_);and_intros;(all_goals first|(refine hK _ ?_;clear hK K)|exact aa|skip))|(refine aW (fun hb => ?_) (fun hb => ?_);all_goals try exact aG)|(refine ak ?_;(try clear hB KB);(try clear hK K)))
end Go.Proofs.YtmfblbbemekkoaaGreatDoor
set_option maxRecDepth 8000
set_option maxHeartbeats 4000000
namespace Go.Proofs.YtmfblbbemekkoaaGreatDoor
open Go Go.SL
open Go.RowKit (wrap64)
attribute [local go_sem] Int.toNat_natCast
theorem bq {S:Env} {ops:Array Oper} {L:List Oper} {i:Nat} {t r:Tr} {st:St} {K:St→Prop} (h:∀ K':St→Prop,(∀ s,eK S ops L t s K→K' s)→aY S ops [L.getD i default] st K') (hr:eK S ops L r st K):eK S ops L (.br i t r) st K :=
 ⟨h _ (fun _ h=>h),hr⟩
theorem aV {S:Env} {ops:Array Oper} {L:List Oper} {st:St} {K:St→Prop} (h:K st):eK S ops L .leaf st K:=h
theorem ba {S:Env} {ops:Array Oper} {L:List Oper} {st:St} {K:St→Prop}:eK S ops L .nil st K:=trivial
def Qp (s:Script) (d:Scene):Script := { au d with bits:=s.bits,canvas:=s.canvas,tileW:=s.tileW,tileH:=s.tileH,order:=s.order,images:=s.images }
def uI (s:Script) (d:Scene):Script:=⟨s.bits,s.canvas,s.tileW,s.tileH,s.order,s.images ++ [s.images.getD 0 default],(au d).ops⟩
attribute [local go_sem] Qp uI
end Go.Proofs.YtmfblbbemekkoaaGreatDoor
