/- Part of the proof: VB, WM. -/
import Derived.Test.YtcbifofjjpfbcaaGreatDoorM18
import Derived.Test.YtcbifofjjpfbcaaGreatDoorM23
set_option linter.unusedSimpArgs false
set_option linter.unusedVariables false
set_option maxHeartbeats 4000000
set_option maxRecDepth 16000
namespace Go.Proofs.YtcbifofjjpfbcaaGreatDoor
open Go Go.SL
open Go.RowKit (wrap64)
theorem jf (p:Plane) (hl:p.s.length≤4611686018427387904):aA Sg 44 [ag (fj p),ag (fj p)] (fun r=>r = .b (B true)):=by
 have e:∀ n:Int,(n != n)=false:=fun n=>by simp
 refine aD Tryz.func44 [.tmp 4] ?_;repeat' (first|refine ah e ?_|refine aC ?_)
 refine aH (X:=Nat) (fun i=>aT [(2, .b (.c (.ptr 0 0))),(3, .b (.c (.ptr 1 0))),(5, .b (I i))] [(0, .fix ((fj p).map CV.p)),(1, .fix ((fj p).map CV.p))] 2) (fun i=>i≤p.s.length) (fun i=>p.s.length - i) 0 ?_ ?_ ?_
 ·omega
 ·refine au [(1,some 1)] ?_ ?_;and_intros;all_goals try exact aj
 ·intro i hi;have e2:(p.s.getD i default != p.s.getD i default)=false:=by simp
  rcases Nat.lt_or_ge i p.s.length with h|h
  ·repeat' (first|refine ah (And.intro e2 e) ?_|refine aC ?_|(refine aK (fun hb => ?_) (fun hb => ?_) <;> try exact aE))
   rw [ae];refine ak (i+1) ?_ (by omega) (by omega);refine au [(1,some 1)] ?_ ?_;and_intros;all_goals try exact aj
  ·repeat' (first|with_reducible exact bq|refine aC ?_|(refine aK (fun hb => ?_) (fun hb => ?_) <;> try exact aE))
structure ImgLen (m:Image):Prop where
 l0:m.p0.s.length≤4611686018427387904
 l1:m.p1.s.length≤4611686018427387904
 l2:m.p2.s.length≤4611686018427387904
 l3:m.p3.s.length≤4611686018427387904
 l4:m.p4.s.length≤4611686018427387904
theorem fv (m:Image) (hl:ImgLen m):aA Sg 16 [ag (aI m),ag (aI m)] (fun r=>r = .b (B true)):=by
 have ht:True:=trivial;have v0:=jf m.p0 hl.l0;have v1:=jf m.p1 hl.l1;have v2:=jf m.p2 hl.l2;have v3:=jf m.p3 hl.l3;have v4:=jf m.p4 hl.l4;refine aD Tryz.func16 [.tmp 4] ?_;repeat' (refine aC ?_)
 refine aH (X:=Int) (fun k=>aT [(2, .b (.c (.ptr 0 0))),(3, .b (.c (.ptr 1 0))),(5, .b (I k))] [(0, .fix ((aI m).map CV.p)),(1, .fix ((aI m).map CV.p))] 2) (fun k=>0≤k∧k≤5) (fun k=>(5 - k).toNat) 0 ?_ ?_ ?_
 ·omega
 ·refine au [(1,some 1)] ?_ ?_;and_intros;all_goals try exact aj
 ·intro k hk;have hkv:k=0∨k=1∨k=2∨k=3∨k=4∨k=5:=by omega
  rcases hkv with rfl|rfl|rfl|rfl|rfl|rfl
  ·repeat' (first|refine ah ht ?_|refine ax ?_|refine an (fun K hK => ?_)|refine aa (v0) ?_|(refine aq hK ?_;try clear hK K))
   rw [ae];refine ak 1 ?_ (by omega) (by decide);refine au [(1,some 1)] ?_ ?_;and_intros;all_goals try exact aj
  ·repeat' (first|refine ah ht ?_|refine ax ?_|refine an (fun K hK => ?_)|refine aa (v1) ?_|(refine aq hK ?_;try clear hK K))
   rw [ae];refine ak 2 ?_ (by omega) (by decide);refine au [(1,some 1)] ?_ ?_;and_intros;all_goals try exact aj
  ·repeat' (first|refine ah ht ?_|refine ax ?_|refine an (fun K hK => ?_)|refine aa (v2) ?_|(refine aq hK ?_;try clear hK K))
   rw [ae];refine ak 3 ?_ (by omega) (by decide);refine au [(1,some 1)] ?_ ?_;and_intros;all_goals try exact aj
  ·repeat' (first|refine ah ht ?_|refine ax ?_|refine an (fun K hK => ?_)|refine aa (v3) ?_|(refine aq hK ?_;try clear hK K))
   rw [ae];refine ak 4 ?_ (by omega) (by decide);refine au [(1,some 1)] ?_ ?_;and_intros;all_goals try exact aj
  ·repeat' (first|refine ah ht ?_|refine ax ?_|refine an (fun K hK => ?_)|refine aa (v4) ?_|(refine aq hK ?_;try clear hK K))
   rw [ae];refine ak 5 ?_ (by omega) (by decide);refine au [(1,some 1)] ?_ ?_;and_intros;all_goals try exact aj
  ·repeat' (first|refine ah ht ?_|refine aC ?_)
   simp
theorem tw {m:Image} {mx:Int} (h:ImgV m mx) (hs:m.solid=true):PixV m.color mx:=by
 obtain ⟨a,b,_,_⟩:=kO h.f;have:=h.p 0 0 (Int.le_refl _) (by omega) (Int.le_refl _) (by omega);rw [eZ,if_pos hs] at this;exact this
theorem lZ (m:Image) (mx:Int) (hm:Full mx) (h:ImgV m mx):aA Sg 17 [ag (aI m),U mx] (fun r=>r = .b (I 0)):=by
 have hf:=h.f;have h1:=iZ m.w m.h;have h2:=sM m;have hff:=hf;rw [show bd m=(cK m.w m.h && fM m) from rfl,Bool.and_eq_true] at hff;obtain ⟨b1,b2,b3,b4⟩:=kO hf;rw [hff.1] at h1;rw [hff.2] at h2;have ht:True:=trivial;by_cases hs:m.solid=true
 ·have hv:=fW m.color mx;have hc:=tw h hs;rw [jy hc] at hv;refine aD Tryz.func17 [.tmp 4] ?_;repeat' (first|with_reducible exact bq|refine ah hs ?_|refine ax ?_|refine an (fun K hK => ?_)|refine aa (h1) ?_|refine aa (h2) ?_|refine aa (hv) ?_|(refine aq hK ?_;try clear hK K))
 ·have hs':m.solid=false:=by simpa using hs
  refine aD Tryz.func17 [.tmp 4] ?_;repeat' (first|(apply oc;(case hc=>exact bM);(case ht=>(simp only [Int.toNat_natCast,Int.reduceBEq,Int.reduceBNe,Int.reduceLT,Int.reduceLE,decide_true,decide_false,ss,hs'];done)))|refine ax ?_|refine an (fun K hK => ?_)|refine aa (h1) ?_|refine aa (h2) ?_|(refine aq hK ?_;try clear hK K))
  refine aH (X:=Nat) (fun y=>aT [(1, .b (U mx)),(2, .b (.c (.ptr 0 0))),(5, .b (I y))] [(0, .fix ((aI m).map CV.p))] 1) (fun y=>(y:Int)≤m.h) (fun y=>m.h.toNat - y) 0 ?_ ?_ ?_
  ·omega
  ·refine au [] ?_ ?_;and_intros;all_goals try exact aj
  ·intro y hy;rcases Int.lt_or_le y m.h with hyl|hyg
   ·repeat' (first|refine aC ?_|(refine aK (fun hb => ?_) (fun hb => ?_) <;> try exact aE))
    refine aH (X:=Nat) (fun x=>aT [(1, .b (U mx)),(2, .b (.c (.ptr 0 0))),(5, .b (I y)),(6, .b (I x))] [(0, .fix ((aI m).map CV.p))] 1) (fun x=>(x:Int)≤m.w) (fun x=>m.w.toNat - x) 0 ?_ ?_ ?_
    ·omega
    ·refine au [] ?_ ?_;and_intros;all_goals try exact aj
    ·intro x hx;rcases Int.lt_or_le x m.w with hxl|hxg
     ·have hp:=CC m x y hf (by omega) hxl (by omega) hyl;have hv:=fW (eZ m x y) mx;rw [jy (h.p x y (by omega) hxl (by omega) hyl)] at hv;generalize eZ m x y=q at *
      repeat' (first|((first|apply oc|apply oB);(case hc=>exact bM);(case ht=>(simp only [Int.toNat_natCast,Int.reduceBEq,Int.reduceBNe,Int.reduceLT,Int.reduceLE,decide_true,decide_false,ss,hs'];done)))|refine ax ?_|refine an (fun K hK => ?_)|refine aa (hp) ?_|refine aa (hv) ?_|(refine aK (fun hb => ?_) (fun hb => ?_) <;> try exact aE)|(refine aq hK ?_;try clear hK K))
      rw [ae];refine ak (x+1) ?_ (by omega) (by omega);refine au [] ?_ ?_;and_intros;all_goals try exact aj
     ·repeat' (first|refine aC ?_|(refine aK (fun hb => ?_) (fun hb => ?_) <;> try exact aE))
      rw [ae];refine ak (y+1) ?_ (by omega) (by omega);refine au [] ?_ ?_;and_intros;all_goals try exact aj
   ·repeat' (first|with_reducible exact bq|refine aC ?_|(refine aK (fun hb => ?_) (fun hb => ?_) <;> try exact aE))
theorem LJ (s:Script) (V:VOps s) (hs:ScriptLen s) (hm:Full (bg s.bits)) (hi:nQ s):aA Sg 36 [ag (aF s)] (fun r=>r = .tup [I 0,I 0]):=by
 have h1:=mh s hs;have h2:=mc s hs;rw [DI V] at h2;rw [V.frame] at h1;have h3:aA Sg 14 [I s.bits] (fun x=>x = .tup [U (bg s.bits),B (decide (s.bits=8∨s.bits=16))]):=iQ s.bits;have ht:True:=trivial;refine aD Tryz.func36 [.tmp 2, .tmp 3] ?_;repeat' (first|refine ah ht ?_|refine ax ?_|refine an (fun K hK => ?_)|refine aa (h1) ?_|refine aa (h3) ?_|(refine aq hK ?_;try clear hK K))
 refine aH (X:=Nat) (fun i=>aT [(1, .b (.c (.ptr 0 0))),(5, .b (U (bg s.bits))),(7, .b (I i))] [(0, .fix ((aF s).map CV.p))] 1) (fun i=>i≤s.images.length) (fun i=>s.images.length - i) 0 ?_ ?_ ?_
 ·omega
 ·refine au [] ?_ ?_;and_intros;all_goals try exact aj
 ·intro i hil;have hlen:=hs.images;rcases Nat.lt_or_ge i s.images.length with h|h
  ·have hv:=lZ (s.images.getD i default) (bg s.bits) hm (by have:=hi i (by omega) (by omega);unfold gV at this;rw [Int.toNat_natCast] at this;exact this)
   repeat' (first|refine ah ht ?_|refine ax ?_|refine an (fun K hK => ?_)|refine aa (hv) ?_|(refine aK (fun hb => ?_) (fun hb => ?_) <;> try exact aE)|(refine aq hK ?_;try clear hK K))
   rw [ae];refine ak (i+1) ?_ (by omega) (by omega);refine au [] ?_ ?_;and_intros;all_goals try exact aj
  ·repeat' (first|with_reducible exact bq|refine ax ?_|refine an (fun K hK => ?_)|refine aa (h2) ?_|(refine aK (fun hb => ?_) (fun hb => ?_) <;> try exact aE)|(refine aq hK ?_;try clear hK K))
section
theorem Ri:Sg.el 224=some (some 5,223,1,false):=by kernel_rfl
theorem wud {n:Int} (h0:0≤n) (h1:n<4294967296):IntKind.u32.wrap n=n:=by
 show n % 4294967296=n;exact Int.emod_eq_of_lt h0 h1
attribute [local go_sem] List.length_cons List.length_nil Ri wud
theorem zH (p:Pixel) (k m:Int) (hm:Full m) (hp:PixV p m) (hk:0≤k) (hkm:k≤m):aA Sg 130 [ag (aS p),U k,U m] (fun r=>r = .tup [ag (aS (bF p k m)),B true]):=by
 have hvs:=mQ p m;rw [jy hp] at hvs;have d1:decide (k>m)=false:=decide_eq_false (by omega);have hv:=mX hm hp hk hkm;have z0:=hp.n0;have z1:=hp.n1;have z2:=hp.n2;have z3:=hp.a0;have z4:=hp.f0;obtain ⟨u0,u1,u2,u3,u4⟩:=hp.u hm;obtain ⟨v0,v1,v2,v3,v4⟩:=hv.u hm;have hle:=hm.le;have pr:∀ {x:Int},0≤x→x≤65535→0≤x * k∧x * k≤65535 * 65535:=fun h0 h1=>⟨ao h0 hk,az h1 (by omega) hk (by omega)⟩
 have q0:=pr hp.n0 u0;have q1:=pr hp.n1 u1;have q2:=pr hp.n2 u2;have q3:=pr hp.a0 u3;have q4:=pr hp.f0 u4;obtain ⟨e0,e1,e2,e3,e4⟩:(bF p k m).c0=bV (p.c0 * k) m∧(bF p k m).c1=bV (p.c1 * k) m∧(bF p k m).c2=bV (p.c2 * k) m∧(bF p k m).a=bV (p.a * k) m∧(bF p k m).f=bV (p.f * k) m:=⟨rfl,rfl,rfl,rfl,rfl⟩
 have n0:=hv.n0;have n1:=hv.n1;have n2:=hv.n2;have n3:=hv.a0;have n4:=hv.f0;rw [e0] at v0 n0;rw [e1] at v1 n1;rw [e2] at v2 n2;rw [e3] at v3 n3;rw [e4] at v4 n4;have k65:k≤65535:=by omega
 rcases hm.h with rfl|rfl
 ·have dm:((255:Int) != 255)=false:=rfl;have dm2:((255:Int) == 255)=true:=rfl;refine aD Tryz.func130 [.cell 6 37, .tmp 7] ?_;repeat' (first|refine ah (And.intro d1 dm) ?_|refine ax ?_|refine an (fun K hK => ?_)|refine aw (fun hg=>hvs) ?_|(refine aq hK ?_;try clear hK K))
  refine aH (X:=Int) (fun i=>aT [(1, .b (U k)),(2, .b (U 255)),(3, .b (.c (.ptr 0 0))),(6, .b (.c (.ptr 1 0))),(37, .b (.agg [.ptr 0 0, .ptr 0 1, .ptr 0 2, .ptr 0 3, .ptr 0 4])),(38, .b (I i))] [(0, .fix [.p (PU (if 0<i then bV (p.c0 * k) 255 else p.c0)), .p (PU (if 1<i then bV (p.c1 * k) 255 else p.c1)), .p (PU (if 2<i then bV (p.c2 * k) 255 else p.c2)), .p (PU (if 3<i then bV (p.a * k) 255 else p.a)), .p (PU (if 4<i then bV (p.f * k) 255 else p.f))]),(1, .fix ((aS bQ).map CV.p))] 2) (fun i=>0≤i∧i≤5) (fun i=>(5 - i).toNat) 0 ?_ ?_ ?_
  ·omega
  ·refine au [(1,some 1)] ?_ ?_;and_intros;all_goals try exact aj
  ·intro i hi;have hiv:i=0∨i=1∨i=2∨i=3∨i=4∨i=5:=by omega
   rcases hiv with rfl|rfl|rfl|rfl|rfl|rfl
   ·repeat' (first|refine ah (And.intro dm dm2) ?_|refine ax ?_|refine an (fun K hK => ?_)|refine aa (oi _ (by omega) (by omega)) ?_|(refine aq hK ?_;try clear hK K))
    all_goals first|exact Nat.le_of_ble_eq_true rfl|skip
    rw [ae];refine ak 1 ?_ (by omega) (by decide);refine au [(1,some 1)] ?_ ?_;and_intros;all_goals try exact aj
   ·repeat' (first|refine ah (And.intro dm dm2) ?_|refine ax ?_|refine an (fun K hK => ?_)|refine aa (oi _ (by omega) (by omega)) ?_|(refine aq hK ?_;try clear hK K))
    all_goals first|exact Nat.le_of_ble_eq_true rfl|skip
    rw [ae];refine ak 2 ?_ (by omega) (by decide);refine au [(1,some 1)] ?_ ?_;and_intros;all_goals try exact aj
   ·repeat' (first|refine ah (And.intro dm dm2) ?_|refine ax ?_|refine an (fun K hK => ?_)|refine aa (oi _ (by omega) (by omega)) ?_|(refine aq hK ?_;try clear hK K))
    all_goals first|exact Nat.le_of_ble_eq_true rfl|skip
    rw [ae];refine ak 3 ?_ (by omega) (by decide);refine au [(1,some 1)] ?_ ?_;and_intros;all_goals try exact aj
   ·repeat' (first|refine ah (And.intro dm dm2) ?_|refine ax ?_|refine an (fun K hK => ?_)|refine aa (oi _ (by omega) (by omega)) ?_|(refine aq hK ?_;try clear hK K))
    all_goals first|exact Nat.le_of_ble_eq_true rfl|skip
    rw [ae];refine ak 4 ?_ (by omega) (by decide);refine au [(1,some 1)] ?_ ?_;and_intros;all_goals try exact aj
   ·repeat' (first|refine ah (And.intro dm dm2) ?_|refine ax ?_|refine an (fun K hK => ?_)|refine aa (oi _ (by omega) (by omega)) ?_|(refine aq hK ?_;try clear hK K))
    all_goals first|exact Nat.le_of_ble_eq_true rfl|skip
    rw [ae];refine ak 5 ?_ (by omega) (by decide);refine au [(1,some 1)] ?_ ?_;and_intros;all_goals try exact aj
   ·repeat' (first|refine ah (And.intro dm dm2) ?_|refine aC ?_)
    rfl
 ·have dm:((65535:Int) != 65535)=false:=rfl;have dm2:((65535:Int) == 255)=false:=rfl;refine aD Tryz.func130 [.cell 6 37, .tmp 7] ?_;repeat' (first|refine ah (And.intro d1 dm) ?_|refine ax ?_|refine an (fun K hK => ?_)|refine aw (fun hg=>hvs) ?_|(refine aq hK ?_;try clear hK K))
  refine aH (X:=Int) (fun i=>aT [(1, .b (U k)),(2, .b (U 65535)),(3, .b (.c (.ptr 0 0))),(6, .b (.c (.ptr 1 0))),(37, .b (.agg [.ptr 0 0, .ptr 0 1, .ptr 0 2, .ptr 0 3, .ptr 0 4])),(38, .b (I i))] [(0, .fix [.p (PU (if 0<i then bV (p.c0 * k) 65535 else p.c0)), .p (PU (if 1<i then bV (p.c1 * k) 65535 else p.c1)), .p (PU (if 2<i then bV (p.c2 * k) 65535 else p.c2)), .p (PU (if 3<i then bV (p.a * k) 65535 else p.a)), .p (PU (if 4<i then bV (p.f * k) 65535 else p.f))]),(1, .fix ((aS bQ).map CV.p))] 2) (fun i=>0≤i∧i≤5) (fun i=>(5 - i).toNat) 0 ?_ ?_ ?_
  ·omega
  ·refine au [(1,some 1)] ?_ ?_;and_intros;all_goals try exact aj
  ·intro i hi;have hiv:i=0∨i=1∨i=2∨i=3∨i=4∨i=5:=by omega
   rcases hiv with rfl|rfl|rfl|rfl|rfl|rfl
   ·repeat' (first|refine ah (And.intro dm dm2) ?_|refine ax ?_|refine an (fun K hK => ?_)|refine aa (lp _ ⟨by omega,by omega⟩) ?_|(refine aq hK ?_;try clear hK K))
    all_goals first|exact Nat.le_of_ble_eq_true rfl|skip
    rw [ae];refine ak 1 ?_ (by omega) (by decide);refine au [(1,some 1)] ?_ ?_;and_intros;all_goals try exact aj
   ·repeat' (first|refine ah (And.intro dm dm2) ?_|refine ax ?_|refine an (fun K hK => ?_)|refine aa (lp _ ⟨by omega,by omega⟩) ?_|(refine aq hK ?_;try clear hK K))
    all_goals first|exact Nat.le_of_ble_eq_true rfl|skip
    rw [ae];refine ak 2 ?_ (by omega) (by decide);refine au [(1,some 1)] ?_ ?_;and_intros;all_goals try exact aj
   ·repeat' (first|refine ah (And.intro dm dm2) ?_|refine ax ?_|refine an (fun K hK => ?_)|refine aa (lp _ ⟨by omega,by omega⟩) ?_|(refine aq hK ?_;try clear hK K))
    all_goals first|exact Nat.le_of_ble_eq_true rfl|skip
    rw [ae];refine ak 3 ?_ (by omega) (by decide);refine au [(1,some 1)] ?_ ?_;and_intros;all_goals try exact aj
   ·repeat' (first|refine ah (And.intro dm dm2) ?_|refine ax ?_|refine an (fun K hK => ?_)|refine aa (lp _ ⟨by omega,by omega⟩) ?_|(refine aq hK ?_;try clear hK K))
    all_goals first|exact Nat.le_of_ble_eq_true rfl|skip
    rw [ae];refine ak 4 ?_ (by omega) (by decide);refine au [(1,some 1)] ?_ ?_;and_intros;all_goals try exact aj
   ·repeat' (first|refine ah (And.intro dm dm2) ?_|refine ax ?_|refine an (fun K hK => ?_)|refine aa (lp _ ⟨by omega,by omega⟩) ?_|(refine aq hK ?_;try clear hK K))
    all_goals first|exact Nat.le_of_ble_eq_true rfl|skip
    rw [ae];refine ak 5 ?_ (by omega) (by decide);refine au [(1,some 1)] ?_ ?_;and_intros;all_goals try exact aj
   ·repeat' (first|refine ah (And.intro dm dm2) ?_|refine aC ?_)
    rfl
theorem Mr (p:Pixel) (k o m:Int) (hm:Full m) (hp:PixV p m) (hk:0≤k) (hkm:k≤m) (ho:0≤o) (hom:o≤m):aA Sg 170 [ag (aS p),U k,U o,U m] (fun r=>r = .tup [ag (aS (bF (bF p k m) o m)),B true]):=by
 have h1:=zH p k m hm hp hk hkm;have h2:=zH (bF p k m) o m hm (mX hm hp hk hkm) ho hom;have ht:True:=trivial;refine aD Tryz.func170 [.cell 8 37, .tmp 9] ?_;repeat' (first|refine ah ht ?_|refine ax ?_|refine an (fun K hK => ?_)|refine aa (h1) ?_|refine aa (h2) ?_|(refine aq hK ?_;try clear hK K))
 rfl
end
end Go.Proofs.YtcbifofjjpfbcaaGreatDoor
