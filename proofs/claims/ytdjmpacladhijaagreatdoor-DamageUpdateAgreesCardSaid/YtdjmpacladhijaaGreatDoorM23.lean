/- Part of the proof: WM. -/
import Derived.Test.YtdjmpacladhijaaGreatDoorM22
set_option linter.unusedSimpArgs false
set_option linter.unusedVariables false
set_option maxHeartbeats 4000000
set_option maxRecDepth 16000
namespace Go.Proofs.YtdjmpacladhijaaGreatDoor
open Go Go.SL
open Go.RowKit (wrap64)
theorem Xp:Sg.el 286=some (some 5,285,1,false):=by kernel_rfl
theorem wud {n:Int} (h0:0≤n) (h1:n<4294967296):IntKind.u32.wrap n=n:=by
 show n % 4294967296=n;exact Int.emod_eq_of_lt h0 h1
attribute [local go_sem] List.length_cons List.length_nil Xp wud
theorem CO (p:Pixel) (k m:Int) (hm:Full m) (hp:PixV p m) (hk:0≤k) (hkm:k≤m):aB Sg 216 [ag (aU p),U k,U m] (fun r=>r = .tup [ag (aU (bY p k m)),B true]):=by
 have hvs:=pF p m;rw [lA hp] at hvs;have d1:decide (k>m)=false:=decide_eq_false (by omega);have hv:=qv hm hp hk hkm;have z0:=hp.n0;have z1:=hp.n1;have z2:=hp.n2;have z3:=hp.a0;have z4:=hp.f0;obtain ⟨u0,u1,u2,u3,u4⟩:=hp.u hm;obtain ⟨v0,v1,v2,v3,v4⟩:=hv.u hm;have hle:=hm.le;have pr:∀ {x:Int},0≤x→x≤65535→0≤x * k∧x * k≤65535 * 65535:=fun h0 h1=>⟨au h0 hk,aD h1 (by omega) hk (by omega)⟩
 have q0:=pr hp.n0 u0;have q1:=pr hp.n1 u1;have q2:=pr hp.n2 u2;have q3:=pr hp.a0 u3;have q4:=pr hp.f0 u4;obtain ⟨e0,e1,e2,e3,e4⟩:(bY p k m).c0=cn (p.c0 * k) m∧(bY p k m).c1=cn (p.c1 * k) m∧(bY p k m).c2=cn (p.c2 * k) m∧(bY p k m).a=cn (p.a * k) m∧(bY p k m).f=cn (p.f * k) m:=⟨rfl,rfl,rfl,rfl,rfl⟩
 have n0:=hv.n0;have n1:=hv.n1;have n2:=hv.n2;have n3:=hv.a0;have n4:=hv.f0;rw [e0] at v0 n0;rw [e1] at v1 n1;rw [e2] at v2 n2;rw [e3] at v3 n3;rw [e4] at v4 n4;have k65:k≤65535:=by omega
 rcases hm.h with rfl|rfl
 ·have dm:((255:Int) != 255)=false:=rfl;have dm2:((255:Int) == 255)=true:=rfl;refine az Tryz.func216 [.cell 6 43, .tmp 7] ?_;repeat' (first|refine aj (And.intro d1 dm) ?_|refine aw ?_|refine an (fun K hK => ?_)|refine aA (fun hg=>hvs) ?_|(refine aq hK ?_;try clear hK K))
  refine aK (X:=Int) (fun i=>aP [(1, .b (U k)),(2, .b (U 255)),(3, .b (.c (.ptr 0 0))),(6, .b (.c (.ptr 1 0))),(37, .b (.agg [.ptr 0 0, .ptr 0 1, .ptr 0 2, .ptr 0 3, .ptr 0 4])),(38, .b (I i))] [(0, .fix [.p (PU (if 0<i then cn (p.c0 * k) 255 else p.c0)), .p (PU (if 1<i then cn (p.c1 * k) 255 else p.c1)), .p (PU (if 2<i then cn (p.c2 * k) 255 else p.c2)), .p (PU (if 3<i then cn (p.a * k) 255 else p.a)), .p (PU (if 4<i then cn (p.f * k) 255 else p.f))]),(1, .fix ((aU bG).map CV.p))] 2) (fun i=>0≤i∧i≤5) (fun i=>(5 - i).toNat) 0 ?_ ?_ ?_
  ·omega
  ·refine ar [(1,some 1)] ?_ ?_;and_intros;all_goals try exact ak
  ·intro i hi;have hiv:i=0∨i=1∨i=2∨i=3∨i=4∨i=5:=by omega
   rcases hiv with rfl|rfl|rfl|rfl|rfl|rfl
   ·repeat' (first|refine aj (And.intro dm dm2) ?_|refine aw ?_|refine an (fun K hK => ?_)|refine aa (rn _ (by omega) (by omega)) ?_|(refine aq hK ?_;try clear hK K))
    all_goals first|exact Nat.le_of_ble_eq_true rfl|skip
    rw [ae];refine ao 1 ?_ (by omega) (by decide);refine ar [(1,some 1)] ?_ ?_;and_intros;all_goals try exact ak
   ·repeat' (first|refine aj (And.intro dm dm2) ?_|refine aw ?_|refine an (fun K hK => ?_)|refine aa (rn _ (by omega) (by omega)) ?_|(refine aq hK ?_;try clear hK K))
    all_goals first|exact Nat.le_of_ble_eq_true rfl|skip
    rw [ae];refine ao 2 ?_ (by omega) (by decide);refine ar [(1,some 1)] ?_ ?_;and_intros;all_goals try exact ak
   ·repeat' (first|refine aj (And.intro dm dm2) ?_|refine aw ?_|refine an (fun K hK => ?_)|refine aa (rn _ (by omega) (by omega)) ?_|(refine aq hK ?_;try clear hK K))
    all_goals first|exact Nat.le_of_ble_eq_true rfl|skip
    rw [ae];refine ao 3 ?_ (by omega) (by decide);refine ar [(1,some 1)] ?_ ?_;and_intros;all_goals try exact ak
   ·repeat' (first|refine aj (And.intro dm dm2) ?_|refine aw ?_|refine an (fun K hK => ?_)|refine aa (rn _ (by omega) (by omega)) ?_|(refine aq hK ?_;try clear hK K))
    all_goals first|exact Nat.le_of_ble_eq_true rfl|skip
    rw [ae];refine ao 4 ?_ (by omega) (by decide);refine ar [(1,some 1)] ?_ ?_;and_intros;all_goals try exact ak
   ·repeat' (first|refine aj (And.intro dm dm2) ?_|refine aw ?_|refine an (fun K hK => ?_)|refine aa (rn _ (by omega) (by omega)) ?_|(refine aq hK ?_;try clear hK K))
    all_goals first|exact Nat.le_of_ble_eq_true rfl|skip
    rw [ae];refine ao 5 ?_ (by omega) (by decide);refine ar [(1,some 1)] ?_ ?_;and_intros;all_goals try exact ak
   ·repeat' (first|refine aj (And.intro dm dm2) ?_|refine aC ?_)
    rfl
 ·have dm:((65535:Int) != 65535)=false:=rfl;have dm2:((65535:Int) == 255)=false:=rfl;refine az Tryz.func216 [.cell 6 43, .tmp 7] ?_;repeat' (first|refine aj (And.intro d1 dm) ?_|refine aw ?_|refine an (fun K hK => ?_)|refine aA (fun hg=>hvs) ?_|(refine aq hK ?_;try clear hK K))
  refine aK (X:=Int) (fun i=>aP [(1, .b (U k)),(2, .b (U 65535)),(3, .b (.c (.ptr 0 0))),(6, .b (.c (.ptr 1 0))),(37, .b (.agg [.ptr 0 0, .ptr 0 1, .ptr 0 2, .ptr 0 3, .ptr 0 4])),(38, .b (I i))] [(0, .fix [.p (PU (if 0<i then cn (p.c0 * k) 65535 else p.c0)), .p (PU (if 1<i then cn (p.c1 * k) 65535 else p.c1)), .p (PU (if 2<i then cn (p.c2 * k) 65535 else p.c2)), .p (PU (if 3<i then cn (p.a * k) 65535 else p.a)), .p (PU (if 4<i then cn (p.f * k) 65535 else p.f))]),(1, .fix ((aU bG).map CV.p))] 2) (fun i=>0≤i∧i≤5) (fun i=>(5 - i).toNat) 0 ?_ ?_ ?_
  ·omega
  ·refine ar [(1,some 1)] ?_ ?_;and_intros;all_goals try exact ak
  ·intro i hi;have hiv:i=0∨i=1∨i=2∨i=3∨i=4∨i=5:=by omega
   rcases hiv with rfl|rfl|rfl|rfl|rfl|rfl
   ·repeat' (first|refine aj (And.intro dm dm2) ?_|refine aw ?_|refine an (fun K hK => ?_)|refine aa (nr _ ⟨by omega,by omega⟩) ?_|(refine aq hK ?_;try clear hK K))
    all_goals first|exact Nat.le_of_ble_eq_true rfl|skip
    rw [ae];refine ao 1 ?_ (by omega) (by decide);refine ar [(1,some 1)] ?_ ?_;and_intros;all_goals try exact ak
   ·repeat' (first|refine aj (And.intro dm dm2) ?_|refine aw ?_|refine an (fun K hK => ?_)|refine aa (nr _ ⟨by omega,by omega⟩) ?_|(refine aq hK ?_;try clear hK K))
    all_goals first|exact Nat.le_of_ble_eq_true rfl|skip
    rw [ae];refine ao 2 ?_ (by omega) (by decide);refine ar [(1,some 1)] ?_ ?_;and_intros;all_goals try exact ak
   ·repeat' (first|refine aj (And.intro dm dm2) ?_|refine aw ?_|refine an (fun K hK => ?_)|refine aa (nr _ ⟨by omega,by omega⟩) ?_|(refine aq hK ?_;try clear hK K))
    all_goals first|exact Nat.le_of_ble_eq_true rfl|skip
    rw [ae];refine ao 3 ?_ (by omega) (by decide);refine ar [(1,some 1)] ?_ ?_;and_intros;all_goals try exact ak
   ·repeat' (first|refine aj (And.intro dm dm2) ?_|refine aw ?_|refine an (fun K hK => ?_)|refine aa (nr _ ⟨by omega,by omega⟩) ?_|(refine aq hK ?_;try clear hK K))
    all_goals first|exact Nat.le_of_ble_eq_true rfl|skip
    rw [ae];refine ao 4 ?_ (by omega) (by decide);refine ar [(1,some 1)] ?_ ?_;and_intros;all_goals try exact ak
   ·repeat' (first|refine aj (And.intro dm dm2) ?_|refine aw ?_|refine an (fun K hK => ?_)|refine aa (nr _ ⟨by omega,by omega⟩) ?_|(refine aq hK ?_;try clear hK K))
    all_goals first|exact Nat.le_of_ble_eq_true rfl|skip
    rw [ae];refine ao 5 ?_ (by omega) (by decide);refine ar [(1,some 1)] ?_ ?_;and_intros;all_goals try exact ak
   ·repeat' (first|refine aj (And.intro dm dm2) ?_|refine aC ?_)
    rfl
theorem Tz (p:Pixel) (k o m:Int) (hm:Full m) (hp:PixV p m) (hk:0≤k) (hkm:k≤m) (ho:0≤o) (hom:o≤m):aB Sg 206 [ag (aU p),U k,U o,U m] (fun r=>r = .tup [ag (aU (bY (bY p k m) o m)),B true]):=by
 have h1:=CO p k m hm hp hk hkm;have h2:=CO (bY p k m) o m hm (qv hm hp hk hkm) ho hom;have ht:True:=trivial;refine az Tryz.func206 [.cell 8 43, .tmp 9] ?_;repeat' (first|refine aj ht ?_|refine aw ?_|refine an (fun K hK => ?_)|refine aa (h1) ?_|refine aa (h2) ?_|(refine aq hK ?_;try clear hK K))
 rfl
end Go.Proofs.YtdjmpacladhijaaGreatDoor
