/- Part of the proof: TB, WM. -/
import Derived.Test.YtcbifofjjpfbcaaGreatDoorM19
set_option linter.unusedSimpArgs false
set_option linter.unusedVariables false
set_option maxHeartbeats 1000000
namespace Go.Proofs.YtcbifofjjpfbcaaGreatDoor
section
variable {s:Script} {m x y:Int}
theorem Ty (C:Pt s m x y) {i:Nat} (hi:i<s.ops.length) (hk:(aB s.ops i).kind=2) {t:Lv} {r:List Lv} (h:At s m i (t :: r)):At s m (i+1) (jA (aB s.ops i) t :: t :: r):=by
 have h2:=Jd C h (show i≤i+1 by omega) (by omega)
 rw [sO hi,jF,lN hk] at h2
 exact h2
end
end Go.Proofs.YtcbifofjjpfbcaaGreatDoor
set_option maxHeartbeats 4000000
set_option maxRecDepth 16000
namespace Go.Proofs.YtcbifofjjpfbcaaGreatDoor
open Go Go.SL
open Go.RowKit (wrap64)
theorem Ow:Sg.el 224=some (some 5,223,1,false):=by kernel_rfl
theorem Ya {n:Int} (h0:0≤n) (h1:n<4294967296):IntKind.u32.wrap n=n:=by
 show n % 4294967296=n
 exact Int.emod_eq_of_lt h0 h1
attribute [local go_sem] List.length_cons List.length_nil Ow Ya
theorem nh (p:Pixel) (k m:Int) (hm:Full m) (hp:PixV p m) (hk:0≤k) (hkm:k≤m):aF Sg 130 [ag (aW p),U k,U m] (fun r=>r = .tup [ag (aW (cc p k m)),B true]):=by
 have hvs:=jv p m
 rw [jZ hp] at hvs
 have d1:decide (k>m)=false:=decide_eq_false (by omega)
 have hv:=pT hm hp hk hkm
 have z0:=hp.n0
 have z1:=hp.n1
 have z2:=hp.n2
 have z3:=hp.a0
 have z4:=hp.f0
 obtain ⟨u0,u1,u2,u3,u4⟩:=hp.u hm
 obtain ⟨v0,v1,v2,v3,v4⟩:=hv.u hm
 have hle:=hm.le
 have pr:∀ {x:Int},0≤x→x≤65535→0≤x * k∧x * k≤65535 * 65535:=fun h0 h1=>⟨az h0 hk,aJ h1 (by omega) hk (by omega)⟩
 have q0:=pr hp.n0 u0
 have q1:=pr hp.n1 u1
 have q2:=pr hp.n2 u2
 have q3:=pr hp.a0 u3
 have q4:=pr hp.f0 u4
 obtain ⟨e0,e1,e2,e3,e4⟩:(cc p k m).c0=cf (p.c0 * k) m∧(cc p k m).c1=cf (p.c1 * k) m∧(cc p k m).c2=cf (p.c2 * k) m∧(cc p k m).a=cf (p.a * k) m∧(cc p k m).f=cf (p.f * k) m:=⟨rfl,rfl,rfl,rfl,rfl⟩
 have n0:=hv.n0
 have n1:=hv.n1
 have n2:=hv.n2
 have n3:=hv.a0
 have n4:=hv.f0
 rw [e0] at v0 n0
 rw [e1] at v1 n1
 rw [e2] at v2 n2
 rw [e3] at v3 n3
 rw [e4] at v4 n4
 have k65:k≤65535:=by omega
 rcases hm.h with rfl|rfl
 ·have dm:((255:Int) != 255)=false:=rfl
  have dm2:((255:Int) == 255)=true:=rfl
  refine aI Tryz.func130 [.cell 6 37, .tmp 7] ?_
  repeat' (first|refine ak (And.intro d1 dm) ?_|refine an ?_|((first|refine aj (fun K hK => ?_)|refine aq (fun hg=>hvs) ?_);and_intros;all_goals first|(refine hK _ ?_;clear hK K)|try exact aa))
  refine aM (X:=Int) (fun i=>bg [(1, .b (U k)),(2, .b (U 255)),(3, .b (.c (.ptr 0 0))),(6, .b (.c (.ptr 1 0))),(37, .b (.agg [.ptr 0 0, .ptr 0 1, .ptr 0 2, .ptr 0 3, .ptr 0 4])),(38, .b (I i))] [(0, .fix [.p (PU (if 0<i then cf (p.c0 * k) 255 else p.c0)), .p (PU (if 1<i then cf (p.c1 * k) 255 else p.c1)), .p (PU (if 2<i then cf (p.c2 * k) 255 else p.c2)), .p (PU (if 3<i then cf (p.a * k) 255 else p.a)), .p (PU (if 4<i then cf (p.f * k) 255 else p.f))]),(1, .fix ((aW ba).map CV.p))] 2) (fun i=>0≤i∧i≤5) (fun i=>(5 - i).toNat) 0 ?_ ?_ ?_
  ·omega
  ·refine aE [(1,some 1)] ?_ ?_
   and_intros
   all_goals first|exact aw|skip
  ·intro i hi
   have hiv:i=0∨i=1∨i=2∨i=3∨i=4∨i=5:=by omega
   rcases hiv with rfl|rfl|rfl|rfl|rfl|rfl
   ·repeat' (first|refine ak (And.intro dm dm2) ?_|refine an ?_|((first|refine aj (fun K hK => ?_)|refine ae (mu _ (by omega) (by omega)) ?_);and_intros;all_goals first|(refine hK _ ?_;clear hK K)|try exact aa))
    all_goals first|exact Nat.le_of_ble_eq_true rfl|skip
    rw [ah]
    refine au 1 ?_ (by omega) (by decide)
    refine aE [(1,some 1)] ?_ ?_
    and_intros
    all_goals first|exact aw|skip
   ·repeat' (first|refine ak (And.intro dm dm2) ?_|refine an ?_|((first|refine aj (fun K hK => ?_)|refine ae (mu _ (by omega) (by omega)) ?_);and_intros;all_goals first|(refine hK _ ?_;clear hK K)|try exact aa))
    all_goals first|exact Nat.le_of_ble_eq_true rfl|skip
    rw [ah]
    refine au 2 ?_ (by omega) (by decide)
    refine aE [(1,some 1)] ?_ ?_
    and_intros
    all_goals first|exact aw|skip
   ·repeat' (first|refine ak (And.intro dm dm2) ?_|refine an ?_|((first|refine aj (fun K hK => ?_)|refine ae (mu _ (by omega) (by omega)) ?_);and_intros;all_goals first|(refine hK _ ?_;clear hK K)|try exact aa))
    all_goals first|exact Nat.le_of_ble_eq_true rfl|skip
    rw [ah]
    refine au 3 ?_ (by omega) (by decide)
    refine aE [(1,some 1)] ?_ ?_
    and_intros
    all_goals first|exact aw|skip
   ·repeat' (first|refine ak (And.intro dm dm2) ?_|refine an ?_|((first|refine aj (fun K hK => ?_)|refine ae (mu _ (by omega) (by omega)) ?_);and_intros;all_goals first|(refine hK _ ?_;clear hK K)|try exact aa))
    all_goals first|exact Nat.le_of_ble_eq_true rfl|skip
    rw [ah]
    refine au 4 ?_ (by omega) (by decide)
    refine aE [(1,some 1)] ?_ ?_
    and_intros
    all_goals first|exact aw|skip
   ·repeat' (first|refine ak (And.intro dm dm2) ?_|refine an ?_|((first|refine aj (fun K hK => ?_)|refine ae (mu _ (by omega) (by omega)) ?_);and_intros;all_goals first|(refine hK _ ?_;clear hK K)|try exact aa))
    all_goals first|exact Nat.le_of_ble_eq_true rfl|skip
    rw [ah]
    refine au 5 ?_ (by omega) (by decide)
    refine aE [(1,some 1)] ?_ ?_
    and_intros
    all_goals first|exact aw|skip
   ·repeat' (first|refine ak (And.intro dm dm2) ?_|refine an ?_|(refine aj (fun K hK => ?_);and_intros;all_goals first|(refine hK _ ?_;clear hK K)|try exact aa)|(refine ai ?_;(try clear hB KB);(try clear hK K)))
    rfl
 ·have dm:((65535:Int) != 65535)=false:=rfl
  have dm2:((65535:Int) == 255)=false:=rfl
  refine aI Tryz.func130 [.cell 6 37, .tmp 7] ?_
  repeat' (first|refine ak (And.intro d1 dm) ?_|refine an ?_|((first|refine aj (fun K hK => ?_)|refine aq (fun hg=>hvs) ?_);and_intros;all_goals first|(refine hK _ ?_;clear hK K)|try exact aa))
  refine aM (X:=Int) (fun i=>bg [(1, .b (U k)),(2, .b (U 65535)),(3, .b (.c (.ptr 0 0))),(6, .b (.c (.ptr 1 0))),(37, .b (.agg [.ptr 0 0, .ptr 0 1, .ptr 0 2, .ptr 0 3, .ptr 0 4])),(38, .b (I i))] [(0, .fix [.p (PU (if 0<i then cf (p.c0 * k) 65535 else p.c0)), .p (PU (if 1<i then cf (p.c1 * k) 65535 else p.c1)), .p (PU (if 2<i then cf (p.c2 * k) 65535 else p.c2)), .p (PU (if 3<i then cf (p.a * k) 65535 else p.a)), .p (PU (if 4<i then cf (p.f * k) 65535 else p.f))]),(1, .fix ((aW ba).map CV.p))] 2) (fun i=>0≤i∧i≤5) (fun i=>(5 - i).toNat) 0 ?_ ?_ ?_
  ·omega
  ·refine aE [(1,some 1)] ?_ ?_
   and_intros
   all_goals first|exact aw|skip
  ·intro i hi
   have hiv:i=0∨i=1∨i=2∨i=3∨i=4∨i=5:=by omega
   rcases hiv with rfl|rfl|rfl|rfl|rfl|rfl
   ·repeat' (first|refine ak (And.intro dm dm2) ?_|refine an ?_|((first|refine aj (fun K hK => ?_)|refine ae (jz _ ⟨by omega,by omega⟩) ?_);and_intros;all_goals first|(refine hK _ ?_;clear hK K)|try exact aa))
    all_goals first|exact Nat.le_of_ble_eq_true rfl|skip
    rw [ah]
    refine au 1 ?_ (by omega) (by decide)
    refine aE [(1,some 1)] ?_ ?_
    and_intros
    all_goals first|exact aw|skip
   ·repeat' (first|refine ak (And.intro dm dm2) ?_|refine an ?_|((first|refine aj (fun K hK => ?_)|refine ae (jz _ ⟨by omega,by omega⟩) ?_);and_intros;all_goals first|(refine hK _ ?_;clear hK K)|try exact aa))
    all_goals first|exact Nat.le_of_ble_eq_true rfl|skip
    rw [ah]
    refine au 2 ?_ (by omega) (by decide)
    refine aE [(1,some 1)] ?_ ?_
    and_intros
    all_goals first|exact aw|skip
   ·repeat' (first|refine ak (And.intro dm dm2) ?_|refine an ?_|((first|refine aj (fun K hK => ?_)|refine ae (jz _ ⟨by omega,by omega⟩) ?_);and_intros;all_goals first|(refine hK _ ?_;clear hK K)|try exact aa))
    all_goals first|exact Nat.le_of_ble_eq_true rfl|skip
    rw [ah]
    refine au 3 ?_ (by omega) (by decide)
    refine aE [(1,some 1)] ?_ ?_
    and_intros
    all_goals first|exact aw|skip
   ·repeat' (first|refine ak (And.intro dm dm2) ?_|refine an ?_|((first|refine aj (fun K hK => ?_)|refine ae (jz _ ⟨by omega,by omega⟩) ?_);and_intros;all_goals first|(refine hK _ ?_;clear hK K)|try exact aa))
    all_goals first|exact Nat.le_of_ble_eq_true rfl|skip
    rw [ah]
    refine au 4 ?_ (by omega) (by decide)
    refine aE [(1,some 1)] ?_ ?_
    and_intros
    all_goals first|exact aw|skip
   ·repeat' (first|refine ak (And.intro dm dm2) ?_|refine an ?_|((first|refine aj (fun K hK => ?_)|refine ae (jz _ ⟨by omega,by omega⟩) ?_);and_intros;all_goals first|(refine hK _ ?_;clear hK K)|try exact aa))
    all_goals first|exact Nat.le_of_ble_eq_true rfl|skip
    rw [ah]
    refine au 5 ?_ (by omega) (by decide)
    refine aE [(1,some 1)] ?_ ?_
    and_intros
    all_goals first|exact aw|skip
   ·repeat' (first|refine ak (And.intro dm dm2) ?_|refine an ?_|(refine aj (fun K hK => ?_);and_intros;all_goals first|(refine hK _ ?_;clear hK K)|try exact aa)|(refine ai ?_;(try clear hB KB);(try clear hK K)))
    rfl
theorem BN (p:Pixel) (k o m:Int) (hm:Full m) (hp:PixV p m) (hk:0≤k) (hkm:k≤m) (ho:0≤o) (hom:o≤m):aF Sg 170 [ag (aW p),U k,U o,U m] (fun r=>r = .tup [ag (aW (cc (cc p k m) o m)),B true]):=by
 have h1:=nh p k m hm hp hk hkm
 have h2:=nh (cc p k m) o m hm (pT hm hp hk hkm) ho hom
 have ht:True:=trivial
 refine aI Tryz.func170 [.cell 8 37, .tmp 9] ?_
 repeat' (first|refine ak ht ?_|refine an ?_|((first|refine aj (fun K hK => ?_)|refine ae (h1) ?_|refine ae (h2) ?_);and_intros;all_goals first|(refine hK _ ?_;clear hK K)|try exact aa)|(refine ai ?_;(try clear hB KB);(try clear hK K)))
 rfl
end Go.Proofs.YtcbifofjjpfbcaaGreatDoor
