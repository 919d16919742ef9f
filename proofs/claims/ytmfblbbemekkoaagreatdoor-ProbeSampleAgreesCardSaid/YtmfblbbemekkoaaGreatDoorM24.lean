/- Part of the proof: WI, WJ, WK, WL, WM, D6. -/
import Derived.Test.YtmfblbbemekkoaaGreatDoorM22
set_option linter.unusedSimpArgs false
set_option linter.unusedVariables false
set_option maxHeartbeats 4000000
set_option maxRecDepth 16000
namespace Go.Proofs.YtmfblbbemekkoaaGreatDoor
open Go Go.SL
open Go.RowKit (wrap64)
attribute [local go_sem] qE jt
theorem oj (mode m cs sl fs c cb ab : Int) (hm : Full m) (hmo : 1 ≤ mode ∧ mode ≤ 12) (hs : Pre cs sl m) (hd : Pre cb ab m) (hf : sl ≤ fs) (hfm : fs ≤ m) (hc : 0 ≤ c) (hcm : c ≤ m) :
  aC Sg 223 [I mode,U m,U cs,U sl,U fs,U c,U cb,U ab] (fun r=>r = .tup [U (dr mode m cs sl fs c cb ab),B true]):=by
 have hok:=pQ (mode:=mode) hm hs hd hf hfm hc hcm
 have hkl:=mg (mode:=mode) (acc:=m) hm hs hd hf hfm hc hcm (Int.le_refl _)
 have ht:=kt (mode:=mode) hm hs hd
 have hh:=rf _ hok
 have hn:=(lz hok).2.2
 obtain ⟨s0,sa,am⟩:=hs
 obtain ⟨d0,db,bm⟩:=hd
 have hle:=hm.le
 have hp:=hm.pos
 have hb:=vR mode cs sl cb ab hmo ⟨s0,sa,by omega,d0,db,by omega⟩
 have hu:=wJ m
 rw [show decide (m=255∨m=65535)=true from decide_eq_true hm.h] at hu
 have g2:decide (sl>fs)=false:=decide_eq_false (by omega)
 have g3:decide (fs>m)=false:=decide_eq_false (by omega)
 have g5:decide (ab>m)=false:=decide_eq_false (by omega)
 have g6:decide (c>m)=false:=decide_eq_false (by omega)
 have hka:dc m sl fs m ab≤m:=(jv hm (by omega) hf hfm (by omega) (Int.le_refl _) (by omega) bm).2
 have hw:IntKind.u16.wrap (dr mode m cs sl fs c cb ab)=dr mode m cs sl fs c cb ab:=fz hn (by omega)
 obtain ⟨k1,k2,k3,k4,k5,k6,k7,k8,_⟩:=hok
 obtain ⟨t0,t1,t2,t3,t4,t5,t6,t7,_⟩:=ht
 unfold dr at *
 unfold ey at *
 dsimp only at k1 k2 k3 k4 k5 k6 k7 k8
 generalize aZ mode cs sl cb ab=T at *
 have e1:0≤(m - fs) * c∧(m - fs) * c≤65535 * 65535:=⟨ar (by omega) (by omega),ay (by omega) (by omega) (by omega) (by omega)⟩
 have e2:0≤(fs - sl) * cb∧(fs - sl) * cb≤65535 * 65535:=⟨ar (by omega) (by omega),ay (by omega) (by omega) (by omega) (by omega)⟩
 have e3:0≤(m - ab) * cs∧(m - ab) * cs≤65535 * 65535:=⟨ar (by omega) (by omega),ay (by omega) (by omega) (by omega) (by omega)⟩
 have hsu:=CM (m - fs) c (fs - sl) cb (m - ab) cs ⟨by omega,by omega⟩ ⟨hc,by omega⟩ ⟨by omega,by omega⟩ ⟨d0,by omega⟩ ⟨by omega,by omega⟩ ⟨s0,by omega⟩
 have w1:=jn ((m - fs) * c+(fs - sl) * cb+(m - ab) * cs) T.d ⟨by omega,by omega⟩ ⟨by omega,by omega⟩
 have w2:=pj (((m - fs) * c+(fs - sl) * cb+(m - ab) * cs) * T.d) T.p (ar (by omega) (by omega)) t0 (by omega)
 rw [Int.add_comm _ T.p] at w2
 refine aA Tryz.func223 [.tmp 16, .tmp 17] ?_
 repeat' (first|refine aj (And.intro g2 (And.intro g3 (And.intro g5 g6))) ?_|refine an ?_|((first|refine ai (fun K hK => ?_)|refine ae (hb) ?_|refine aD (fun hg=>hu) ?_);and_intros;(all_goals first|(refine hK _ ?_;clear hK K)|exact aa|skip)))
 refine dN (id:=4) (.br 0 (.br 1 (.br 2 (.br 3 (.br 4 (.br 5 (.br 6 (.br 7 (.br 8 (.br 9 (.br 10 (.br 11 (.br 12 (.br 13 (.br 14 (.br 16 (.br 17 (.br 15 (.br 18 (.br 19 (.br 20 (.br 21 (.br 22 (.br 23 (.br 24 .leaf .nil) .nil) .nil) .nil) .nil) .nil) (.br 22 (.br 18 (.br 19 (.br 20 (.br 21 (.br 23 (.br 24 .leaf .nil) .nil) .nil) .nil) .nil) .nil) .nil)) (.br 22 (.br 15 (.br 18 (.br 19 (.br 20 (.br 21 (.br 23 (.br 24 .leaf .nil) .nil) .nil) .nil) .nil) .nil) .nil) .nil)) .nil) .nil) .nil) .nil) .nil) .nil) .nil) .nil) .nil) .nil) .nil) .nil) .nil) .nil) .nil) .nil) .nil) (by decide +kernel) (by (first|(refine And.intro (fun iw hiw => ?_) ?_;(focus ((try simp (maxSteps:=999999)(disch:=omega) only [go_sem] at hiw ⊢);(repeat (refine Eq.trans (if_neg ?_) ?_;(focus omega)));exact hw iw (by omega)));(focus (first|exact Nat.zero_le _|(simp (maxSteps:=999999)(disch:=omega) only [go_sem];done)|(simp (maxSteps:=999999)(disch:=omega) only [go_sem];omega))))|exact cR)) (fun K0 hW => ?_)
 refine (fun (tl:∀ st,Le st (aQ [(1, .b (U m)),(18, .b (.c (.ptr 0 0))),(20, .b (.c (.ptr 1 0)))] [(0, .fix ((jt T).map CV.p)),(1, .fix ((qE (T.p+((m - fs) * c+(fs - sl) * cb+(m - ab) * cs) * T.d)).map CV.p))] 2)→K0 st) => ?_) (fun st hl=>hW st _ hl ?_)
 ·clear hW
  repeat' (first|exact ba|(refine bq (fun K' hK' => ?_) ?_)|(refine aV (tl _ ?_);clear tl)|((first|refine ae (hsu) ?_|refine ae (w1) ?_|refine ae (w2) ?_);(try simp (maxSteps:=999999)(disch:=omega) only [go_sem]);and_intros;(all_goals first|(refine hK' _ ?_;clear hK' K')|trivial|omega|exact Nat.le_of_ble_eq_true rfl|exact aa|skip))|(simp (maxSteps:=999999)(disch:=omega) only [go_sem];and_intros;(all_goals first|(refine hK' _ ?_;clear hK' K')|trivial|omega|exact Nat.le_of_ble_eq_true rfl|exact aa|skip)))
  all_goals
   refine az [(1,some 1)] ?_ ?_
   and_intros
   all_goals first|exact ao|skip
 clear hW
 repeat' (first|with_reducible exact ca|((first|refine ai (fun K hK => ?_)|refine ae (hh) ?_);and_intros;(all_goals first|(refine hK _ ?_;clear hK K)|exact aa|skip))|(refine ak ?_;(try clear hB KB);(try clear hK K)))
 all_goals skip
end Go.Proofs.YtmfblbbemekkoaaGreatDoor
set_option maxHeartbeats 4000000
set_option maxRecDepth 16000
namespace Go.Proofs.YtmfblbbemekkoaaGreatDoor
open Go Go.SL
open Go.RowKit (wrap64)
theorem jC (p:Pixel) (m:Int):aC Sg 117 [ag (aF p),U m] (fun r=>r = .b (B (ky p m))):=by
 have ht:True:=trivial
 have no:∀ {q:Prop},(¬ q)→(ky p m=true→q)→ky p m=false:=fun h1 h2=>by
  rw [← Bool.not_eq_true];exact fun h=>h1 (h2 h)
 have ok:ky p m=true↔p.c0≤p.a∧p.c1≤p.a∧p.c2≤p.a∧p.a≤p.f∧p.f≤m:=by unfold ky;rw [decide_eq_true_eq]
 refine aA Tryz.func117 [.tmp 4] ?_
 repeat' (first|refine an ?_|(refine ai (fun K hK => ?_);and_intros;(all_goals first|(refine hK _ ?_;clear hK K)|exact aa|skip)))
 refine aO (X:=Int) (fun k=>aQ [(1, .b (U m)),(2, .b (.c (.ptr 0 0))),(8, .b (ag [PU p.c0,PU p.c1,PU p.c2])),(9, .b (I k))] [(0, .fix ((aF p).map CV.p))] 1) (fun k=>0≤k∧k≤3∧(0<k→p.c0≤p.a)∧(1<k→p.c1≤p.a)∧(2<k→p.c2≤p.a)) (fun k=>(3 - k).toNat) 0 ?_ ?_ ?_
 ·exact ⟨by decide,by decide,fun h=>absurd h (by decide),fun h=>absurd h (by decide),fun h=>absurd h (by decide)⟩
 ·refine az [(0,some 0)] ?_ ?_
  and_intros
  all_goals first|exact ao|skip
 ·rintro k ⟨k0,k3,i0,i1,i2⟩
  have hv:k=0∨k=1∨k=2∨k=3:=by omega
  rcases hv with rfl|rfl|rfl|rfl
  ·repeat' (first|refine aj ht ?_|refine an ?_|(refine ai (fun K hK => ?_);and_intros;(all_goals first|(refine hK _ ?_;clear hK K)|exact aa|skip))|(refine aW (fun hb => ?_) (fun hb => ?_);all_goals try exact aG)|(refine ak ?_;(try clear hB KB);(try clear hK K)))
   ·rw [no (q:=p.c0≤p.a) (by omega) (fun h=>(ok.1 h).1)]
   ·rw [ah]
    refine aw 1 ?_ ⟨by decide,by decide,fun _=>by omega,fun h=>absurd h (by decide),fun h=>absurd h (by decide)⟩ (by decide)
    refine az [(0,some 0)] ?_ ?_
    and_intros
    all_goals first|exact ao|skip
  ·repeat' (first|refine aj ht ?_|refine an ?_|(refine ai (fun K hK => ?_);and_intros;(all_goals first|(refine hK _ ?_;clear hK K)|exact aa|skip))|(refine aW (fun hb => ?_) (fun hb => ?_);all_goals try exact aG)|(refine ak ?_;(try clear hB KB);(try clear hK K)))
   ·rw [no (q:=p.c1≤p.a) (by omega) (fun h=>(ok.1 h).2.1)]
   ·rw [ah]
    refine aw 2 ?_ ⟨by decide,by decide,fun _=>i0 (by decide),fun _=>by omega,fun h=>absurd h (by decide)⟩ (by decide)
    refine az [(0,some 0)] ?_ ?_
    and_intros
    all_goals first|exact ao|skip
  ·repeat' (first|refine aj ht ?_|refine an ?_|(refine ai (fun K hK => ?_);and_intros;(all_goals first|(refine hK _ ?_;clear hK K)|exact aa|skip))|(refine aW (fun hb => ?_) (fun hb => ?_);all_goals try exact aG)|(refine ak ?_;(try clear hB KB);(try clear hK K)))
   ·rw [no (q:=p.c2≤p.a) (by omega) (fun h=>(ok.1 h).2.2.1)]
   ·rw [ah]
    refine aw 3 ?_ ⟨by decide,by decide,fun _=>i0 (by decide),fun _=>i1 (by decide),fun _=>by omega⟩ (by decide)
    refine az [(0,some 0)] ?_ ?_
    and_intros
    all_goals first|exact ao|skip
  ·have j0:=i0 (by decide)
   have j1:=i1 (by decide)
   have j2:=i2 (by decide)
   repeat' (first|refine aj ht ?_|refine an ?_|(refine ai (fun K hK => ?_);and_intros;(all_goals first|(refine hK _ ?_;clear hK K)|exact aa|skip))|(refine ak ?_;(try clear hB KB);(try clear hK K)))
   refine congrArg (fun v=>SV.b (B v)) ?_
   rw [Bool.eq_iff_iff,ok]
   simp only [Bool.and_eq_true,decide_eq_true_eq]
   omega
end Go.Proofs.YtmfblbbemekkoaaGreatDoor
set_option maxHeartbeats 4000000
set_option maxRecDepth 16000
namespace Go.Proofs.YtmfblbbemekkoaaGreatDoor
open Go Go.SL
open Go.RowKit (wrap64)
theorem nM (c k own m:Int) (hm:Full m) (hc:0≤c) (hcm:c≤m) (hk:0≤k) (hkm:k≤m) (ho:0≤own) (hom:own≤m):aC Sg 150 [U c,U k,U own,U m] (fun r=>r = .b (U (iK c k own m))):=by
 have hle:=hm.le
 have hp:=hm.pos
 have e1:0≤m * c∧m * c≤65535 * 65535:=⟨ar (by omega) hc,ay hle (by omega) hc (by decide)⟩
 have e2:0≤(m - own) * k∧(m - own) * k≤65535 * 65535:=⟨ar (by omega) hk,ay (by omega) (by omega) hk (by decide)⟩
 unfold iK
 by_cases h:(m - own) * k<m * c
 ·have g1:decide (m * c≤(m - own) * k)=false:=decide_eq_false (by omega)
  have hh:=tP (m * c - (m - own) * k) m ⟨by omega,by omega⟩ ⟨by omega,by omega⟩
  have hn:=de (n:=m * c - (m - own) * k) hp (by omega)
  have hl:=po (n:=m * c - (m - own) * k) (k:=c) hp (by omega)
  rw [if_pos h]
  generalize bL (m * c - (m - own) * k) m=v at *
  refine aA Tryz.func150 [.tmp 8] ?_
  repeat' (first|refine aj g1 ?_|refine an ?_|((first|refine ai (fun K hK => ?_)|refine ae (hh) ?_);and_intros;(all_goals first|(refine hK _ ?_;clear hK K)|exact aa|skip))|(refine ak ?_;(try clear hB KB);(try clear hK K)))
  refine congrArg (fun x=>SV.b (U x)) ?_
  first|(split <;> omega)|(rw [fz hn (by omega)];split <;> omega)
 ·have g1:decide (m * c≤(m - own) * k)=true:=decide_eq_true (by omega)
  rw [if_neg h]
  refine aA Tryz.func150 [.tmp 8] ?_
  repeat' (first|with_reducible exact ca|refine aj g1 ?_|refine an ?_|(refine ai (fun K hK => ?_);and_intros;(all_goals first|(refine hK _ ?_;clear hK K)|exact aa|skip))|(refine ak ?_;(try clear hB KB);(try clear hK K)))
end Go.Proofs.YtmfblbbemekkoaaGreatDoor
set_option maxHeartbeats 4000000
set_option maxRecDepth 16000
namespace Go.Proofs.YtmfblbbemekkoaaGreatDoor
open Go Go.SL
open Go.RowKit (wrap64)
def RP (x:Acc):List PV:=[PU x.c0,PU x.c1,PU x.c2,PU x.a,PU x.own,PU x.f]
attribute [local go_sem] RP
theorem ED (i k:Bool) (x:Acc) (b:Pixel):aC Sg 148 [B i,B k,ag (RP x),ag (aF b)] (fun r=>r = .tup [ag (RP (zN (fu i k x b))),ag (aF (fu i k x b))]):=by
 have ht:True:=trivial
 cases i <;> cases k
 all_goals
  refine aA Tryz.func148 [.cell 8 156, .cell 9 41] ?_
  repeat' (first|refine aj ht ?_|(((with_reducible refine bM (id:=5) [(23,5),(25,5),(7,5),(8,6),(9,7)] (by decide +kernel) (by decide +kernel) ?_ (fun K hK => ?_));(first|(refine And.intro (fun iw hiw => ?_) ?_;(focus ((try simp (maxSteps:=999999)(disch:=omega) only [go_sem] at hiw ⊢);(repeat (refine Eq.trans (if_neg ?_) ?_;(focus omega)));exact hw iw (by omega)));(focus (first|exact Nat.zero_le _|(simp (maxSteps:=999999)(disch:=omega) only [go_sem];done)|(simp (maxSteps:=999999)(disch:=omega) only [go_sem];omega))))|exact cR));(try simp (maxSteps:=999999)(disch:=omega) only [go_sem]);and_intros;(all_goals first|(refine hK _ (by simp (maxSteps:=999999)(disch:=omega) only [go_sem]) ?_;clear hK K)|exact aa|skip))|refine an ?_|(refine ai (fun K hK => ?_);and_intros;(all_goals first|(refine hK _ ?_;clear hK K)|exact aa|skip))|(refine ak ?_;(try clear hB KB);(try clear hK K)))
 all_goals rfl
end Go.Proofs.YtmfblbbemekkoaaGreatDoor
set_option maxHeartbeats 4000000
set_option maxRecDepth 16000
namespace Go.Proofs.YtmfblbbemekkoaaGreatDoor
open Go Go.SL
open Go.RowKit (wrap64)
theorem Iq:Sg.el 176=some (some 5,175,1,false):=by kernel_rfl
theorem TR {n:Int} (h0:0≤n) (h1:n<4294967296):IntKind.u32.wrap n=n:=by
 show n % 4294967296=n
 exact Int.emod_eq_of_lt h0 h1
attribute [local go_sem] List.length_cons List.length_nil Iq TR
theorem jz (p:Pixel) (k m:Int) (hm:Full m) (hp:PixV p m) (hk:0≤k) (hkm:k≤m):aC Sg 67 [ag (aF p),U k,U m] (fun r=>r = .tup [ag (aF (aL p k m)),B true]):=by
 have hvs:=jC p m
 rw [gi hp] at hvs
 have d1:decide (k>m)=false:=decide_eq_false (by omega)
 have hv:=gP hm hp hk hkm
 have z0:=hp.n0
 have z1:=hp.n1
 have z2:=hp.n2
 have z3:=hp.a0
 have z4:=hp.f0
 obtain ⟨u0,u1,u2,u3,u4⟩:=hp.u hm
 obtain ⟨v0,v1,v2,v3,v4⟩:=hv.u hm
 have hle:=hm.le
 have pr:∀ {x:Int},0≤x→x≤65535→0≤x * k∧x * k≤65535 * 65535:=fun h0 h1=>⟨ar h0 hk,ay h1 (by omega) hk (by omega)⟩
 have q0:=pr hp.n0 u0
 have q1:=pr hp.n1 u1
 have q2:=pr hp.n2 u2
 have q3:=pr hp.a0 u3
 have q4:=pr hp.f0 u4
 obtain ⟨e0,e1,e2,e3,e4⟩:(aL p k m).c0=bL (p.c0 * k) m∧(aL p k m).c1=bL (p.c1 * k) m∧(aL p k m).c2=bL (p.c2 * k) m∧(aL p k m).a=bL (p.a * k) m∧(aL p k m).f=bL (p.f * k) m:=⟨rfl,rfl,rfl,rfl,rfl⟩
 have n0:=hv.n0
 have n1:=hv.n1
 have n2:=hv.n2
 have n3:=hv.a0
 have n4:=hv.f0
 rw [e0] at v0 n0
 rw [e1] at v1 n1
 rw [e2] at v2 n2
 rw [e3] at v3 n3
 rw [e4] at v4 n4
 have k65:k≤65535:=by omega
 rcases hm.h with rfl|rfl
 ·have dm:((255:Int) != 255)=false:=rfl
  have dm2:((255:Int) == 255)=true:=rfl
  refine aA Tryz.func67 [.cell 6 41, .tmp 7] ?_
  repeat' (first|refine aj (And.intro d1 dm) ?_|refine an ?_|((first|refine ai (fun K hK => ?_)|refine aD (fun hg=>hvs) ?_);and_intros;(all_goals first|(refine hK _ ?_;clear hK K)|exact aa|skip)))
  refine aO (X:=Int) (fun i=>aQ [(1, .b (U k)),(2, .b (U 255)),(3, .b (.c (.ptr 0 0))),(6, .b (.c (.ptr 1 0))),(37, .b (.agg [.ptr 0 0, .ptr 0 1, .ptr 0 2, .ptr 0 3, .ptr 0 4])),(38, .b (I i))] [(0, .fix [.p (PU (if 0<i then bL (p.c0 * k) 255 else p.c0)), .p (PU (if 1<i then bL (p.c1 * k) 255 else p.c1)), .p (PU (if 2<i then bL (p.c2 * k) 255 else p.c2)), .p (PU (if 3<i then bL (p.a * k) 255 else p.a)), .p (PU (if 4<i then bL (p.f * k) 255 else p.f))]),(1, .fix ((aF aI).map CV.p))] 2) (fun i=>0≤i∧i≤5) (fun i=>(5 - i).toNat) 0 ?_ ?_ ?_
  ·omega
  ·refine az [(1,some 1)] ?_ ?_
   and_intros
   all_goals first|exact ao|skip
  ·intro i hi
   have hiv:i=0∨i=1∨i=2∨i=3∨i=4∨i=5:=by omega
   rcases hiv with rfl|rfl|rfl|rfl|rfl|rfl
   ·repeat' (first|refine aj (And.intro dm dm2) ?_|refine an ?_|((first|refine ai (fun K hK => ?_)|refine ae (mC _ (by omega) (by omega)) ?_);and_intros;(all_goals first|(refine hK _ ?_;clear hK K)|exact aa|skip)))
    all_goals first|exact Nat.le_of_ble_eq_true rfl|skip
    rw [ah]
    refine aw 1 ?_ (by omega) (by decide)
    refine az [(1,some 1)] ?_ ?_
    and_intros
    all_goals first|exact ao|skip
   ·repeat' (first|refine aj (And.intro dm dm2) ?_|refine an ?_|((first|refine ai (fun K hK => ?_)|refine ae (mC _ (by omega) (by omega)) ?_);and_intros;(all_goals first|(refine hK _ ?_;clear hK K)|exact aa|skip)))
    all_goals first|exact Nat.le_of_ble_eq_true rfl|skip
    rw [ah]
    refine aw 2 ?_ (by omega) (by decide)
    refine az [(1,some 1)] ?_ ?_
    and_intros
    all_goals first|exact ao|skip
   ·repeat' (first|refine aj (And.intro dm dm2) ?_|refine an ?_|((first|refine ai (fun K hK => ?_)|refine ae (mC _ (by omega) (by omega)) ?_);and_intros;(all_goals first|(refine hK _ ?_;clear hK K)|exact aa|skip)))
    all_goals first|exact Nat.le_of_ble_eq_true rfl|skip
    rw [ah]
    refine aw 3 ?_ (by omega) (by decide)
    refine az [(1,some 1)] ?_ ?_
    and_intros
    all_goals first|exact ao|skip
   ·repeat' (first|refine aj (And.intro dm dm2) ?_|refine an ?_|((first|refine ai (fun K hK => ?_)|refine ae (mC _ (by omega) (by omega)) ?_);and_intros;(all_goals first|(refine hK _ ?_;clear hK K)|exact aa|skip)))
    all_goals first|exact Nat.le_of_ble_eq_true rfl|skip
    rw [ah]
    refine aw 4 ?_ (by omega) (by decide)
    refine az [(1,some 1)] ?_ ?_
    and_intros
    all_goals first|exact ao|skip
   ·repeat' (first|refine aj (And.intro dm dm2) ?_|refine an ?_|((first|refine ai (fun K hK => ?_)|refine ae (mC _ (by omega) (by omega)) ?_);and_intros;(all_goals first|(refine hK _ ?_;clear hK K)|exact aa|skip)))
    all_goals first|exact Nat.le_of_ble_eq_true rfl|skip
    rw [ah]
    refine aw 5 ?_ (by omega) (by decide)
    refine az [(1,some 1)] ?_ ?_
    and_intros
    all_goals first|exact ao|skip
   ·repeat' (first|refine aj (And.intro dm dm2) ?_|refine an ?_|(refine ai (fun K hK => ?_);and_intros;(all_goals first|(refine hK _ ?_;clear hK K)|exact aa|skip))|(refine ak ?_;(try clear hB KB);(try clear hK K)))
    rfl
 ·have dm:((65535:Int) != 65535)=false:=rfl
  have dm2:((65535:Int) == 255)=false:=rfl
  refine aA Tryz.func67 [.cell 6 41, .tmp 7] ?_
  repeat' (first|refine aj (And.intro d1 dm) ?_|refine an ?_|((first|refine ai (fun K hK => ?_)|refine aD (fun hg=>hvs) ?_);and_intros;(all_goals first|(refine hK _ ?_;clear hK K)|exact aa|skip)))
  refine aO (X:=Int) (fun i=>aQ [(1, .b (U k)),(2, .b (U 65535)),(3, .b (.c (.ptr 0 0))),(6, .b (.c (.ptr 1 0))),(37, .b (.agg [.ptr 0 0, .ptr 0 1, .ptr 0 2, .ptr 0 3, .ptr 0 4])),(38, .b (I i))] [(0, .fix [.p (PU (if 0<i then bL (p.c0 * k) 65535 else p.c0)), .p (PU (if 1<i then bL (p.c1 * k) 65535 else p.c1)), .p (PU (if 2<i then bL (p.c2 * k) 65535 else p.c2)), .p (PU (if 3<i then bL (p.a * k) 65535 else p.a)), .p (PU (if 4<i then bL (p.f * k) 65535 else p.f))]),(1, .fix ((aF aI).map CV.p))] 2) (fun i=>0≤i∧i≤5) (fun i=>(5 - i).toNat) 0 ?_ ?_ ?_
  ·omega
  ·refine az [(1,some 1)] ?_ ?_
   and_intros
   all_goals first|exact ao|skip
  ·intro i hi
   have hiv:i=0∨i=1∨i=2∨i=3∨i=4∨i=5:=by omega
   rcases hiv with rfl|rfl|rfl|rfl|rfl|rfl
   ·repeat' (first|refine aj (And.intro dm dm2) ?_|refine an ?_|((first|refine ai (fun K hK => ?_)|refine ae (jK _ ⟨by omega,by omega⟩) ?_);and_intros;(all_goals first|(refine hK _ ?_;clear hK K)|exact aa|skip)))
    all_goals first|exact Nat.le_of_ble_eq_true rfl|skip
    rw [ah]
    refine aw 1 ?_ (by omega) (by decide)
    refine az [(1,some 1)] ?_ ?_
    and_intros
    all_goals first|exact ao|skip
   ·repeat' (first|refine aj (And.intro dm dm2) ?_|refine an ?_|((first|refine ai (fun K hK => ?_)|refine ae (jK _ ⟨by omega,by omega⟩) ?_);and_intros;(all_goals first|(refine hK _ ?_;clear hK K)|exact aa|skip)))
    all_goals first|exact Nat.le_of_ble_eq_true rfl|skip
    rw [ah]
    refine aw 2 ?_ (by omega) (by decide)
    refine az [(1,some 1)] ?_ ?_
    and_intros
    all_goals first|exact ao|skip
   ·repeat' (first|refine aj (And.intro dm dm2) ?_|refine an ?_|((first|refine ai (fun K hK => ?_)|refine ae (jK _ ⟨by omega,by omega⟩) ?_);and_intros;(all_goals first|(refine hK _ ?_;clear hK K)|exact aa|skip)))
    all_goals first|exact Nat.le_of_ble_eq_true rfl|skip
    rw [ah]
    refine aw 3 ?_ (by omega) (by decide)
    refine az [(1,some 1)] ?_ ?_
    and_intros
    all_goals first|exact ao|skip
   ·repeat' (first|refine aj (And.intro dm dm2) ?_|refine an ?_|((first|refine ai (fun K hK => ?_)|refine ae (jK _ ⟨by omega,by omega⟩) ?_);and_intros;(all_goals first|(refine hK _ ?_;clear hK K)|exact aa|skip)))
    all_goals first|exact Nat.le_of_ble_eq_true rfl|skip
    rw [ah]
    refine aw 4 ?_ (by omega) (by decide)
    refine az [(1,some 1)] ?_ ?_
    and_intros
    all_goals first|exact ao|skip
   ·repeat' (first|refine aj (And.intro dm dm2) ?_|refine an ?_|((first|refine ai (fun K hK => ?_)|refine ae (jK _ ⟨by omega,by omega⟩) ?_);and_intros;(all_goals first|(refine hK _ ?_;clear hK K)|exact aa|skip)))
    all_goals first|exact Nat.le_of_ble_eq_true rfl|skip
    rw [ah]
    refine aw 5 ?_ (by omega) (by decide)
    refine az [(1,some 1)] ?_ ?_
    and_intros
    all_goals first|exact ao|skip
   ·repeat' (first|refine aj (And.intro dm dm2) ?_|refine an ?_|(refine ai (fun K hK => ?_);and_intros;(all_goals first|(refine hK _ ?_;clear hK K)|exact aa|skip))|(refine ak ?_;(try clear hB KB);(try clear hK K)))
    rfl
theorem Gh (p:Pixel) (k o m:Int) (hm:Full m) (hp:PixV p m) (hk:0≤k) (hkm:k≤m) (ho:0≤o) (hom:o≤m):aC Sg 179 [ag (aF p),U k,U o,U m] (fun r=>r = .tup [ag (aF (aL (aL p k m) o m)),B true]):=by
 have h1:=jz p k m hm hp hk hkm
 have h2:=jz (aL p k m) o m hm (gP hm hp hk hkm) ho hom
 have ht:True:=trivial
 refine aA Tryz.func179 [.cell 8 41, .tmp 9] ?_
 repeat' (first|refine aj ht ?_|refine an ?_|((first|refine ai (fun K hK => ?_)|refine ae (h1) ?_|refine ae (h2) ?_);and_intros;(all_goals first|(refine hK _ ?_;clear hK K)|exact aa|skip))|(refine ak ?_;(try clear hB KB);(try clear hK K)))
 rfl
end Go.Proofs.YtmfblbbemekkoaaGreatDoor
set_option maxHeartbeats 2000000
set_option maxRecDepth 16000
namespace Go.Proofs.YtmfblbbemekkoaaGreatDoor
open Go Go.SL
open Go.RowKit (wrap64)
def RH (n:Nat) (f:Nat→Rect):PV := .lst 4 n (fun a j=>(fg (f a)).getD j .any)
def rF (l junk:List Rect) (a:Nat):Rect:=(l.reverse ++ junk).getD a ka
theorem AP {p:Rect} {t junk:List Rect}:rF (p :: t) junk t.length=p:=by
 rw [rF,List.reverse_cons,List.append_assoc,List.getD_eq_getElem?_getD,List.getElem?_append_right (by simp)]
 simp
theorem OE {p:Rect} {t junk:List Rect}:rF (p :: t) junk=rF t (p :: junk):=by
 funext a;rw [rF,rF,List.reverse_cons,List.append_assoc];rfl
theorem IF {q p:Rect} {t junk:List Rect}:rF (q :: p :: t) junk t.length=p:=by rw [OE,AP]
theorem JJ {q p:Rect} {t junk:List Rect}:rF (q :: p :: t) junk (t.length+1)=q:=AP (t:=p :: t)
attribute [local go_sem] tL Int.toNat_natCast CS AP IF JJ
theorem zq {s:Script} (V:VOps s):∀ i,i≤s.ops.length→kq s.bits s.images.length (s.ops.drop (s.ops.length - i)) (cO (s.ops.take (s.ops.length - i)) [])
 | 0,_=>by rw [Nat.sub_zero,List.drop_length];trivial
 | i+1,hi=>by
  have hl:s.ops.length - (i+1)<s.ops.length:=by omega
  have e:aR s.ops (s.ops.length - (i+1))=s.ops[s.ops.length - (i+1)]:=by rw [aR,List.getD_eq_getElem?_getD,List.getElem?_eq_getElem hl];rfl
  have ih:=zq V i (by omega)
  rw [List.drop_eq_getElem_cons hl]
  refine ⟨?_, ?_⟩
  ·rw [lg _ (by omega),← e];exact V.ok _ hl
  ·have e2:s.ops.length - (i+1)+1=s.ops.length - i:=by omega
   rw [e2]
   rw [← e2,List.take_add_one,List.getElem?_eq_getElem hl,eE,e2] at ih
   exact ih
theorem LV {s:Script} (V:VOps s):jm s=(0,0):=by
 rw [jm,if_pos V.frame]
 refine tr ?_ ?_
 ·have:=zq V _ (Nat.le_refl _)
  rw [Nat.sub_self] at this
  exact this
 ·have:=lg (ops:=s.ops) s.ops.length (Nat.le_refl _)
  rw [List.take_length,V.wf.fin] at this
  exact this
end Go.Proofs.YtmfblbbemekkoaaGreatDoor
