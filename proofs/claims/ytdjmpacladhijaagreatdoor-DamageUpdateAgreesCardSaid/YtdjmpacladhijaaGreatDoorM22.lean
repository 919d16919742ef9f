/- Part of the proof: WI, WJ, WK, WL. -/
import Derived.Test.YtdjmpacladhijaaGreatDoorM20
set_option linter.unusedSimpArgs false
set_option linter.unusedVariables false
set_option maxHeartbeats 4000000
set_option maxRecDepth 16000
namespace Go.Proofs.YtdjmpacladhijaaGreatDoor
open Go Go.SL
open Go.RowKit (wrap64)
section
attribute [local go_sem] qE mh
theorem uv (mode m cs sl fs c cb ab : Int) (hm : Full m) (hmo : 1 ≤ mode ∧ mode ≤ 12) (hs : Pre cs sl m) (hd : Pre cb ab m) (hf : sl ≤ fs) (hfm : fs ≤ m) (hc : 0 ≤ c) (hcm : c ≤ m) :
  aB Sg 229 [I mode,U m,U cs,U sl,U fs,U c,U cb,U ab] (fun r=>r = .tup [U (dB mode m cs sl fs c cb ab),B true]):=by
 have hok:=nJ (mode:=mode) hm hs hd hf hfm hc hcm;have hkl:=sg (mode:=mode) (acc:=m) hm hs hd hf hfm hc hcm (Int.le_refl _);have ht:=lI (mode:=mode) hm hs hd;have hh:=yx _ hok;have hn:=(mH hok).2.2;obtain ⟨s0,sa,am⟩:=hs;obtain ⟨d0,db,bm⟩:=hd;have hle:=hm.le;have hp:=hm.pos;have hb:=De mode cs sl cb ab hmo ⟨s0,sa,by omega,d0,db,by omega⟩;have hu:=CW m;rw [show decide (m=255∨m=65535)=true from decide_eq_true hm.h] at hu;have g2:decide (sl>fs)=false:=decide_eq_false (by omega);have g3:decide (fs>m)=false:=decide_eq_false (by omega);have g5:decide (ab>m)=false:=decide_eq_false (by omega);have g6:decide (c>m)=false:=decide_eq_false (by omega);have hka:dU m sl fs m ab≤m:=(mS hm (by omega) hf hfm (by omega) (Int.le_refl _) (by omega) bm).2;have hw:IntKind.u16.wrap (dB mode m cs sl fs c cb ab)=dB mode m cs sl fs c cb ab:=iX hn (by omega);obtain ⟨k1,k2,k3,k4,k5,k6,k7,k8,_⟩:=hok;obtain ⟨t0,t1,t2,t3,t4,t5,t6,t7,_⟩:=ht;unfold dB at *
 unfold eG at *
 dsimp only at k1 k2 k3 k4 k5 k6 k7 k8;generalize aR mode cs sl cb ab=T at *
 have e1:0≤(m - fs) * c∧(m - fs) * c≤65535 * 65535:=⟨au (by omega) (by omega),aD (by omega) (by omega) (by omega) (by omega)⟩
 have e2:0≤(fs - sl) * cb∧(fs - sl) * cb≤65535 * 65535:=⟨au (by omega) (by omega),aD (by omega) (by omega) (by omega) (by omega)⟩
 have e3:0≤(m - ab) * cs∧(m - ab) * cs≤65535 * 65535:=⟨au (by omega) (by omega),aD (by omega) (by omega) (by omega) (by omega)⟩
 have hsu:=Mb (m - fs) c (fs - sl) cb (m - ab) cs ⟨by omega,by omega⟩ ⟨hc,by omega⟩ ⟨by omega,by omega⟩ ⟨d0,by omega⟩ ⟨by omega,by omega⟩ ⟨s0,by omega⟩;have w1:=mK ((m - fs) * c+(fs - sl) * cb+(m - ab) * cs) T.d ⟨by omega,by omega⟩ ⟨by omega,by omega⟩;have w2:=wt (((m - fs) * c+(fs - sl) * cb+(m - ab) * cs) * T.d) T.p (au (by omega) (by omega)) t0 (by omega);rw [Int.add_comm _ T.p] at w2;refine az Tryz.func229 [.tmp 16, .tmp 17] ?_;repeat' (first|refine aj (And.intro g2 (And.intro g3 (And.intro g5 g6))) ?_|refine aw ?_|refine an (fun K hK => ?_)|refine aa (hb) ?_|refine aA (fun hg=>hu) ?_|(refine aq hK ?_;try clear hK K))
 refine cM (id:=4) (.br 0 (.br 1 (.br 2 (.br 3 (.br 4 (.br 5 (.br 6 (.br 7 (.br 8 (.br 9 (.br 10 (.br 11 (.br 12 (.br 13 (.br 14 (.br 16 (.br 17 (.br 15 (.br 18 (.br 19 (.br 20 (.br 21 (.br 22 (.br 23 (.br 24 .leaf .nil) .nil) .nil) .nil) .nil) .nil) (.br 22 (.br 18 (.br 19 (.br 20 (.br 21 (.br 23 (.br 24 .leaf .nil) .nil) .nil) .nil) .nil) .nil) .nil)) (.br 22 (.br 15 (.br 18 (.br 19 (.br 20 (.br 21 (.br 23 (.br 24 .leaf .nil) .nil) .nil) .nil) .nil) .nil) .nil) .nil)) .nil) .nil) .nil) .nil) .nil) .nil) .nil) .nil) .nil) .nil) .nil) .nil) .nil) .nil) .nil) .nil) .nil) (by decide +kernel) bZ (fun K0 hW => ?_);refine (fun (tl:∀ st,Le st (aP [(1, .b (U m)),(18, .b (.c (.ptr 0 0))),(20, .b (.c (.ptr 1 0)))] [(0, .fix ((mh T).map CV.p)),(1, .fix ((qE (T.p+((m - fs) * c+(fs - sl) * cb+(m - ab) * cs) * T.d)).map CV.p))] 2)→K0 st) => ?_) (fun st hl=>hW st _ hl ?_)
 ·clear hW;repeat' (first|exact bp|(refine bO (fun K' hK' => ?_) ?_)|(refine aZ (tl _ ?_);clear tl)|((first|refine aa (hsu) ?_|refine aa (w1) ?_|refine aa (w2) ?_);(try simp (maxSteps:=999999)(disch:=omega) only [go_sem]);and_intros;(all_goals first|(refine hK' _ ?_;clear hK' K')|trivial|omega|exact Nat.le_of_ble_eq_true rfl|exact ai|skip))|(simp (maxSteps:=999999)(disch:=omega) only [go_sem];and_intros;(all_goals first|(refine hK' _ ?_;clear hK' K')|trivial|omega|exact Nat.le_of_ble_eq_true rfl|exact ai|skip)))
  all_goals
   refine ar [(1,some 1)] ?_ ?_;and_intros;all_goals try exact ak
 clear hW;repeat' (first|with_reducible exact cz|refine an (fun K hK => ?_)|refine aa (hh) ?_|refine aw ?_|(refine aq hK ?_;try clear hK K))
 all_goals skip
end
theorem pF (p:Pixel) (m:Int):aB Sg 133 [ag (aU p),U m] (fun r=>r = .b (B (oD p m))):=by
 have ht:True:=trivial;have no:∀ {q:Prop},(¬ q)→(oD p m=true→q)→oD p m=false:=fun h1 h2=>by rw [← Bool.not_eq_true];exact fun h=>h1 (h2 h)
 have ok:oD p m=true↔p.c0≤p.a∧p.c1≤p.a∧p.c2≤p.a∧p.a≤p.f∧p.f≤m:=by unfold oD;rw [decide_eq_true_eq]
 refine az Tryz.func133 [.tmp 4] ?_;repeat' (refine aC ?_)
 refine aK (X:=Int) (fun k=>aP [(1, .b (U m)),(2, .b (.c (.ptr 0 0))),(8, .b (ag [PU p.c0,PU p.c1,PU p.c2])),(9, .b (I k))] [(0, .fix ((aU p).map CV.p))] 1) (fun k=>0≤k∧k≤3∧(0<k→p.c0≤p.a)∧(1<k→p.c1≤p.a)∧(2<k→p.c2≤p.a)) (fun k=>(3 - k).toNat) 0 ?_ ?_ ?_
 ·exact ⟨by decide,by decide,fun h=>absurd h (by decide),fun h=>absurd h (by decide),fun h=>absurd h (by decide)⟩
 ·refine ar [(0,some 0)] ?_ ?_;and_intros;all_goals try exact ak
 ·rintro k ⟨k0,k3,i0,i1,i2⟩;have hv:k=0∨k=1∨k=2∨k=3:=by omega
  rcases hv with rfl|rfl|rfl|rfl
  ·repeat' (first|refine aj ht ?_|refine aC ?_|(refine aH (fun hb => ?_) (fun hb => ?_) <;> try exact ax))
   ·rw [no (q:=p.c0≤p.a) (by omega) (fun h=>(ok.1 h).1)]
   ·rw [ae];refine ao 1 ?_ ⟨by decide,by decide,fun _=>by omega,fun h=>absurd h (by decide),fun h=>absurd h (by decide)⟩ (by decide);refine ar [(0,some 0)] ?_ ?_;and_intros;all_goals try exact ak
  ·repeat' (first|refine aj ht ?_|refine aC ?_|(refine aH (fun hb => ?_) (fun hb => ?_) <;> try exact ax))
   ·rw [no (q:=p.c1≤p.a) (by omega) (fun h=>(ok.1 h).2.1)]
   ·rw [ae];refine ao 2 ?_ ⟨by decide,by decide,fun _=>i0 (by decide),fun _=>by omega,fun h=>absurd h (by decide)⟩ (by decide);refine ar [(0,some 0)] ?_ ?_;and_intros;all_goals try exact ak
  ·repeat' (first|refine aj ht ?_|refine aC ?_|(refine aH (fun hb => ?_) (fun hb => ?_) <;> try exact ax))
   ·rw [no (q:=p.c2≤p.a) (by omega) (fun h=>(ok.1 h).2.2.1)]
   ·rw [ae];refine ao 3 ?_ ⟨by decide,by decide,fun _=>i0 (by decide),fun _=>i1 (by decide),fun _=>by omega⟩ (by decide);refine ar [(0,some 0)] ?_ ?_;and_intros;all_goals try exact ak
  ·have j0:=i0 (by decide);have j1:=i1 (by decide);have j2:=i2 (by decide);repeat' (first|refine aj ht ?_|refine aC ?_)
   refine congrArg (fun v=>SV.b (B v)) ?_;rw [Bool.eq_iff_iff,ok];simp only [Bool.and_eq_true,decide_eq_true_eq];omega
theorem uC (c k own m:Int) (hm:Full m) (hc:0≤c) (hcm:c≤m) (hk:0≤k) (hkm:k≤m) (ho:0≤own) (hom:own≤m):aB Sg 205 [U c,U k,U own,U m] (fun r=>r = .b (U (iC c k own m))):=by
 have hle:=hm.le;have hp:=hm.pos;have e1:0≤m * c∧m * c≤65535 * 65535:=⟨au (by omega) hc,aD hle (by omega) hc (by decide)⟩
 have e2:0≤(m - own) * k∧(m - own) * k≤65535 * 65535:=⟨au (by omega) hk,aD (by omega) (by omega) hk (by decide)⟩
 unfold iC;by_cases h:(m - own) * k<m * c
 ·have g1:decide (m * c≤(m - own) * k)=false:=decide_eq_false (by omega);have hh:=zZ (m * c - (m - own) * k) m ⟨by omega,by omega⟩ ⟨by omega,by omega⟩;have hn:=fj (n:=m * c - (m - own) * k) hp (by omega);have hl:=wg (n:=m * c - (m - own) * k) (k:=c) hp (by omega);rw [if_pos h];generalize cn (m * c - (m - own) * k) m=v at *
  refine az Tryz.func205 [.tmp 8] ?_;repeat' (first|refine aj g1 ?_|refine aw ?_|refine an (fun K hK => ?_)|refine aa (hh) ?_|(refine aq hK ?_;try clear hK K))
  refine congrArg (fun x=>SV.b (U x)) ?_
  first|(split <;> omega)|(rw [iX hn (by omega)];split <;> omega)
 ·have g1:decide (m * c≤(m - own) * k)=true:=decide_eq_true (by omega);rw [if_neg h];refine az Tryz.func205 [.tmp 8] ?_;repeat' (first|with_reducible exact cz|refine aj g1 ?_|refine aC ?_)
section
def acE (x:Acc):List PV:=[PU x.c0,PU x.c1,PU x.c2,PU x.a,PU x.own,PU x.f]
attribute [local go_sem] acE
theorem PX (i k:Bool) (x:Acc) (b:Pixel):aB Sg 193 [B i,B k,ag (acE x),ag (aU b)] (fun r=>r = .tup [ag (acE (gL (cg i k x b))),ag (aU (cg i k x b))]):=by
 have ht:True:=trivial;cases i <;> cases k
 all_goals
  refine az Tryz.func193 [.cell 8 202, .cell 9 43] ?_;repeat' (first|refine aj ht ?_|((with_reducible refine vi (id:=5) [(23,5),(25,5),(7,5),(8,6),(9,7)] ?_ (fun K hK => ?_));exact bZ;refine bV ?_)|refine aw ?_|refine an (fun K hK => ?_)|(refine aq hK ?_;try clear hK K)|(refine pz hK ?_;try clear hK K))
 all_goals rfl
end
end Go.Proofs.YtdjmpacladhijaaGreatDoor
