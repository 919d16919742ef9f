/- Part of the proof: U8, W6, W8, W9. -/
import Derived.Test.YtmfblbbemekkoaaGreatDoorM17
import Derived.Test.YtmfblbbemekkoaaGreatDoorM20
set_option linter.unusedSimpArgs false
set_option linter.unusedVariables false
set_option maxHeartbeats 2000000
set_option maxRecDepth 16000
namespace Go.Proofs.YtmfblbbemekkoaaGreatDoor
open Go Go.SL
open Go.RowKit (wrap64)
attribute [local go_sem] qE jt
theorem HW (op mode m cs sl cb ab : Int) (hm : Full m) (ho : 1 ≤ op ∧ op ≤ 12) (hmo : 1 ≤ mode ∧ mode ≤ 12) (hs : Pre cs sl m) (hd : Pre cb ab m) :
  aC Sg 221 [I op,I mode,U m,U cs,U sl,U cb,U ab] (fun r=>r = .tup [ag (jt (dB op mode m cs sl cb ab)),B true]):=by
 have hok:=kP (op:=op) (mode:=mode) hm hs hd
 have ht:=kt (mode:=mode) hm hs hd
 obtain ⟨s0,sa,am⟩:=hs
 obtain ⟨d0,db,bm⟩:=hd
 have hle:=hm.le
 have hp:=hm.pos
 have hb:=AD mode cs sl cb ab hmo ⟨s0,sa,by omega,d0,db,by omega⟩
 have hf:=tp op sl ab m hm ho (by omega) am (by omega) bm
 have hu:=np m
 rw [show decide (m=255∨m=65535)=true from decide_eq_true hm.h] at hu
 have ⟨a1,a2⟩:=jq (op:=op) (a:=sl) (b:=ab) (m:=m) (by omega) am (by omega) bm
 have ⟨b1,b2⟩:=kv (op:=op) (a:=sl) (b:=ab) (m:=m) (by omega) am (by omega) bm
 obtain ⟨k1,k2,k3,k4,k5,k6,k7,k8,_⟩:=hok
 obtain ⟨t0,t1,t2,t3,t4,t5,t6,t7,_⟩:=ht
 unfold dB at *
 dsimp only at k1 k2 k3 k4 k5 k6 k7 k8
 generalize aZ mode cs sl cb ab=T at *
 generalize iT op sl ab m=fa at *
 generalize kE op sl ab m=fb at *
 have e1:0≤(m - ab) * cs∧(m - ab) * cs≤65535 * 65535:=⟨ar (by omega) (by omega),ay (by omega) (by omega) (by omega) (by omega)⟩
 have e2:0≤fb * cb∧fb * cb≤65535 * 65535:=⟨ar (by omega) (by omega),ay (by omega) (by omega) (by omega) (by omega)⟩
 have e3:0≤m * m∧m * m≤65535 * 65535:=⟨ar (by omega) (by omega),ay (by omega) (by omega) (by omega) (by omega)⟩
 have e4:0≤(m - ab) * cs * fa∧(m - ab) * cs * fa≤65535 * 65535 * 65535:=⟨ar e1.1 (by omega),ay e1.2 (by omega) (by omega) (by omega)⟩
 have e5:0≤(m - ab) * cs * fa * T.d∧(m - ab) * cs * fa * T.d≤65535 * 65535 * 65535 * 4294836225:=⟨ar e4.1 (by omega),ay e4.2 (by omega) (by omega) (by omega)⟩
 have e6:0≤fb * cb * m∧fb * cb * m≤65535 * 65535 * 65535:=⟨ar e2.1 (by omega),ay e2.2 (by omega) (by omega) (by omega)⟩
 have e7:0≤fb * cb * m * T.d∧fb * cb * m * T.d≤65535 * 65535 * 65535 * 4294836225:=⟨ar e6.1 (by omega),ay e6.2 (by omega) (by omega) (by omega)⟩
 have e8:0≤T.p * fa:=ar t0 a1
 have e9:0≤fa * T.q∧fa * T.q≤65535 * 65535:=⟨ar (by omega) (by omega),ay (by omega) (by omega) (by omega) (by omega)⟩
 have w1:=mD T.p fa t0 ⟨by omega,by omega⟩ (by omega)
 have w2:=nj ((m - ab) * cs) fa T.d ⟨by omega,by omega⟩ ⟨by omega,by omega⟩ ⟨by omega,by omega⟩ (by omega)
 have w3:=nj (fb * cb) m T.d ⟨by omega,by omega⟩ ⟨by omega,by omega⟩ ⟨by omega,by omega⟩ (by omega)
 have w4:=lK (T.p * fa) ((m - ab) * cs * fa * T.d) e8 e5.1 (by omega)
 have w5:=lK (T.p * fa+(m - ab) * cs * fa * T.d) (fb * cb * m * T.d) (by omega) e7.1 (by omega)
 have htt:True:=trivial
 refine aA Tryz.func221 [.cell 14 262, .tmp 15] ?_
 repeat' (first|refine aj htt ?_|refine an ?_|((first|refine ai (fun K hK => ?_)|refine ae (hb) ?_|refine ae (hf) ?_|refine aD (fun hg=>hu) ?_|refine ae (w1) ?_|refine ae (w2) ?_|refine ae (w3) ?_|refine ae (w4) ?_|refine ae (w5) ?_);and_intros;(all_goals first|(refine hK _ ?_;clear hK K)|exact aa|skip))|(refine ak ?_;(try clear hB KB);(try clear hK K)))
 rfl
theorem tZ (op mode m cs sl cb ab : Int) (hm : Full m) (ho : 1 ≤ op ∧ op ≤ 12) (hmo : 1 ≤ mode ∧ mode ≤ 12) (hs : Pre cs sl m) (hd : Pre cb ab m) :
  aC Sg 203 [I op,I mode,U m,U cs,U sl,U cb,U ab] (fun r=>r = .tup [U (dL op mode m cs sl cb ab),B true]):=by
 have hok:=kP (op:=op) (mode:=mode) hm hs hd
 have hv:=HW op mode m cs sl cb ab hm ho hmo hs hd
 have hh:=nL _ hok
 have hl:=mE (op:=op) (mode:=mode) hm hs hd
 have hl2:=mv (op:=op) (a:=sl) (b:=ab) hm (by have:=hs.s0;have:=hs.sa;omega) hs.am (by have:=hd.s0;have:=hd.sa;omega) hd.am
 have hn:=(lz hok).2.2
 have hle:=hm.le
 have htt:True:=trivial
 have hw:IntKind.u16.wrap (hx (dB op mode m cs sl cb ab))=dL op mode m cs sl cb ab:=fz hn (by unfold dL at hl;omega)
 refine aA Tryz.func203 [.tmp 14, .tmp 15] ?_
 repeat' (first|refine aj htt ?_|refine an ?_|((first|refine ai (fun K hK => ?_)|refine ae (hv) ?_|refine ae (hh) ?_);and_intros;(all_goals first|(refine hK _ ?_;clear hK K)|exact aa|skip))|(refine ak ?_;(try clear hB KB);(try clear hK K)))
 rw [hw]
theorem pZ (mode m cs sl fs c cb ab : Int) (hm : Full m) (hmo : 1 ≤ mode ∧ mode ≤ 12) (hs : Pre cs sl m) (hd : Pre cb ab m) (hf : sl ≤ fs) (hfm : fs ≤ m) (hc : 0 ≤ c) (hcm : c ≤ m) :
  aC Sg 202 [I mode,U m,U cs,U sl,U fs,U c,U cb,U ab] (fun r=>r = .tup [U (dr mode m cs sl fs c cb ab),B true]):=by
 have hok:=pQ (mode:=mode) hm hs hd hf hfm hc hcm
 have hkl:=mg (mode:=mode) (acc:=m) hm hs hd hf hfm hc hcm (Int.le_refl _)
 have ht:=kt (mode:=mode) hm hs hd
 have hh:=nL _ hok
 have hn:=(lz hok).2.2
 obtain ⟨s0,sa,am⟩:=hs
 obtain ⟨d0,db,bm⟩:=hd
 have hle:=hm.le
 have hp:=hm.pos
 have hb:=AD mode cs sl cb ab hmo ⟨s0,sa,by omega,d0,db,by omega⟩
 have hi:=ki mode
 rw [kn hmo] at hi
 have hu:=np m
 rw [show decide (m=255∨m=65535)=true from decide_eq_true hm.h] at hu
 have g1:decide (cs>sl)=false:=decide_eq_false (by omega)
 have g2:decide (sl>fs)=false:=decide_eq_false (by omega)
 have g3:decide (fs>m)=false:=decide_eq_false (by omega)
 have g4:decide (cb>ab)=false:=decide_eq_false (by omega)
 have g5:decide (ab>m)=false:=decide_eq_false (by omega)
 have g6:decide (c>m)=false:=decide_eq_false (by omega)
 have hka:dc m sl fs m ab≤m:=(jv hm (by omega) hf hfm (by omega) (Int.le_refl _) (by omega) bm).2
 have hw:IntKind.u16.wrap (dr mode m cs sl fs c cb ab)=dr mode m cs sl fs c cb ab:=fz hn (by omega)
 obtain ⟨k1,k2,k3,k4,k5,k6,k7,k8,_⟩:=hok
 obtain ⟨t0,t1,t2,t3,t4,t5,t6,t7,_⟩:=ht
 unfold dr at *
 unfold ey at *
 dsimp only at k1 k2 k3 k4 k5 k6 k7 k8
 generalize aZ mode cs sl cb ab=T at *
 have e1:0≤(m - fs) * c∧(m - fs) * c≤65535 * 65535:=⟨ar (by omega) (by omega),ay (by omega) (by omega) (by omega) (by omega)⟩
 have e2:0≤(fs - sl) * cb∧(fs - sl) * cb≤65535 * 65535:=⟨ar (by omega) (by omega),ay (by omega) (by omega) (by omega) (by omega)⟩
 have e3:0≤(m - ab) * cs∧(m - ab) * cs≤65535 * 65535:=⟨ar (by omega) (by omega),ay (by omega) (by omega) (by omega) (by omega)⟩
 have w1:=th ((m - fs) * c+(fs - sl) * cb+(m - ab) * cs) T.d ⟨by omega,by omega⟩ ⟨by omega,by omega⟩
 have w2:=lK T.p (((m - fs) * c+(fs - sl) * cb+(m - ab) * cs) * T.d) t0 (ar (by omega) (by omega)) (by omega)
 refine aA Tryz.func202 [.tmp 16, .tmp 17] ?_
 repeat' (first|refine aj (And.intro g1 (And.intro g2 (And.intro g3 (And.intro g4 (And.intro g5 g6))))) ?_|refine an ?_|((first|refine ai (fun K hK => ?_)|refine ae (hi) ?_|refine aD (fun hg=>hu) ?_|refine ae (hb) ?_);and_intros;(all_goals first|(refine hK _ ?_;clear hK K)|exact aa|skip)))
 refine dN (id:=6) (.br 0 (.br 1 (.br 2 (.br 3 (.br 4 (.br 5 (.br 6 (.br 7 (.br 8 (.br 9 (.br 10 (.br 11 (.br 12 .leaf .nil) .nil) .nil) .nil) .nil) .nil) .nil) .nil) .nil) .nil) .nil) .nil) .nil) (by decide +kernel) (by (first|(refine And.intro (fun iw hiw => ?_) ?_;(focus ((try simp (maxSteps:=999999)(disch:=omega) only [go_sem] at hiw ⊢);(repeat (refine Eq.trans (if_neg ?_) ?_;(focus omega)));exact hw iw (by omega)));(focus (first|exact Nat.zero_le _|(simp (maxSteps:=999999)(disch:=omega) only [go_sem];done)|(simp (maxSteps:=999999)(disch:=omega) only [go_sem];omega))))|exact cR)) (fun K0 hW => ?_)
 refine (fun (tl:∀ st,Le st (aQ [(18, .b (.c (.ptr 0 0))),(20, .b (bQ m)),(23, .b (.c (.ptr 1 0)))] [(0, .fix ((jt T).map CV.p)),(1, .fix ((qE (T.p+((m - fs) * c+(fs - sl) * cb+(m - ab) * cs) * T.d)).map CV.p))] 2)→K0 st) => ?_) (fun st hl=>hW st _ hl ?_)
 ·clear hW
  repeat' (first|exact ba|(refine bq (fun K' hK' => ?_) ?_)|(refine aV (tl _ ?_);clear tl)|((first|refine ae (w1) ?_|refine ae (w2) ?_);(try simp (maxSteps:=999999)(disch:=omega) only [go_sem]);and_intros;(all_goals first|(refine hK' _ ?_;clear hK' K')|trivial|omega|exact Nat.le_of_ble_eq_true rfl|exact aa|skip))|(simp (maxSteps:=999999)(disch:=omega) only [go_sem];and_intros;(all_goals first|(refine hK' _ ?_;clear hK' K')|trivial|omega|exact Nat.le_of_ble_eq_true rfl|exact aa|skip)))
  all_goals
   refine az [(1,some 1)] ?_ ?_
   and_intros
   all_goals first|exact ao|skip
 clear hW
 repeat' (first|with_reducible exact ca|((first|refine ai (fun K hK => ?_)|refine ae (hh) ?_);and_intros;(all_goals first|(refine hK _ ?_;clear hK K)|exact aa|skip))|(refine ak ?_;(try clear hB KB);(try clear hK K)))
theorem wY (m a f acc b : Int) (hm : Full m) (ha : 0 ≤ a) (haf : a ≤ f) (hfm : f ≤ m) (h1 : 0 ≤ acc) (h2 : acc ≤ m) (h3 : 0 ≤ b) (h4 : b ≤ m) :
  aC Sg 204 [U m,U a,U f,U acc,U b] (fun r=>r = .tup [U (dc m a f acc b),B true]):=by
 have hle:=hm.le
 have hp:=hm.pos
 have hbd:=jv hm ha haf hfm h1 h2 h3 h4
 have hu:=np m
 rw [show decide (m=255∨m=65535)=true from decide_eq_true hm.h] at hu
 have g1:decide (a>f)=false:=decide_eq_false (by omega)
 have g2:decide (f>m)=false:=decide_eq_false (by omega)
 have g3:decide (acc>m)=false:=decide_eq_false (by omega)
 have g4:decide (b>m)=false:=decide_eq_false (by omega)
 have e1:0≤(m - f) * acc∧(m - f) * acc≤65535 * 65535:=⟨ar (by omega) (by omega),ay (by omega) (by omega) (by omega) (by omega)⟩
 have e2:0≤(f - a) * b∧(f - a) * b≤65535 * 65535:=⟨ar (by omega) (by omega),ay (by omega) (by omega) (by omega) (by omega)⟩
 have e3:0≤m * a∧m * a≤65535 * 65535:=⟨ar (by omega) (by omega),ay (by omega) (by omega) (by omega) (by omega)⟩
 have hh:=iA ((m - f) * acc+(f - a) * b+m * a) m ⟨by omega,by omega⟩ ⟨by omega,by omega⟩
 have hw:IntKind.u16.wrap (bL ((m - f) * acc+(f - a) * b+m * a) m)=dc m a f acc b:=fz hbd.1 (Int.le_trans hbd.2 hle)
 refine aA Tryz.func204 [.tmp 10, .tmp 11] ?_
 repeat' (first|refine aj (And.intro g1 (And.intro g2 (And.intro g3 g4))) ?_|refine an ?_|((first|refine ai (fun K hK => ?_)|refine ae (hu) ?_|refine ae (hh) ?_);and_intros;(all_goals first|(refine hK _ ?_;clear hK K)|exact aa|skip))|(refine ak ?_;(try clear hB KB);(try clear hK K)))
 rw [hw]
theorem EP (m a f acc : Int) (hm : Full m) (ha : 0 ≤ a) (haf : a ≤ f) (hfm : f ≤ m) (h1 : 0 ≤ acc) (h2 : acc ≤ m) :
  aC Sg 205 [U m,U a,U f,U acc] (fun r=>r = .tup [U (dc m a f acc 0),B true]):=by
 have h:=wY m a f acc 0 hm ha haf hfm h1 h2 (Int.le_refl _) (Int.le_of_lt hm.pos)
 refine aA Tryz.func205 [.tmp 8, .tmp 9] ?_
 repeat' (first|with_reducible exact ca|((first|refine ai (fun K hK => ?_)|refine ae (h) ?_);and_intros;(all_goals first|(refine hK _ ?_;clear hK K)|exact aa|skip))|(refine ak ?_;(try clear hB KB);(try clear hK K)))
end Go.Proofs.YtmfblbbemekkoaaGreatDoor
set_option maxHeartbeats 2000000
set_option maxRecDepth 16000
namespace Go.Proofs.YtmfblbbemekkoaaGreatDoor
open Go Go.SL
open Go.RowKit (wrap64)
attribute [local go_sem] qE
theorem pJ (x y:Int) (hx:0≤x) (hy:Q64 y) (h:x * y<340282366920938463463374607431768211456) (hx2:x<340282366920938463463374607431768211456):aC Sg 258 [ag (qE x),bQ y] (fun r=>r = .tup [ag (qE (x * y)),B true]):=by
 have ⟨q1,q2⟩:=pK (n:=x) ⟨hx,hx2⟩
 have h1:=og (x / 18446744073709551616) y q1.l q1.u hy.l hy.u
 have h3:=jn (x % 18446744073709551616) y q2 hy
 have e:x / 18446744073709551616 * y * 18446744073709551616+x % 18446744073709551616 * y=x * y:=by
  have:=Int.mul_ediv_add_emod x 18446744073709551616
  generalize x / 18446744073709551616=a at *
  generalize x % 18446744073709551616=b at *
  rw [← this,Int.add_mul,Int.mul_comm 18446744073709551616 a,Int.mul_right_comm]
 have p0:0≤x / 18446744073709551616 * y:=ar q1.l hy.l
 have r0:0≤x % 18446744073709551616 * y:=ar q2.l hy.l
 have h2:=pj (x / 18446744073709551616 * y * 18446744073709551616) (x % 18446744073709551616 * y) (by omega) r0 (by omega)
 rw [e] at h2
 generalize x % 18446744073709551616 * y=r at *
 generalize x / 18446744073709551616 * y=p at *
 have hp:p<18446744073709551616:=by omega
 rw [show qE (p * 18446744073709551616)=[.val (.int .u64 p), .val (.int .u64 0)] by
  simp only [qE]
  rw [show p * 18446744073709551616 / 18446744073709551616=p by omega,show p * 18446744073709551616 % 18446744073709551616=0 by omega]] at h2
 rw [show p / 18446744073709551616=0 by omega,show p % 18446744073709551616=p by omega] at h1
 have ht:True:=trivial
 refine aA Tryz.func258 [.cell 4 260, .tmp 5] ?_
 repeat' (first|refine aj ht ?_|refine an ?_|((first|refine ai (fun K hK => ?_)|refine ae (h1) ?_|refine ae (h2) ?_|refine ae (h3) ?_);and_intros;(all_goals first|(refine hK _ ?_;clear hK K)|exact aa|skip))|(refine ak ?_;(try clear hB KB);(try clear hK K)))
 rfl
def FN:Nat→Int
 | 0=>0
 | k+1=>2 ^ k
theorem yM:∀ k:Nat,((2:Int) ^ k).fdiv (2 ^ min 1 64)=FN k
 | 0=>rfl
 | k+1=>by
  rw [Int.fdiv_eq_ediv_of_nonneg _ (by decide),show ((2:Int) ^ min 1 64)=2 from rfl,Int.pow_succ,Int.mul_ediv_cancel _ (by decide)]
  rfl
theorem GF {x y:Int}:gY x y≤0↔x≤y:=by
 unfold gY
 repeat' split
 all_goals omega
theorem Ge (a:Int) (ha:Q128 a):aC Sg 255 [ag (qE a)] (fun r=>r = .b (bQ (sK (fun n=>decide (n * n≤a)) 64 0))):=by
 have ht:True:=trivial
 refine aA Tryz.func255 [.tmp 2] ?_
 repeat' (first|refine an ?_|(refine ai (fun K hK => ?_);and_intros;(all_goals first|(refine hK _ ?_;clear hK K)|exact aa|skip)))
 refine aO (X:=Int × Nat) (fun x=>aQ [(1, .b (.c (.ptr 0 0))),(3, .b (bQ x.1)),(4, .b (bQ (FN x.2)))] [(0, .fix ((qE a).map CV.p))] 1)
  (fun x=>x.2≤64∧0≤x.1∧x.1+2 ^ x.2≤18446744073709551616∧x.1 % 2 ^ x.2=0∧sK (fun n=>decide (n * n≤a)) x.2 x.1=sK (fun n=>decide (n * n≤a)) 64 0) (fun x=>x.2) (0,64) ?_ ?_ ?_
 ·exact ⟨by decide,by decide,by decide,by decide,rfl⟩
 ·refine az [(0,some 0)] ?_ ?_
  and_intros
  all_goals first|exact ao|skip
 ·rintro ⟨n,i⟩ ⟨i64,n0,n1,hm,hs⟩
  dsimp only at i64 n0 n1 hm hs ⊢
  cases i with
  | zero =>
   have g0:decide (FN 0>0)=false:=rfl
   repeat' (first|refine aj g0 ?_|refine an ?_|(refine ai (fun K hK => ?_);and_intros;(all_goals first|(refine hK _ ?_;clear hK K)|exact aa|skip))|(refine ak ?_;(try clear hB KB);(try clear hK K)))
   rw [← hs];rfl
  | succ k =>
   have hp:(2:Int) ^ (k+1)=2 ^ k+2 ^ k:=by rw [Int.pow_succ];omega
   have hpos:(0:Int)<2 ^ k:=Int.pow_pos (by decide)
   rw [hp] at n1
   have hor:=Cw (n:=n) (k:=k) n0 (by omega) hm (by omega)
   have h1:=jn (n+2 ^ k) (n+2 ^ k) ⟨by omega,by omega⟩ ⟨by omega,by omega⟩
   have h2:=xN ((n+2 ^ k) * (n+2 ^ k)) a
   have hm1:n % 2 ^ k=0:=by
    rw [← Int.emod_emod_of_dvd n (show (2:Int) ^ k ∣ 2 ^ (k+1) from ⟨2,by rw [Int.pow_succ]⟩),hm,Int.zero_emod]
   have hm2:(n+2 ^ k) % 2 ^ k=0:=by rw [Int.add_emod_right,hm1]
   have g0:decide (FN (k+1)>0)=true:=decide_eq_true hpos
   have hb:FN (k+1)=2 ^ k:=rfl
   rw [hb] at g0 ⊢
   rw [← hor] at h1 h2
   rw [show sK (fun n=>decide (n * n≤a)) (k+1) n=sK (fun n=>decide (n * n≤a)) k (if decide ((n+2 ^ k) * (n+2 ^ k)≤a)=true then n+2 ^ k else n) from rfl] at hs
   by_cases hg:(n+2 ^ k) * (n+2 ^ k)≤a
   ·have g1:decide (gY (GU .u64 n (2 ^ k) * GU .u64 n (2 ^ k)) a≤0)=true:=by rw [hor];exact decide_eq_true (GF.2 hg)
    rw [decide_eq_true hg,if_pos rfl] at hs
    repeat' (first|refine aj (And.intro g0 g1) ?_|refine an ?_|((first|refine ai (fun K hK => ?_)|refine ae (h1) ?_|refine ae (h2) ?_);and_intros;(all_goals first|(refine hK _ ?_;clear hK K)|exact aa|skip)))
    refine aw (n+2 ^ k,k) ?_ ⟨by dsimp only;omega,by dsimp only;omega,by dsimp only;omega,hm2,hs⟩ (by dsimp only;omega)
    refine az [(0,some 0)] ?_ ?_
    and_intros
    all_goals first|exact ao|skip
    ·exact .inl (by rw [hor])
    ·exact .inl (by rw [yM])
   ·have g1:decide (gY (GU .u64 n (2 ^ k) * GU .u64 n (2 ^ k)) a≤0)=false:=by rw [hor];exact decide_eq_false (fun q=>hg (GF.1 q))
    rw [decide_eq_false hg,if_neg (by decide)] at hs
    repeat' (first|refine aj (And.intro g0 g1) ?_|refine an ?_|((first|refine ai (fun K hK => ?_)|refine ae (h1) ?_|refine ae (h2) ?_);and_intros;(all_goals first|(refine hK _ ?_;clear hK K)|exact aa|skip)))
    refine aw (n,k) ?_ ⟨by dsimp only;omega,by dsimp only;omega,by dsimp only;omega,hm1,hs⟩ (by dsimp only;omega)
    refine az [(0,some 0)] ?_ ?_
    and_intros
    all_goals first|exact ao|skip
    exact .inl (by rw [yM])
end Go.Proofs.YtmfblbbemekkoaaGreatDoor
set_option maxHeartbeats 2000000
set_option maxRecDepth 16000
namespace Go.Proofs.YtmfblbbemekkoaaGreatDoor
open Go Go.SL
open Go.RowKit (wrap64)
attribute [local go_sem] qE
theorem FA {x d : Int} (hx : 0 ≤ x) (hd : 0 < d) :
  x / d / 18446744073709551616=x / 18446744073709551616 / d∧x / d % 18446744073709551616=(x / 18446744073709551616 % d * 18446744073709551616+x % 18446744073709551616) / d∧x % d=(x / 18446744073709551616 % d * 18446744073709551616+x % 18446744073709551616) % d:=by
 have e1:=Int.mul_ediv_add_emod (x / 18446744073709551616) d
 have e2:=Int.mul_ediv_add_emod (x / 18446744073709551616 % d * 18446744073709551616+x % 18446744073709551616) d
 have a0:=Int.emod_nonneg (x / 18446744073709551616) (show d≠0 by omega)
 have a1:=Int.emod_lt_of_pos (x / 18446744073709551616) hd
 have b0:=Int.emod_nonneg (x / 18446744073709551616 % d * 18446744073709551616+x % 18446744073709551616) (show d≠0 by omega)
 have b1:=Int.emod_lt_of_pos (x / 18446744073709551616 % d * 18446744073709551616+x % 18446744073709551616) hd
 have c0:0≤(x / 18446744073709551616 % d * 18446744073709551616+x % 18446744073709551616) / d:=Int.ediv_nonneg (by omega) (by omega)
 have c1:(x / 18446744073709551616 % d * 18446744073709551616+x % 18446744073709551616) / d<18446744073709551616:=(Int.ediv_lt_iff_lt_mul hd).2 (by omega)
 generalize (x / 18446744073709551616 % d * 18446744073709551616+x % 18446744073709551616) / d=D at *
 generalize (x / 18446744073709551616 % d * 18446744073709551616+x % 18446744073709551616) % d=R at *
 generalize x / 18446744073709551616 / d=H at *
 have ex:x=d * (H * 18446744073709551616+D)+R:=by
  have:d * (H * 18446744073709551616+D)=d * H * 18446744073709551616+d * D:=by rw [Int.mul_add,Int.mul_assoc]
  omega
 have q1:x / d=H * 18446744073709551616+D:=by
  rw [ex,Int.mul_add_ediv_left _ _ (by omega),Int.ediv_eq_zero_of_lt b0 b1,Int.add_zero]
 have q2:x % d=R:=by
  rw [ex,Int.mul_add_emod_self_left,Int.emod_eq_of_lt b0 b1]
 rw [q1]
 exact ⟨by omega,by omega,q2⟩
theorem tK (x d:Int) (hx:Q128 x) (hd:0<d) (hdu:d<18446744073709551616):aC Sg 257 [ag (qE x),bQ d] (fun r=>r = .tup [ag (qE (x / d)),bQ (x % d),B true]):=by
 have ⟨q1,q2⟩:=pK hx
 have hr0:=Int.emod_nonneg (x / 18446744073709551616) (show d≠0 by omega)
 have hr1:=Int.emod_lt_of_pos (x / 18446744073709551616) hd
 have h1:=Gc (x / 18446744073709551616 % d) (x % 18446744073709551616) d hr0 hr1 hdu q2
 obtain ⟨l1,l2,l3⟩:=FA hx.l hd
 rw [← l2,← l3] at h1
 have g0:(d == 0)=false:=beq_eq_false_iff_ne.2 (by omega)
 have hq:0≤x / 18446744073709551616 / d:=Int.ediv_nonneg q1.l (by omega)
 have hq2:x / 18446744073709551616 / d≤x / 18446744073709551616:=Int.ediv_le_self _ q1.l
 have hq3:=q1.u
 refine aA Tryz.func257 [.cell 4 260, .tmp 5, .tmp 6] ?_
 repeat' (first|refine aj g0 ?_|refine an ?_|((first|refine ai (fun K hK => ?_)|refine ae (h1) ?_);and_intros;(all_goals first|(refine hK _ ?_;clear hK K)|exact aa|skip))|(refine ak ?_;(try clear hB KB);(try clear hK K)))
 rw [l1]
 rfl
end Go.Proofs.YtmfblbbemekkoaaGreatDoor
set_option maxHeartbeats 2000000
set_option maxRecDepth 16000
namespace Go.Proofs.YtmfblbbemekkoaaGreatDoor
open Go Go.SL
open Go.RowKit (wrap64)
attribute [local go_sem] qE jt
theorem DB (x:Ex) (h:ExOk x):aC Sg 253 [ag (jt x)] (fun r=>r = .b (B true)):=by
 obtain ⟨p0,p1,q0,q1,r0,r1,d0,d1,_⟩:=h
 have g1:decide (x.p / 18446744073709551616<4294967296)=true:=decide_eq_true (by omega)
 have g2:decide (x.q<70368744177664)=true:=decide_eq_true q1
 have g3:decide (x.r<8589934592)=true:=decide_eq_true r1
 have g4:decide (x.d≥1)=true:=decide_eq_true d0
 refine aA Tryz.func253 [.tmp 2] ?_
 repeat' (first|(refine ai (fun K hK => ?_);and_intros;(all_goals first|(refine hK _ ?_;clear hK K)|exact aa|skip))|(refine ak ?_;(try clear hB KB);(try clear hK K)))
 rw [g1,g2,g3,g4];rfl
theorem pW (x:Ex) (h:ExS x):aC Sg 256 [ag (jt x)] (fun r=>r = .b (ag (qE (x.q * x.q * x.r)))):=by
 have hs:=qF h
 have h1:=jn x.q x.q ⟨h.q0,by have:=h.q1;omega⟩ ⟨h.q0,by have:=h.q1;omega⟩
 have h2:=pJ (x.q * x.q) x.r hs.1 ⟨h.r0,by have:=h.r1;omega⟩ hs.2.2.2 hs.2.1
 generalize x.q * x.q * x.r=A at *
 refine aA Tryz.func256 [.cell 2 260] ?_
 refine ga fun K hK => ?_
 simp (maxSteps:=999999)(disch:=omega) only [go_sem]
 and_intros
 all_goals first|(refine hK _ ?_;clear hK K)|exact aa|skip
 refine dN (id:=1) (.br 0 (.br 1 (.br 2 (.br 3 (.br 5 (.br 6 (.br 4 (.br 7 (.br 8 (.br 9 (.br 10 (.br 11 (.br 12 (.br 13 .leaf .nil) .nil) .nil) .nil) .nil) .nil) (.br 11 (.br 7 (.br 8 (.br 9 (.br 10 (.br 12 (.br 13 .leaf .nil) .nil) .nil) .nil) .nil) .nil) .nil)) (.br 11 (.br 4 (.br 7 (.br 8 (.br 9 (.br 10 (.br 12 (.br 13 .leaf .nil) .nil) .nil) .nil) .nil) .nil) .nil) .nil)) .nil) .nil) .nil) .nil) .nil) .nil) (by decide +kernel) (by (first|(refine And.intro (fun iw hiw => ?_) ?_;(focus ((try simp (maxSteps:=999999)(disch:=omega) only [go_sem] at hiw ⊢);(repeat (refine Eq.trans (if_neg ?_) ?_;(focus omega)));exact hw iw (by omega)));(focus (first|exact Nat.zero_le _|(simp (maxSteps:=999999)(disch:=omega) only [go_sem];done)|(simp (maxSteps:=999999)(disch:=omega) only [go_sem];omega))))|exact cR)) (fun K0 hW => ?_)
 refine (fun (tl:∀ st,Le st (aQ [(2, .b (.c (.ptr 1 0))),(3, .b (.c (.ptr 2 0)))] [(1, .fix [.p .any, .p .any]),(2, .fix ((qE A).map CV.p))] 3)→K0 st) => ?_) (fun st hl=>hW st _ hl ?_)
 ·clear hW
  repeat' (first|exact ba|(refine bq (fun K' hK' => ?_) ?_)|(refine aV (tl _ ?_);clear tl)|((first|refine ae (h1) ?_|refine ae (h2) ?_);(try simp (maxSteps:=999999)(disch:=omega) only [go_sem]);and_intros;(all_goals first|(refine hK' _ ?_;clear hK' K')|trivial|omega|exact Nat.le_of_ble_eq_true rfl|exact aa|skip))|(simp (maxSteps:=999999)(disch:=omega) only [go_sem];and_intros;(all_goals first|(refine hK' _ ?_;clear hK' K')|trivial|omega|exact Nat.le_of_ble_eq_true rfl|exact aa|skip)))
  all_goals
   refine az [(1,some 1),(2,some 2)] ?_ ?_
   and_intros
   all_goals first|exact ao|skip
 clear hW
 repeat' (first|(refine ai (fun K hK => ?_);and_intros;(all_goals first|(refine hK _ ?_;clear hK K)|exact aa|skip))|(refine ak ?_;(try clear hB KB);(try clear hK K)))
 all_goals rfl
theorem Fy (x:Ex) (n:Int) (h:ExS x) (hn:Q128 n):aC Sg 260 [ag (jt x),ag (qE n)] (fun r=>r = .b (I (lj x n))):=by
 have hs:=qF h
 have hn2:=(pK hn).2
 have h1:=pW x h
 have h3:=jn (n % 18446744073709551616) (n % 18446744073709551616) hn2 hn2
 have h4:=xN (x.q * x.q * x.r) (n % 18446744073709551616 * (n % 18446744073709551616))
 refine aA Tryz.func260 [.tmp 4] ?_
 repeat' (first|(((with_reducible refine bM (id:=3) [] (by decide +kernel) (by decide +kernel) ?_ (fun K hK => ?_));(first|(refine And.intro (fun iw hiw => ?_) ?_;(focus ((try simp (maxSteps:=999999)(disch:=omega) only [go_sem] at hiw ⊢);(repeat (refine Eq.trans (if_neg ?_) ?_;(focus omega)));exact hw iw (by omega)));(focus (first|exact Nat.zero_le _|(simp (maxSteps:=999999)(disch:=omega) only [go_sem];done)|(simp (maxSteps:=999999)(disch:=omega) only [go_sem];omega))))|exact cR));(try simp (maxSteps:=999999)(disch:=omega) only [go_sem]);and_intros;(all_goals first|(refine hK _ (by simp (maxSteps:=999999)(disch:=omega) only [go_sem]) ?_;clear hK K)|exact aa|skip))|refine an ?_|((first|refine ai (fun K hK => ?_)|refine ae (h1) ?_|refine ae (h3) ?_|refine ae (h4) ?_);and_intros;(all_goals first|(refine hK _ ?_;clear hK K)|exact aa|skip))|(refine aW (fun hb => ?_) (fun hb => ?_);all_goals try exact aG)|(refine ak ?_;(try clear hB KB);(try clear hK K)))
 ·rw [lj,if_pos hb]
 ·refine hK _ (by simp (maxSteps:=999999)(disch:=omega) only [go_sem]) ?_
  clear hK
  repeat' (refine ak ?_;(try clear hB KB);(try clear hK K))
  rw [lj,if_neg (by omega)]
theorem DU (x:Ex) (h:ExOk x):aC Sg 245 [ag (jt x)] (fun r=>r = .tup [bQ (cg x),B true]):=by
 have hv:=DB x h
 obtain ⟨p0,p1,q0,q1,r0,r1,d0,d1,_⟩:=id h
 have hES:ExS x:=⟨p0,p1,q0,by omega,r0,r1,by omega,d1⟩
 have hs:=qF hES
 have h1:=pW x hES
 have h2:=Ge (x.q * x.q * x.r) ⟨hs.2.2.1,hs.2.2.2⟩
 have hS:=HR (A:=x.q * x.q * x.r) hs.2.2.1 (by have:=hs.2.2.2;exact this)
 have hfl:=yU h hS
 obtain ⟨_,_,f0,f1⟩:=gB h
 have S0:=hS.s0
 have S1:sK (fun n=>decide (n * n≤x.q * x.q * x.r)) 64 0<18446744073709551616:=by
  refine Int.not_le.1 fun c => ?_
  have:=ay c c (by decide) S0
  have:=hS.le
  have:=hs.2.2.2
  omega
 generalize sK (fun n=>decide (n * n≤x.q * x.q * x.r)) 64 0=S at *
 have h3:=Mu S ⟨S0,S1⟩
 have h4:=pj x.p S p0 S0 (by omega)
 have h5:=tK (x.p+S) x.d ⟨by omega,by omega⟩ (by omega) d1
 rw [← hfl] at h5
 generalize cg x=F at *
 have g1:decide (F / 18446744073709551616>0)=false:=decide_eq_false (by omega)
 have g2:decide (F % 18446744073709551616≥9223372036854775808)=false:=decide_eq_false (by omega)
 have ht:True:=trivial
 generalize x.q * x.q * x.r=A at *
 refine aA Tryz.func245 [.tmp 2, .tmp 3] ?_
 repeat' (first|refine aj ht ?_|refine an ?_|((first|refine ai (fun K hK => ?_)|refine ae (hv) ?_);and_intros;(all_goals first|(refine hK _ ?_;clear hK K)|exact aa|skip)))
 refine dN (id:=3) (.br 0 (.br 1 (.br 2 (.br 3 (.br 4 (.br 5 (.br 6 (.br 7 (.br 8 (.br 9 (.br 10 (.br 11 (.br 12 .leaf .nil) .nil) .nil) .nil) .nil) .nil) (.br 10 (.br 6 (.br 7 (.br 8 (.br 9 (.br 11 (.br 12 .leaf .nil) .nil) .nil) .nil) .nil) .nil) .nil)) (.br 10 (.br 5 (.br 6 (.br 7 (.br 8 (.br 9 (.br 11 (.br 12 .leaf .nil) .nil) .nil) .nil) .nil) .nil) .nil) .nil)) (.br 10 (.br 4 (.br 5 (.br 6 (.br 7 (.br 8 (.br 9 (.br 11 (.br 12 .leaf .nil) .nil) .nil) .nil) .nil) .nil) .nil) .nil) .nil)) (.br 10 (.br 3 (.br 4 (.br 5 (.br 6 (.br 7 (.br 8 (.br 9 (.br 11 (.br 12 .leaf .nil) .nil) .nil) .nil) .nil) .nil) .nil) .nil) .nil) .nil)) .nil) .nil) .nil) (by decide +kernel) (by (first|(refine And.intro (fun iw hiw => ?_) ?_;(focus ((try simp (maxSteps:=999999)(disch:=omega) only [go_sem] at hiw ⊢);(repeat (refine Eq.trans (if_neg ?_) ?_;(focus omega)));exact hw iw (by omega)));(focus (first|exact Nat.zero_le _|(simp (maxSteps:=999999)(disch:=omega) only [go_sem];done)|(simp (maxSteps:=999999)(disch:=omega) only [go_sem];omega))))|exact cR)) (fun K0 hW => ?_)
 refine (fun (tl:∀ st,Le st (aQ [(1, .b (.c (.ptr 0 0))),(4, .b (.c (.ptr 1 0)))] [(0, .fix ((jt x).map CV.p)),(1, .fix ((qE (x.p+S)).map CV.p))] 2)→K0 st) => ?_) (fun st hl=>hW st _ hl ?_)
 ·clear hW
  repeat' (first|exact ba|(refine bq (fun K' hK' => ?_) ?_)|(refine aV (tl _ ?_);clear tl)|((first|refine ae (h1) ?_|refine ae (h2) ?_|refine ae (h3) ?_|refine ae (h4) ?_);(try simp (maxSteps:=999999)(disch:=omega) only [go_sem]);and_intros;(all_goals first|(refine hK' _ ?_;clear hK' K')|trivial|omega|exact Nat.le_of_ble_eq_true rfl|exact aa|skip))|(simp (maxSteps:=999999)(disch:=omega) only [go_sem];and_intros;(all_goals first|(refine hK' _ ?_;clear hK' K')|trivial|omega|exact Nat.le_of_ble_eq_true rfl|exact aa|skip)))
  all_goals
   refine az [(1,some 1)] ?_ ?_
   and_intros
   all_goals first|exact ao|skip
 clear hW
 repeat' (first|refine aj (And.intro g1 g2) ?_|refine an ?_|((first|refine ai (fun K hK => ?_)|refine ae (h5) ?_);and_intros;(all_goals first|(refine hK _ ?_;clear hK K)|exact aa|skip))|(refine ak ?_;(try clear hB KB);(try clear hK K)))
 rw [show F % 18446744073709551616=F by omega]
end Go.Proofs.YtmfblbbemekkoaaGreatDoor
