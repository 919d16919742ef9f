/- Part of the proof: WF, WG, WH, WI, WJ, WK, WL, WM. -/
import Derived.Test.YtmfblbbemekkoaaGreatDoorK19
set_option linter.unusedSimpArgs false
set_option linter.unusedVariables false
set_option maxHeartbeats 4000000
set_option maxRecDepth 16000
namespace Go.Proofs.YtmfblbbemekkoaaGreatDoor
open Go Go.SL
open Go.RowKit (wrap64)
attribute [local go_sem] qE mb
theorem Bg (m:Int):aD Sg 214 [I m] (fun r=>r = .b (B (decide (1≤m∧m≤12)))):=by
 refine aC Tryz.func214 [.tmp 2] ?_
 repeat' (first|(refine ai (fun K hK => ?_);and_intros;all_goals first|(refine hK _ ?_;clear hK K)|try exact aa)|(refine an ?_;(try clear hB KB);(try clear hK K)))
 refine fo ?_
 (try simp only [Bool.and_eq_true,Bool.or_eq_true,Bool.not_eq_true',Bool.not_eq_false',decide_eq_true_eq,decide_eq_false_iff_not,ge_iff_le,gt_iff_lt,beq_iff_eq,bne_iff_ne,ne_eq,Bool.or_eq_false_iff,Bool.and_eq_false_imp,Bool.not_true,Bool.not_false])
 try omega
theorem HI (mode s a d b:Int) (hm:1≤mode∧mode≤12) (h:Sm4 s a d b):aD Sg 252 [I mode,bN s,bN a,bN d,bN b] (fun r=>r = .b (ag (mb (aR mode s a d b)))):=by
 have hso:=DN s a d b h
 have hdo:=AJ s a d b h
 have hbu:=DU s a d b h
 have hh:=h
 obtain ⟨s0,sa,am,d0,db,bm⟩:=h
 have sb:0≤s * b∧s * b≤65535 * 65535:=⟨aq (by omega) (by omega),aw (by omega) (by omega) (by omega) (by omega)⟩
 have sd:0≤s * d∧s * d≤65535 * 65535:=⟨aq (by omega) (by omega),aw (by omega) (by omega) (by omega) (by omega)⟩
 have da:0≤d * a∧d * a≤65535 * 65535:=⟨aq (by omega) (by omega),aw (by omega) (by omega) (by omega) (by omega)⟩
 have ab:0≤a * b∧a * b≤65535 * 65535:=⟨aq (by omega) (by omega),aw (by omega) (by omega) (by omega) (by omega)⟩
 have hmin:(if d * a<s * b then d * a else s * b)=min (s * b) (d * a):=by split <;> omega
 have hmax:(if d * a>s * b then d * a else s * b)=max (s * b) (d * a):=by split <;> omega
 have qmin:Q64 (if d * a<s * b then d * a else s * b):=⟨by split <;> omega,by split <;> omega⟩
 have qmax:Q64 (if d * a>s * b then d * a else s * b):=⟨by split <;> omega,by split <;> omega⟩
 have hv:mode=1∨mode=2∨mode=3∨mode=4∨mode=5∨mode=6∨mode=7∨mode=8∨mode=9∨mode=10∨mode=11∨mode=12:=by omega
 have ht:True:=trivial
 refine aC Tryz.func252 [.cell 10 262] ?_
 rcases hv with rfl|rfl|rfl|rfl|rfl|rfl|rfl|rfl|rfl|rfl|rfl|rfl
 ·repeat' (first|refine aj ht ?_|refine ak ?_|((first|refine ai (fun K hK => ?_)|refine ae (ba (s * b) 1 ⟨by omega,by omega⟩) ?_);and_intros;all_goals first|(refine hK _ ?_;clear hK K)|try exact aa)|(refine an ?_;(try clear hB KB);(try clear hK K)))
  rfl
 ·repeat' (first|refine aj ht ?_|refine ak ?_|((first|refine ai (fun K hK => ?_)|refine ae (ba (s * d) 1 ⟨by omega,by omega⟩) ?_);and_intros;all_goals first|(refine hK _ ?_;clear hK K)|try exact aa)|(refine an ?_;(try clear hB KB);(try clear hK K)))
  rfl
 ·have hn:0≤s * b+d * a - s * d:=by have:=aw (Int.le_refl s) db d0 s0;omega
  repeat' (first|refine aj ht ?_|refine ak ?_|((first|refine ai (fun K hK => ?_)|refine ae (ba (s * b+d * a - s * d) 1 ⟨by omega,by omega⟩) ?_);and_intros;all_goals first|(refine hK _ ?_;clear hK K)|try exact aa)|(refine an ?_;(try clear hB KB);(try clear hK K)))
  rfl
 ·have hb:=pK d0 db s0 sa
  have hb2:b * a≤65535 * 65535:=by rw [Int.mul_comm];omega
  have h1:=wX s a d b (decide (2 * d≤b)) hh (fun q=>by
   rw [decide_eq_false_iff_not] at q
   have:=aw (show 2 * (b - d)≤b by omega) (show a - s≤a by omega) (by omega) (by omega)
   rw [Int.mul_comm a b];omega)
  rw [show (if decide (2 * d≤b)=true then 2 * s * d else a * b - 2 * (b - d) * (a - s))=kJ d b s a by
   unfold kJ
   simp only [decide_eq_true_eq]
   split
   ·rw [Int.mul_right_comm]
   ·rw [Int.mul_comm a b,Int.mul_right_comm 2 (b - d)]] at h1
  repeat' (first|refine aj ht ?_|refine ak ?_|((first|refine ai (fun K hK => ?_)|refine ae (h1) ?_|refine ae (ba (kJ d b s a) 1 ⟨by omega,by omega⟩) ?_);and_intros;all_goals first|(refine hK _ ?_;clear hK K)|try exact aa)|(refine an ?_;(try clear hB KB);(try clear hK K)))
  rfl
 ·repeat' (first|refine aj ht ?_|refine ak ?_|((first|refine ai (fun K hK => ?_)|refine ae (ba (if d * a<s * b then d * a else s * b) 1 qmin) ?_);and_intros;all_goals first|(refine hK _ ?_;clear hK K)|try exact aa)|(refine an ?_;(try clear hB KB);(try clear hK K)))
  rw [hmin];rfl
 ·repeat' (first|refine aj ht ?_|refine ak ?_|((first|refine ai (fun K hK => ?_)|refine ae (ba (if d * a>s * b then d * a else s * b) 1 qmax) ?_);and_intros;all_goals first|(refine hK _ ?_;clear hK K)|try exact aa)|(refine an ?_;(try clear hB KB);(try clear hK K)))
  rw [hmax];rfl
 ·repeat' (first|refine aj ht ?_|refine ak ?_|((first|refine ai (fun K hK => ?_)|refine ae (hdo) ?_);and_intros;all_goals first|(refine hK _ ?_;clear hK K)|try exact aa)|(refine an ?_;(try clear hB KB);(try clear hK K)))
  rfl
 ·repeat' (first|refine aj ht ?_|refine ak ?_|((first|refine ai (fun K hK => ?_)|refine ae (hbu) ?_);and_intros;all_goals first|(refine hK _ ?_;clear hK K)|try exact aa)|(refine an ?_;(try clear hB KB);(try clear hK K)))
  rfl
 ·have hb:=pK s0 sa d0 db
  have h1:=wX s a d b (decide (2 * s≤a)) hh (fun q=>by
   rw [decide_eq_false_iff_not] at q
   have:=aw (show b - d≤b by omega) (show 2 * (a - s)≤a by omega) (by omega) (by omega)
   rw [Int.mul_comm b a] at this
   rw [Int.mul_right_comm,Int.mul_comm];omega)
  rw [show (if decide (2 * s≤a)=true then 2 * s * d else a * b - 2 * (b - d) * (a - s))=kJ s a d b by
   unfold kJ
   simp only [decide_eq_true_eq]] at h1
  repeat' (first|refine aj ht ?_|refine ak ?_|((first|refine ai (fun K hK => ?_)|refine ae (h1) ?_|refine ae (ba (kJ s a d b) 1 ⟨by omega,by omega⟩) ?_);and_intros;all_goals first|(refine hK _ ?_;clear hK K)|try exact aa)|(refine an ?_;(try clear hB KB);(try clear hK K)))
  rfl
 ·repeat' (first|refine aj ht ?_|refine ak ?_|((first|refine ai (fun K hK => ?_)|refine ae (hso) ?_);and_intros;all_goals first|(refine hK _ ?_;clear hK K)|try exact aa)|(refine an ?_;(try clear hB KB);(try clear hK K)))
  rfl
 ·have hmm:(if d * a>s * b then d * a else s * b) - (if d * a<s * b then d * a else s * b)=max (s * b) (d * a) - min (s * b) (d * a):=by rw [hmin,hmax]
  have qd:Q64 ((if d * a>s * b then d * a else s * b) - (if d * a<s * b then d * a else s * b)):=⟨by split <;> split <;> omega,by split <;> split <;> omega⟩
  repeat' (first|refine aj ht ?_|refine ak ?_|((first|refine ai (fun K hK => ?_)|refine ae (ba ((if d * a>s * b then d * a else s * b) - (if d * a<s * b then d * a else s * b)) 1 qd) ?_);and_intros;all_goals first|(refine hK _ ?_;clear hK K)|try exact aa)|(refine an ?_;(try clear hB KB);(try clear hK K)))
  rw [hmm];rfl
 ·have hn:0≤s * b+d * a - 2 * s * d:=by
   have h1:=aw (Int.le_refl s) db d0 s0
   have h2:=aw sa (Int.le_refl d) d0 (by omega)
   rw [Int.mul_comm a d] at h2
   rw [Int.mul_assoc];omega
  have h4:0≤2 * s * d∧2 * s * d≤131070 * 65535:=⟨aq (by omega) d0,aw (by omega) (by omega) d0 (by omega)⟩
  repeat' (first|refine aj ht ?_|refine ak ?_|((first|refine ai (fun K hK => ?_)|refine ae (ba (s * b+d * a - 2 * s * d) 1 ⟨by omega,by omega⟩) ?_);and_intros;all_goals first|(refine hK _ ?_;clear hK K)|try exact aa)|(refine an ?_;(try clear hB KB);(try clear hK K)))
  rfl
theorem tw (mode s a d b:Int) (hm:1≤mode∧mode≤12) (h:Sm4 s a d b):aD Sg 240 [I mode,U s,U a,U d,U b] (fun r=>r = .tup [ag (mb (aR mode s a d b)),B true]):=by
 have h1:=Bg mode
 rw [decide_eq_true hm] at h1
 have h2:=HI mode s a d b hm h
 obtain ⟨s0,sa,am,d0,db,bm⟩:=h
 have d1:decide (s>a)=false:=decide_eq_false (by omega)
 have d2:decide (d>b)=false:=decide_eq_false (by omega)
 generalize aR mode s a d b=X at *
 refine aC Tryz.func240 [.cell 10 262, .tmp 11] ?_
 repeat' (first|refine aj (And.intro d1 d2) ?_|refine ak ?_|((first|refine ai (fun K hK => ?_)|refine ae (h1) ?_|refine ae (h2) ?_);and_intros;all_goals first|(refine hK _ ?_;clear hK K)|try exact aa)|(refine an ?_;(try clear hB KB);(try clear hK K)))
 rfl
end Go.Proofs.YtmfblbbemekkoaaGreatDoor
set_option maxHeartbeats 4000000
set_option maxRecDepth 16000
namespace Go.Proofs.YtmfblbbemekkoaaGreatDoor
open Go Go.SL
open Go.RowKit (wrap64)
attribute [local go_sem] qE mb
theorem Be (op mode m cs sl cb ab : Int) (hm : Full m) (ho : 1 ≤ op ∧ op ≤ 12) (hmo : 1 ≤ mode ∧ mode ≤ 12) (hs : Pre cs sl m) (hd : Pre cb ab m) :
  aD Sg 226 [I op,I mode,U m,U cs,U sl,U cb,U ab] (fun r=>r = .tup [ag (mb (cT op mode m cs sl cb ab)),B true]):=by
 have hok:=mL (op:=op) (mode:=mode) hm hs hd
 have ht:=lQ (mode:=mode) hm hs hd
 obtain ⟨s0,sa,am⟩:=hs
 obtain ⟨d0,db,bm⟩:=hd
 have hle:=hm.le
 have hp:=hm.pos
 have hb:=tw mode cs sl cb ab hmo ⟨s0,sa,by omega,d0,db,by omega⟩
 have hf:=oL op sl ab m hm ho (by omega) am (by omega) bm
 have ⟨a1,a2⟩:=lS (op:=op) (a:=sl) (b:=ab) (m:=m) (by omega) am (by omega) bm
 have ⟨b1,b2⟩:=mJ (op:=op) (a:=sl) (b:=ab) (m:=m) (by omega) am (by omega) bm
 obtain ⟨k1,k2,k3,k4,k5,k6,k7,k8,_⟩:=hok
 obtain ⟨t0,t1,t2,t3,t4,t5,t6,t7,_⟩:=ht
 unfold cT at *
 dsimp only at k1 k2 k3 k4 k5 k6 k7 k8
 generalize aR mode cs sl cb ab=T at *
 generalize jq op sl ab m=fa at *
 generalize lT op sl ab m=fb at *
 have e1:0≤(m - ab) * cs∧(m - ab) * cs≤65535 * 65535:=⟨aq (by omega) (by omega),aw (by omega) (by omega) (by omega) (by omega)⟩
 have hsum:(m - ab) * cs+sl * ab≤65535 * 65535:=by
  have h1:=aw (show m - ab≤m - ab by omega) sa s0 (by omega)
  have h2:(m - ab) * sl+sl * ab=m * sl:=by rw [Int.sub_mul,Int.mul_comm sl ab];omega
  have h3:m * sl≤65535 * 65535:=aw hle (by omega) (by omega) (by decide)
  omega
 have e2:0≤(m - ab) * cs * T.d:=aq e1.1 (by omega)
 have e3:(m - ab) * cs * T.d+T.p≤65535 * 65535 * 4294836225:=by
  have h1:=aw hsum t6 (by omega) (by decide)
  rw [Int.add_mul] at h1
  omega
 have e4:0≤cb * m∧cb * m≤65535 * 65535:=⟨aq (by omega) (by omega),aw (by omega) (by omega) (by omega) (by omega)⟩
 have e5:0≤cb * m * T.d∧cb * m * T.d≤65535 * 65535 * 4294836225:=⟨aq e4.1 (by omega),aw e4.2 (by omega) (by omega) (by omega)⟩
 have e6:0≤m * m∧m * m≤65535 * 65535:=⟨aq (by omega) (by omega),aw (by omega) (by omega) (by omega) (by omega)⟩
 have e9:0≤fa * T.q∧fa * T.q≤65535 * 65535:=⟨aq (by omega) (by omega),aw (by omega) (by omega) (by omega) (by omega)⟩
 have e10:T.p / 18446744073709551616=0∧T.p % 18446744073709551616=T.p:=by omega
 have w1:aD Sg 243 [bN ((m - ab) * cs * T.d+T.p % 18446744073709551616),bN fa] (fun r=>r = .b (ag (qE (((m - ab) * cs * T.d+T.p) * fa)))):=by
  rw [e10.2];exact gx ((m - ab) * cs * T.d+T.p) fa ⟨by omega,by omega⟩ ⟨by omega,by omega⟩
 have w2:=gx (cb * m * T.d) fb ⟨by omega,by omega⟩ ⟨by omega,by omega⟩
 have eq:((m - ab) * cs * T.d+T.p) * fa+cb * m * T.d * fb=T.p * fa+(m - ab) * cs * fa * T.d+fb * cb * m * T.d:=by grind
 have w3:=nf (((m - ab) * cs * T.d+T.p) * fa) (cb * m * T.d * fb) (aq (by omega) a1) (aq e5.1 b1) (by rw [eq];omega)
 rw [eq] at w3
 have g1:(m != 255 && m != 65535)=false:=by rcases hm.h with q|q <;> rw [q] <;> rfl
 have htt:True:=trivial
 refine aC Tryz.func226 [.cell 14 262, .tmp 15] ?_
 repeat' (first|refine aj g1 ?_|refine ak ?_|((first|refine ai (fun K hK => ?_)|refine ae (hf) ?_|refine ae (hb) ?_|refine ae (w1) ?_|refine ae (w2) ?_|refine ae (w3) ?_);and_intros;all_goals first|(refine hK _ ?_;clear hK K)|try exact aa)|(refine an ?_;(try clear hB KB);(try clear hK K)))
 rfl
theorem nU (op mode m cs sl cb ab : Int) (hm : Full m) (ho : 1 ≤ op ∧ op ≤ 12) (hmo : 1 ≤ mode ∧ mode ≤ 12) (hs : Pre cs sl m) (hd : Pre cb ab m) :
  aD Sg 208 [I op,I mode,U m,U cs,U sl,U cb,U ab] (fun r=>r = .tup [U (fq op mode m cs sl cb ab),B true]):=by
 have hok:=mL (op:=op) (mode:=mode) hm hs hd
 have hv:=Be op mode m cs sl cb ab hm ho hmo hs hd
 have hh:=pj _ hok
 have hl:=mP (op:=op) (mode:=mode) hm hs hd
 have hl2:=qP (op:=op) (a:=sl) (b:=ab) hm (by have:=hs.s0;have:=hs.sa;omega) hs.am (by have:=hd.s0;have:=hd.sa;omega) hd.am
 have hn:=(nj hok).2.2
 have hle:=hm.le
 have htt:True:=trivial
 have hw:IntKind.u16.wrap (hx (cT op mode m cs sl cb ab))=fq op mode m cs sl cb ab:=kx hn (by unfold fq at hl;omega)
 refine aC Tryz.func208 [.tmp 14, .tmp 15] ?_
 repeat' (first|refine aj htt ?_|refine ak ?_|((first|refine ai (fun K hK => ?_)|refine ae (hv) ?_|refine ae (hh) ?_);and_intros;all_goals first|(refine hK _ ?_;clear hK K)|try exact aa)|(refine an ?_;(try clear hB KB);(try clear hK K)))
 rw [hw]
end Go.Proofs.YtmfblbbemekkoaaGreatDoor
set_option maxHeartbeats 4000000
set_option maxRecDepth 16000
namespace Go.Proofs.YtmfblbbemekkoaaGreatDoor
open Go Go.SL
open Go.RowKit (wrap64)
attribute [local go_sem] qE mb
theorem uf (m:Int):aD Sg 241 [U m] (fun r=>r = .b (B (decide (m=255∨m=65535)))):=by
 refine aC Tryz.func241 [.tmp 2] ?_
 repeat' (first|(refine ai (fun K hK => ?_);and_intros;all_goals first|(refine hK _ ?_;clear hK K)|try exact aa)|(refine an ?_;(try clear hB KB);(try clear hK K)))
 refine fo ?_
 (try simp only [Bool.and_eq_true,Bool.or_eq_true,Bool.not_eq_true',Bool.not_eq_false',decide_eq_true_eq,decide_eq_false_iff_not,ge_iff_le,gt_iff_lt,beq_iff_eq,bne_iff_ne,ne_eq,Bool.or_eq_false_iff,Bool.and_eq_false_imp,Bool.not_true,Bool.not_false])
 try omega
theorem Ak (a b c d e f : Int) (ha : 0 ≤ a ∧ a ≤ 65535) (hb : 0 ≤ b ∧ b ≤ 65535) (hc : 0 ≤ c ∧ c ≤ 65535) (hd : 0 ≤ d ∧ d ≤ 65535) (he : 0 ≤ e ∧ e ≤ 65535) (hf : 0 ≤ f ∧ f ≤ 65535) :
  aD Sg 244 [U a,U b,U c,U d,U e,U f] (fun r=>r = .b (UQ (a * b+c * d+e * f))):=by
 have e1:0≤a * b∧a * b≤65535 * 65535:=⟨aq ha.1 hb.1,aw ha.2 hb.2 hb.1 (by decide)⟩
 have e2:0≤c * d∧c * d≤65535 * 65535:=⟨aq hc.1 hd.1,aw hc.2 hd.2 hd.1 (by decide)⟩
 have e3:0≤e * f∧e * f≤65535 * 65535:=⟨aq he.1 hf.1,aw he.2 hf.2 hf.1 (by decide)⟩
 refine aC Tryz.func244 [.tmp 12] ?_
 repeat' (first|with_reducible exact cn|(refine ai (fun K hK => ?_);and_intros;all_goals first|(refine hK _ ?_;clear hK K)|try exact aa)|(refine an ?_;(try clear hB KB);(try clear hK K)))
theorem qT (m a f acc b : Int) (hm : Full m) (ha : 0 ≤ a) (haf : a ≤ f) (hfm : f ≤ m) (h1 : 0 ≤ acc) (h2 : acc ≤ m) (h3 : 0 ≤ b) (h4 : b ≤ m) :
  aD Sg 224 [U m,U a,U f,U acc,U b] (fun r=>r = .tup [U (dG m a f acc b),B true]):=by
 have hle:=hm.le
 have hp:=hm.pos
 have hbd:=ln hm ha haf hfm h1 h2 h3 h4
 have hu:=uf m
 rw [show decide (m=255∨m=65535)=true from decide_eq_true hm.h] at hu
 have g1:decide (a>f)=false:=decide_eq_false (by omega)
 have g2:decide (f>m)=false:=decide_eq_false (by omega)
 have g3:decide (acc>m)=false:=decide_eq_false (by omega)
 have g4:decide (b>m)=false:=decide_eq_false (by omega)
 have hs:=Ak (m - f) acc (f - a) b m a ⟨by omega,by omega⟩ ⟨h1,by omega⟩ ⟨by omega,by omega⟩ ⟨h3,by omega⟩ ⟨by omega,hle⟩ ⟨ha,by omega⟩
 have e1:0≤(m - f) * acc∧(m - f) * acc≤65535 * 65535:=⟨aq (by omega) (by omega),aw (by omega) (by omega) (by omega) (by omega)⟩
 have e2:0≤(f - a) * b∧(f - a) * b≤65535 * 65535:=⟨aq (by omega) (by omega),aw (by omega) (by omega) (by omega) (by omega)⟩
 have e3:0≤m * a∧m * a≤65535 * 65535:=⟨aq (by omega) (by omega),aw (by omega) (by omega) (by omega) (by omega)⟩
 have hh:=qD ((m - f) * acc+(f - a) * b+m * a) m ⟨by omega,by omega⟩ ⟨by omega,by omega⟩
 have hw:IntKind.u16.wrap (bG ((m - f) * acc+(f - a) * b+m * a) m)=dG m a f acc b:=kx hbd.1 (Int.le_trans hbd.2 hle)
 refine aC Tryz.func224 [.tmp 10, .tmp 11] ?_
 repeat' (first|refine aj (And.intro g1 (And.intro g2 (And.intro g3 g4))) ?_|refine ak ?_|((first|refine ai (fun K hK => ?_)|refine ae (hu) ?_|refine ae (hs) ?_|refine ae (hh) ?_);and_intros;all_goals first|(refine hK _ ?_;clear hK K)|try exact aa)|(refine an ?_;(try clear hB KB);(try clear hK K)))
 rw [hw]
theorem zi (m a f acc : Int) (hm : Full m) (ha : 0 ≤ a) (haf : a ≤ f) (hfm : f ≤ m) (h1 : 0 ≤ acc) (h2 : acc ≤ m) :
  aD Sg 225 [U m,U a,U f,U acc] (fun r=>r = .tup [U (dG m a f acc 0),B true]):=by
 have h:=qT m a f acc 0 hm ha haf hfm h1 h2 (Int.le_refl _) (Int.le_of_lt hm.pos)
 refine aC Tryz.func225 [.tmp 8, .tmp 9] ?_
 repeat' (first|with_reducible exact cn|((first|refine ai (fun K hK => ?_)|refine ae (h) ?_);and_intros;all_goals first|(refine hK _ ?_;clear hK K)|try exact aa)|(refine an ?_;(try clear hB KB);(try clear hK K)))
end Go.Proofs.YtmfblbbemekkoaaGreatDoor
set_option maxHeartbeats 4000000
set_option maxRecDepth 16000
namespace Go.Proofs.YtmfblbbemekkoaaGreatDoor
open Go Go.SL
open Go.RowKit (wrap64)
attribute [local go_sem] qE mb
theorem lZ (mode m cs sl fs c cb ab : Int) (hm : Full m) (hmo : 1 ≤ mode ∧ mode ≤ 12) (hs : Pre cs sl m) (hd : Pre cb ab m) (hf : sl ≤ fs) (hfm : fs ≤ m) (hc : 0 ≤ c) (hcm : c ≤ m) :
  aD Sg 223 [I mode,U m,U cs,U sl,U fs,U c,U cb,U ab] (fun r=>r = .tup [U (eF mode m cs sl fs c cb ab),B true]):=by
 have hok:=sA (mode:=mode) hm hs hd hf hfm hc hcm
 have hkl:=nH (mode:=mode) (acc:=m) hm hs hd hf hfm hc hcm (Int.le_refl _)
 have ht:=lQ (mode:=mode) hm hs hd
 have hh:=pj _ hok
 have hn:=(nj hok).2.2
 obtain ⟨s0,sa,am⟩:=hs
 obtain ⟨d0,db,bm⟩:=hd
 have hle:=hm.le
 have hp:=hm.pos
 have hb:=tw mode cs sl cb ab hmo ⟨s0,sa,by omega,d0,db,by omega⟩
 have hu:=uf m
 rw [show decide (m=255∨m=65535)=true from decide_eq_true hm.h] at hu
 have g2:decide (sl>fs)=false:=decide_eq_false (by omega)
 have g3:decide (fs>m)=false:=decide_eq_false (by omega)
 have g5:decide (ab>m)=false:=decide_eq_false (by omega)
 have g6:decide (c>m)=false:=decide_eq_false (by omega)
 have hka:dG m sl fs m ab≤m:=(ln hm (by omega) hf hfm (by omega) (Int.le_refl _) (by omega) bm).2
 have hw:IntKind.u16.wrap (eF mode m cs sl fs c cb ab)=eF mode m cs sl fs c cb ab:=kx hn (by omega)
 obtain ⟨k1,k2,k3,k4,k5,k6,k7,k8,_⟩:=hok
 obtain ⟨t0,t1,t2,t3,t4,t5,t6,t7,_⟩:=ht
 unfold eF at *
 unfold dq at *
 dsimp only at k1 k2 k3 k4 k5 k6 k7 k8
 generalize aR mode cs sl cb ab=T at *
 have e1:0≤(m - fs) * c∧(m - fs) * c≤65535 * 65535:=⟨aq (by omega) (by omega),aw (by omega) (by omega) (by omega) (by omega)⟩
 have e2:0≤(fs - sl) * cb∧(fs - sl) * cb≤65535 * 65535:=⟨aq (by omega) (by omega),aw (by omega) (by omega) (by omega) (by omega)⟩
 have e3:0≤(m - ab) * cs∧(m - ab) * cs≤65535 * 65535:=⟨aq (by omega) (by omega),aw (by omega) (by omega) (by omega) (by omega)⟩
 have hsu:=Ak (m - fs) c (fs - sl) cb (m - ab) cs ⟨by omega,by omega⟩ ⟨hc,by omega⟩ ⟨by omega,by omega⟩ ⟨d0,by omega⟩ ⟨by omega,by omega⟩ ⟨s0,by omega⟩
 have w1:=gx ((m - fs) * c+(fs - sl) * cb+(m - ab) * cs) T.d ⟨by omega,by omega⟩ ⟨by omega,by omega⟩
 have w2:=nf (((m - fs) * c+(fs - sl) * cb+(m - ab) * cs) * T.d) T.p (aq (by omega) (by omega)) t0 (by omega)
 rw [Int.add_comm _ T.p] at w2
 refine aC Tryz.func223 [.tmp 16, .tmp 17] ?_
 repeat' (first|refine aj (And.intro g2 (And.intro g3 (And.intro g5 g6))) ?_|refine ak ?_|((first|refine ai (fun K hK => ?_)|refine ae (hb) ?_|refine aE (fun hg=>hu) ?_);and_intros;all_goals first|(refine hK _ ?_;clear hK K)|try exact aa))
 refine jm (id:=4) (.br 0 (.br 1 (.br 2 (.br 3 (.br 4 (.br 5 (.br 6 (.br 7 (.br 8 (.br 9 (.br 10 (.br 11 (.br 12 (.br 13 (.br 14 (.br 16 (.br 17 (.br 15 (.br 18 (.br 19 (.br 20 (.br 21 (.br 22 (.br 23 (.br 24 .leaf .nil) .nil) .nil) .nil) .nil) .nil) (.br 22 (.br 18 (.br 19 (.br 20 (.br 21 (.br 23 (.br 24 .leaf .nil) .nil) .nil) .nil) .nil) .nil) .nil)) (.br 22 (.br 15 (.br 18 (.br 19 (.br 20 (.br 21 (.br 23 (.br 24 .leaf .nil) .nil) .nil) .nil) .nil) .nil) .nil) .nil)) .nil) .nil) .nil) .nil) .nil) .nil) .nil) .nil) .nil) .nil) .nil) .nil) .nil) .nil) .nil) .nil) .nil) (by decide +kernel) (by (first|(refine And.intro (fun iw hiw => ?_) ?_;(focus ((try simp (maxSteps:=999999)(disch:=omega) only [go_sem] at hiw ⊢);(repeat (refine Eq.trans (if_neg ?_) ?_;(focus omega)));exact hw iw (by omega)));(focus (first|exact Nat.zero_le _|(simp (maxSteps:=999999)(disch:=omega) only [go_sem];done)|(simp (maxSteps:=999999)(disch:=omega) only [go_sem];omega))))|exact eS)) (fun K0 hW => ?_)
 refine (fun (tl:∀ st,Le st (aZ [(1, .b (U m)),(18, .b (.c (.ptr 0 0))),(20, .b (.c (.ptr 1 0)))] [(0, .fix ((mb T).map CV.p)),(1, .fix ((qE (T.p+((m - fs) * c+(fs - sl) * cb+(m - ab) * cs) * T.d)).map CV.p))] 2)→K0 st) => ?_) (fun st hl=>hW st _ hl ?_)
 ·clear hW
  repeat' (first|exact cz|(refine cZ (fun K' hK' => ?_) ?_)|(refine cj (tl _ ?_);clear tl)|((first|refine ae (hsu) ?_|refine ae (w1) ?_|refine ae (w2) ?_);(try simp (maxSteps:=999999)(disch:=omega) only [go_sem]);and_intros;(all_goals first|(refine hK' _ ?_;clear hK' K')|trivial|omega|exact Nat.le_of_ble_eq_true rfl|exact aa|skip))|(simp (maxSteps:=999999)(disch:=omega) only [go_sem];and_intros;(all_goals first|(refine hK' _ ?_;clear hK' K')|trivial|omega|exact Nat.le_of_ble_eq_true rfl|exact aa|skip)))
  all_goals
   refine ay [(1,some 1)] ?_ ?_
   and_intros
   all_goals first|exact ao|skip
 clear hW
 repeat' (first|with_reducible exact cn|((first|refine ai (fun K hK => ?_)|refine ae (hh) ?_);and_intros;all_goals first|(refine hK _ ?_;clear hK K)|try exact aa)|(refine an ?_;(try clear hB KB);(try clear hK K)))
 all_goals skip
end Go.Proofs.YtmfblbbemekkoaaGreatDoor
set_option maxHeartbeats 4000000
set_option maxRecDepth 16000
namespace Go.Proofs.YtmfblbbemekkoaaGreatDoor
open Go Go.SL
open Go.RowKit (wrap64)
theorem gG (p:Pixel) (m:Int):aD Sg 117 [ag (aH p),U m] (fun r=>r = .b (B (kP p m))):=by
 have ht:True:=trivial
 have no:∀ {q:Prop},(¬ q)→(kP p m=true→q)→kP p m=false:=fun h1 h2=>by
  rw [← Bool.not_eq_true];exact fun h=>h1 (h2 h)
 have ok:kP p m=true↔p.c0≤p.a∧p.c1≤p.a∧p.c2≤p.a∧p.a≤p.f∧p.f≤m:=by unfold kP;rw [decide_eq_true_eq]
 refine aC Tryz.func117 [.tmp 4] ?_
 repeat' (first|refine ak ?_|(refine ai (fun K hK => ?_);and_intros;all_goals first|(refine hK _ ?_;clear hK K)|try exact aa))
 refine aS (X:=Int) (fun k=>aZ [(1, .b (U m)),(2, .b (.c (.ptr 0 0))),(8, .b (ag [PU p.c0,PU p.c1,PU p.c2])),(9, .b (I k))] [(0, .fix ((aH p).map CV.p))] 1) (fun k=>0≤k∧k≤3∧(0<k→p.c0≤p.a)∧(1<k→p.c1≤p.a)∧(2<k→p.c2≤p.a)) (fun k=>(3 - k).toNat) 0 ?_ ?_ ?_
 ·exact ⟨by decide,by decide,fun h=>absurd h (by decide),fun h=>absurd h (by decide),fun h=>absurd h (by decide)⟩
 ·refine ay [(0,some 0)] ?_ ?_
  and_intros
  all_goals first|exact ao|skip
 ·rintro k ⟨k0,k3,i0,i1,i2⟩
  have hv:k=0∨k=1∨k=2∨k=3:=by omega
  rcases hv with rfl|rfl|rfl|rfl
  ·repeat' (first|refine aj ht ?_|refine ak ?_|(refine ai (fun K hK => ?_);and_intros;all_goals first|(refine hK _ ?_;clear hK K)|try exact aa)|(refine bc (fun hb => ?_) (fun hb => ?_);all_goals try exact aJ)|(refine an ?_;(try clear hB KB);(try clear hK K)))
   ·rw [no (q:=p.c0≤p.a) (by omega) (fun h=>(ok.1 h).1)]
   ·rw [ah]
    refine au 1 ?_ ⟨by decide,by decide,fun _=>by omega,fun h=>absurd h (by decide),fun h=>absurd h (by decide)⟩ (by decide)
    refine ay [(0,some 0)] ?_ ?_
    and_intros
    all_goals first|exact ao|skip
  ·repeat' (first|refine aj ht ?_|refine ak ?_|(refine ai (fun K hK => ?_);and_intros;all_goals first|(refine hK _ ?_;clear hK K)|try exact aa)|(refine bc (fun hb => ?_) (fun hb => ?_);all_goals try exact aJ)|(refine an ?_;(try clear hB KB);(try clear hK K)))
   ·rw [no (q:=p.c1≤p.a) (by omega) (fun h=>(ok.1 h).2.1)]
   ·rw [ah]
    refine au 2 ?_ ⟨by decide,by decide,fun _=>i0 (by decide),fun _=>by omega,fun h=>absurd h (by decide)⟩ (by decide)
    refine ay [(0,some 0)] ?_ ?_
    and_intros
    all_goals first|exact ao|skip
  ·repeat' (first|refine aj ht ?_|refine ak ?_|(refine ai (fun K hK => ?_);and_intros;all_goals first|(refine hK _ ?_;clear hK K)|try exact aa)|(refine bc (fun hb => ?_) (fun hb => ?_);all_goals try exact aJ)|(refine an ?_;(try clear hB KB);(try clear hK K)))
   ·rw [no (q:=p.c2≤p.a) (by omega) (fun h=>(ok.1 h).2.2.1)]
   ·rw [ah]
    refine au 3 ?_ ⟨by decide,by decide,fun _=>i0 (by decide),fun _=>i1 (by decide),fun _=>by omega⟩ (by decide)
    refine ay [(0,some 0)] ?_ ?_
    and_intros
    all_goals first|exact ao|skip
  ·have j0:=i0 (by decide)
   have j1:=i1 (by decide)
   have j2:=i2 (by decide)
   repeat' (first|refine aj ht ?_|refine ak ?_|(refine ai (fun K hK => ?_);and_intros;all_goals first|(refine hK _ ?_;clear hK K)|try exact aa)|(refine an ?_;(try clear hB KB);(try clear hK K)))
   refine congrArg (fun v=>SV.b (B v)) ?_
   rw [Bool.eq_iff_iff,ok]
   simp only [Bool.and_eq_true,decide_eq_true_eq]
   omega
end Go.Proofs.YtmfblbbemekkoaaGreatDoor
set_option maxHeartbeats 4000000
set_option maxRecDepth 16000
namespace Go.Proofs.YtmfblbbemekkoaaGreatDoor
open Go Go.SL
open Go.RowKit (wrap64)
theorem mw (c k own m:Int) (hm:Full m) (hc:0≤c) (hcm:c≤m) (hk:0≤k) (hkm:k≤m) (ho:0≤own) (hom:own≤m):aD Sg 150 [U c,U k,U own,U m] (fun r=>r = .b (U (kt c k own m))):=by
 have hle:=hm.le
 have hp:=hm.pos
 have e1:0≤m * c∧m * c≤65535 * 65535:=⟨aq (by omega) hc,aw hle (by omega) hc (by decide)⟩
 have e2:0≤(m - own) * k∧(m - own) * k≤65535 * 65535:=⟨aq (by omega) hk,aw (by omega) (by omega) hk (by decide)⟩
 unfold kt
 by_cases h:(m - own) * k<m * c
 ·have g1:decide (m * c≤(m - own) * k)=false:=decide_eq_false (by omega)
  have hh:=qD (m * c - (m - own) * k) m ⟨by omega,by omega⟩ ⟨by omega,by omega⟩
  have hn:=cE (n:=m * c - (m - own) * k) hp (by omega)
  have hl:=na (n:=m * c - (m - own) * k) (k:=c) hp (by omega)
  rw [if_pos h]
  generalize bG (m * c - (m - own) * k) m=v at *
  refine aC Tryz.func150 [.tmp 8] ?_
  repeat' (first|refine aj g1 ?_|refine ak ?_|((first|refine ai (fun K hK => ?_)|refine ae (hh) ?_);and_intros;all_goals first|(refine hK _ ?_;clear hK K)|try exact aa)|(refine an ?_;(try clear hB KB);(try clear hK K)))
  refine congrArg (fun x=>SV.b (U x)) ?_
  first|(split <;> omega)|(rw [kx hn (by omega)];split <;> omega)
 ·have g1:decide (m * c≤(m - own) * k)=true:=decide_eq_true (by omega)
  rw [if_neg h]
  refine aC Tryz.func150 [.tmp 8] ?_
  repeat' (first|with_reducible exact cn|refine aj g1 ?_|refine ak ?_|(refine ai (fun K hK => ?_);and_intros;all_goals first|(refine hK _ ?_;clear hK K)|try exact aa)|(refine an ?_;(try clear hB KB);(try clear hK K)))
end Go.Proofs.YtmfblbbemekkoaaGreatDoor
set_option maxHeartbeats 4000000
set_option maxRecDepth 16000
namespace Go.Proofs.YtmfblbbemekkoaaGreatDoor
open Go Go.SL
open Go.RowKit (wrap64)
def Pf (x:Acc):List PV:=[PU x.c0,PU x.c1,PU x.c2,PU x.a,PU x.own,PU x.f]
attribute [local go_sem] Pf
theorem BW (i k:Bool) (x:Acc) (b:Pixel):aD Sg 148 [B i,B k,ag (Pf x),ag (aH b)] (fun r=>r = .tup [ag (Pf (EL (fZ i k x b))),ag (aH (fZ i k x b))]):=by
 have ht:True:=trivial
 cases i <;> cases k
 all_goals
  refine aC Tryz.func148 [.cell 8 156, .cell 9 41] ?_
  repeat' (first|refine aj ht ?_|(((with_reducible refine cr (id:=5) [(23,5),(25,5),(7,5),(8,6),(9,7)] (by decide +kernel) (by decide +kernel) ?_ (fun K hK => ?_));(first|(refine And.intro (fun iw hiw => ?_) ?_;(focus ((try simp (maxSteps:=999999)(disch:=omega) only [go_sem] at hiw ⊢);(repeat (refine Eq.trans (if_neg ?_) ?_;(focus omega)));exact hw iw (by omega)));(focus (first|exact Nat.zero_le _|(simp (maxSteps:=999999)(disch:=omega) only [go_sem];done)|(simp (maxSteps:=999999)(disch:=omega) only [go_sem];omega))))|exact eS));(try simp (maxSteps:=999999)(disch:=omega) only [go_sem]);and_intros;(all_goals first|(refine hK _ (by simp (maxSteps:=999999)(disch:=omega) only [go_sem]) ?_;clear hK K)|exact aa|skip))|refine ak ?_|(refine ai (fun K hK => ?_);and_intros;all_goals first|(refine hK _ ?_;clear hK K)|try exact aa)|(refine an ?_;(try clear hB KB);(try clear hK K)))
 all_goals rfl
end Go.Proofs.YtmfblbbemekkoaaGreatDoor
set_option maxHeartbeats 4000000
set_option maxRecDepth 16000
namespace Go.Proofs.YtmfblbbemekkoaaGreatDoor
open Go Go.SL
open Go.RowKit (wrap64)
theorem IX:Sg.el 176=some (some 5,175,1,false):=by kernel_rfl
theorem Rh {n:Int} (h0:0≤n) (h1:n<4294967296):IntKind.u32.wrap n=n:=by
 show n % 4294967296=n
 exact Int.emod_eq_of_lt h0 h1
attribute [local go_sem] List.length_cons List.length_nil IX Rh
theorem gO (p:Pixel) (k m:Int) (hm:Full m) (hp:PixV p m) (hk:0≤k) (hkm:k≤m):aD Sg 67 [ag (aH p),U k,U m] (fun r=>r = .tup [ag (aH (aX p k m)),B true]):=by
 have hvs:=gG p m
 rw [lx hp] at hvs
 have d1:decide (k>m)=false:=decide_eq_false (by omega)
 have hv:=jD hm hp hk hkm
 have z0:=hp.n0
 have z1:=hp.n1
 have z2:=hp.n2
 have z3:=hp.a0
 have z4:=hp.f0
 obtain ⟨u0,u1,u2,u3,u4⟩:=hp.u hm
 obtain ⟨v0,v1,v2,v3,v4⟩:=hv.u hm
 have hle:=hm.le
 have pr:∀ {x:Int},0≤x→x≤65535→0≤x * k∧x * k≤65535 * 65535:=fun h0 h1=>⟨aq h0 hk,aw h1 (by omega) hk (by omega)⟩
 have q0:=pr hp.n0 u0
 have q1:=pr hp.n1 u1
 have q2:=pr hp.n2 u2
 have q3:=pr hp.a0 u3
 have q4:=pr hp.f0 u4
 obtain ⟨e0,e1,e2,e3,e4⟩:(aX p k m).c0=bG (p.c0 * k) m∧(aX p k m).c1=bG (p.c1 * k) m∧(aX p k m).c2=bG (p.c2 * k) m∧(aX p k m).a=bG (p.a * k) m∧(aX p k m).f=bG (p.f * k) m:=⟨rfl,rfl,rfl,rfl,rfl⟩
 have n0:=hv.n0
 have n1:=hv.n1
 have n2:=hv.n2
 have n3:=hv.a0
 have n4:=hv.f0
 rw [e0] at v0 n0
 rw [e1] at v1 n1
 rw [e2] at v2 n2
 rw [e3] at v3 n3
 rw [e4] at v4 n4
 have k65:k≤65535:=by omega
 rcases hm.h with rfl|rfl
 ·have dm:((255:Int) != 255)=false:=rfl
  have dm2:((255:Int) == 255)=true:=rfl
  refine aC Tryz.func67 [.cell 6 41, .tmp 7] ?_
  repeat' (first|refine aj (And.intro d1 dm) ?_|refine ak ?_|((first|refine ai (fun K hK => ?_)|refine aE (fun hg=>hvs) ?_);and_intros;all_goals first|(refine hK _ ?_;clear hK K)|try exact aa))
  refine aS (X:=Int) (fun i=>aZ [(1, .b (U k)),(2, .b (U 255)),(3, .b (.c (.ptr 0 0))),(6, .b (.c (.ptr 1 0))),(37, .b (.agg [.ptr 0 0, .ptr 0 1, .ptr 0 2, .ptr 0 3, .ptr 0 4])),(38, .b (I i))] [(0, .fix [.p (PU (if 0<i then bG (p.c0 * k) 255 else p.c0)), .p (PU (if 1<i then bG (p.c1 * k) 255 else p.c1)), .p (PU (if 2<i then bG (p.c2 * k) 255 else p.c2)), .p (PU (if 3<i then bG (p.a * k) 255 else p.a)), .p (PU (if 4<i then bG (p.f * k) 255 else p.f))]),(1, .fix ((aH aG).map CV.p))] 2) (fun i=>0≤i∧i≤5) (fun i=>(5 - i).toNat) 0 ?_ ?_ ?_
  ·omega
  ·refine ay [(1,some 1)] ?_ ?_
   and_intros
   all_goals first|exact ao|skip
  ·intro i hi
   have hiv:i=0∨i=1∨i=2∨i=3∨i=4∨i=5:=by omega
   rcases hiv with rfl|rfl|rfl|rfl|rfl|rfl
   ·repeat' (first|refine aj (And.intro dm dm2) ?_|refine ak ?_|((first|refine ai (fun K hK => ?_)|refine ae (kL _ (by omega) (by omega)) ?_);and_intros;all_goals first|(refine hK _ ?_;clear hK K)|try exact aa))
    all_goals first|exact Nat.le_of_ble_eq_true rfl|skip
    rw [ah]
    refine au 1 ?_ (by omega) (by decide)
    refine ay [(1,some 1)] ?_ ?_
    and_intros
    all_goals first|exact ao|skip
   ·repeat' (first|refine aj (And.intro dm dm2) ?_|refine ak ?_|((first|refine ai (fun K hK => ?_)|refine ae (kL _ (by omega) (by omega)) ?_);and_intros;all_goals first|(refine hK _ ?_;clear hK K)|try exact aa))
    all_goals first|exact Nat.le_of_ble_eq_true rfl|skip
    rw [ah]
    refine au 2 ?_ (by omega) (by decide)
    refine ay [(1,some 1)] ?_ ?_
    and_intros
    all_goals first|exact ao|skip
   ·repeat' (first|refine aj (And.intro dm dm2) ?_|refine ak ?_|((first|refine ai (fun K hK => ?_)|refine ae (kL _ (by omega) (by omega)) ?_);and_intros;all_goals first|(refine hK _ ?_;clear hK K)|try exact aa))
    all_goals first|exact Nat.le_of_ble_eq_true rfl|skip
    rw [ah]
    refine au 3 ?_ (by omega) (by decide)
    refine ay [(1,some 1)] ?_ ?_
    and_intros
    all_goals first|exact ao|skip
   ·repeat' (first|refine aj (And.intro dm dm2) ?_|refine ak ?_|((first|refine ai (fun K hK => ?_)|refine ae (kL _ (by omega) (by omega)) ?_);and_intros;all_goals first|(refine hK _ ?_;clear hK K)|try exact aa))
    all_goals first|exact Nat.le_of_ble_eq_true rfl|skip
    rw [ah]
    refine au 4 ?_ (by omega) (by decide)
    refine ay [(1,some 1)] ?_ ?_
    and_intros
    all_goals first|exact ao|skip
   ·repeat' (first|refine aj (And.intro dm dm2) ?_|refine ak ?_|((first|refine ai (fun K hK => ?_)|refine ae (kL _ (by omega) (by omega)) ?_);and_intros;all_goals first|(refine hK _ ?_;clear hK K)|try exact aa))
    all_goals first|exact Nat.le_of_ble_eq_true rfl|skip
    rw [ah]
    refine au 5 ?_ (by omega) (by decide)
    refine ay [(1,some 1)] ?_ ?_
    and_intros
    all_goals first|exact ao|skip
   ·repeat' (first|refine aj (And.intro dm dm2) ?_|refine ak ?_|(refine ai (fun K hK => ?_);and_intros;all_goals first|(refine hK _ ?_;clear hK K)|try exact aa)|(refine an ?_;(try clear hB KB);(try clear hK K)))
    rfl
 ·have dm:((65535:Int) != 65535)=false:=rfl
  have dm2:((65535:Int) == 255)=false:=rfl
  refine aC Tryz.func67 [.cell 6 41, .tmp 7] ?_
  repeat' (first|refine aj (And.intro d1 dm) ?_|refine ak ?_|((first|refine ai (fun K hK => ?_)|refine aE (fun hg=>hvs) ?_);and_intros;all_goals first|(refine hK _ ?_;clear hK K)|try exact aa))
  refine aS (X:=Int) (fun i=>aZ [(1, .b (U k)),(2, .b (U 65535)),(3, .b (.c (.ptr 0 0))),(6, .b (.c (.ptr 1 0))),(37, .b (.agg [.ptr 0 0, .ptr 0 1, .ptr 0 2, .ptr 0 3, .ptr 0 4])),(38, .b (I i))] [(0, .fix [.p (PU (if 0<i then bG (p.c0 * k) 65535 else p.c0)), .p (PU (if 1<i then bG (p.c1 * k) 65535 else p.c1)), .p (PU (if 2<i then bG (p.c2 * k) 65535 else p.c2)), .p (PU (if 3<i then bG (p.a * k) 65535 else p.a)), .p (PU (if 4<i then bG (p.f * k) 65535 else p.f))]),(1, .fix ((aH aG).map CV.p))] 2) (fun i=>0≤i∧i≤5) (fun i=>(5 - i).toNat) 0 ?_ ?_ ?_
  ·omega
  ·refine ay [(1,some 1)] ?_ ?_
   and_intros
   all_goals first|exact ao|skip
  ·intro i hi
   have hiv:i=0∨i=1∨i=2∨i=3∨i=4∨i=5:=by omega
   rcases hiv with rfl|rfl|rfl|rfl|rfl|rfl
   ·repeat' (first|refine aj (And.intro dm dm2) ?_|refine ak ?_|((first|refine ai (fun K hK => ?_)|refine ae (iy _ ⟨by omega,by omega⟩) ?_);and_intros;all_goals first|(refine hK _ ?_;clear hK K)|try exact aa))
    all_goals first|exact Nat.le_of_ble_eq_true rfl|skip
    rw [ah]
    refine au 1 ?_ (by omega) (by decide)
    refine ay [(1,some 1)] ?_ ?_
    and_intros
    all_goals first|exact ao|skip
   ·repeat' (first|refine aj (And.intro dm dm2) ?_|refine ak ?_|((first|refine ai (fun K hK => ?_)|refine ae (iy _ ⟨by omega,by omega⟩) ?_);and_intros;all_goals first|(refine hK _ ?_;clear hK K)|try exact aa))
    all_goals first|exact Nat.le_of_ble_eq_true rfl|skip
    rw [ah]
    refine au 2 ?_ (by omega) (by decide)
    refine ay [(1,some 1)] ?_ ?_
    and_intros
    all_goals first|exact ao|skip
   ·repeat' (first|refine aj (And.intro dm dm2) ?_|refine ak ?_|((first|refine ai (fun K hK => ?_)|refine ae (iy _ ⟨by omega,by omega⟩) ?_);and_intros;all_goals first|(refine hK _ ?_;clear hK K)|try exact aa))
    all_goals first|exact Nat.le_of_ble_eq_true rfl|skip
    rw [ah]
    refine au 3 ?_ (by omega) (by decide)
    refine ay [(1,some 1)] ?_ ?_
    and_intros
    all_goals first|exact ao|skip
   ·repeat' (first|refine aj (And.intro dm dm2) ?_|refine ak ?_|((first|refine ai (fun K hK => ?_)|refine ae (iy _ ⟨by omega,by omega⟩) ?_);and_intros;all_goals first|(refine hK _ ?_;clear hK K)|try exact aa))
    all_goals first|exact Nat.le_of_ble_eq_true rfl|skip
    rw [ah]
    refine au 4 ?_ (by omega) (by decide)
    refine ay [(1,some 1)] ?_ ?_
    and_intros
    all_goals first|exact ao|skip
   ·repeat' (first|refine aj (And.intro dm dm2) ?_|refine ak ?_|((first|refine ai (fun K hK => ?_)|refine ae (iy _ ⟨by omega,by omega⟩) ?_);and_intros;all_goals first|(refine hK _ ?_;clear hK K)|try exact aa))
    all_goals first|exact Nat.le_of_ble_eq_true rfl|skip
    rw [ah]
    refine au 5 ?_ (by omega) (by decide)
    refine ay [(1,some 1)] ?_ ?_
    and_intros
    all_goals first|exact ao|skip
   ·repeat' (first|refine aj (And.intro dm dm2) ?_|refine ak ?_|(refine ai (fun K hK => ?_);and_intros;all_goals first|(refine hK _ ?_;clear hK K)|try exact aa)|(refine an ?_;(try clear hB KB);(try clear hK K)))
    rfl
theorem DA (p:Pixel) (k o m:Int) (hm:Full m) (hp:PixV p m) (hk:0≤k) (hkm:k≤m) (ho:0≤o) (hom:o≤m):aD Sg 179 [ag (aH p),U k,U o,U m] (fun r=>r = .tup [ag (aH (aX (aX p k m) o m)),B true]):=by
 have h1:=gO p k m hm hp hk hkm
 have h2:=gO (aX p k m) o m hm (jD hm hp hk hkm) ho hom
 have ht:True:=trivial
 refine aC Tryz.func179 [.cell 8 41, .tmp 9] ?_
 repeat' (first|refine aj ht ?_|refine ak ?_|((first|refine ai (fun K hK => ?_)|refine ae (h1) ?_|refine ae (h2) ?_);and_intros;all_goals first|(refine hK _ ?_;clear hK K)|try exact aa)|(refine an ?_;(try clear hB KB);(try clear hK K)))
 rfl
end Go.Proofs.YtmfblbbemekkoaaGreatDoor
