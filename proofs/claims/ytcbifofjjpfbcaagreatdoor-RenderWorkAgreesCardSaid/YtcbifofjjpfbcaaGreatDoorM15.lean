/- Part of the proof: FO, D4, D5, W6, W8, W9. -/
import Derived.Test.YtcbifofjjpfbcaaGreatDoorM14
set_option linter.unusedSimpArgs false
set_option linter.unusedVariables false
set_option maxRecDepth 8000
namespace Go.Proofs.YtcbifofjjpfbcaaGreatDoor
open Go Go.SL
theorem dr {b : Int} {n : Nat} {o : Op} {l : List Op} : fC b n o l = 0 ↔ (1 ≤ o.kind ∧ o.kind ≤ 3) ∧ fc o = true ∧ (o.kind = 3 → 0 < l.length) ∧
  (o.kind≠3→¬ (o.kind=1∧(o.image<0∨n≤o.image)∨o.mask<0∨n<o.mask)∧bJ 1048576 [o.x,o.y,o.maskX,o.maskY]=true∧o.opacity≤bA b∧jj o.operator=true∧jj o.mode=true∧(o.operator≠4→gX l=true)∧(o.kind=2→l.length<64)):=by
 unfold fC
 by_cases h1:¬ (1≤o.kind∧o.kind≤3)
 ·rw [if_pos h1];exact ⟨fun h=>by omega,fun h=>absurd h.1 h1⟩
 rw [if_neg h1]
 rw [Decidable.not_not] at h1
 by_cases h2:fc o=false
 ·rw [if_pos h2];exact ⟨fun h=>by omega,fun h=>by rw [h2] at h;simp at h⟩
 rw [if_neg h2]
 rw [Bool.not_eq_false] at h2
 by_cases h3:o.kind=3
 ·by_cases h4:l.length=0
  ·rw [if_pos ⟨h3,h4⟩];exact ⟨fun h=>by omega,fun h=>by have:=h.2.2.1 h3;omega⟩
  ·rw [if_neg (fun q=>h4 q.2),if_pos h3];exact ⟨fun _=>⟨h1,h2,fun _=>by omega,fun q=>absurd h3 q⟩,fun _=>rfl⟩
 rw [if_neg (fun q=>h3 q.1),if_neg h3]
 by_cases h5:o.kind=1∧(o.image<0∨n≤o.image)∨o.mask<0∨n<o.mask
 ·rw [if_pos h5];exact ⟨fun h=>by omega,fun h=>absurd h5 (h.2.2.2 h3).1⟩
 rw [if_neg h5]
 by_cases h6:bJ 1048576 [o.x,o.y,o.maskX,o.maskY]=false
 ·rw [if_pos h6];exact ⟨fun h=>by omega,fun h=>by have:=(h.2.2.2 h3).2.1;rw [h6] at this;cases this⟩
 rw [if_neg h6]
 rw [Bool.not_eq_false] at h6
 by_cases h7:bA b<o.opacity
 ·rw [if_pos h7];exact ⟨fun h=>by omega,fun h=>by have:=(h.2.2.2 h3).2.2.1;omega⟩
 rw [if_neg h7]
 by_cases h8:jj o.operator=false
 ·rw [if_pos h8];exact ⟨fun h=>by omega,fun h=>by have:=(h.2.2.2 h3).2.2.2.1;rw [h8] at this;cases this⟩
 rw [if_neg h8]
 rw [Bool.not_eq_false] at h8
 by_cases h9:jj o.mode=false
 ·rw [if_pos h9];exact ⟨fun h=>by omega,fun h=>by have:=(h.2.2.2 h3).2.2.2.2.1;rw [h9] at this;cases this⟩
 rw [if_neg h9]
 rw [Bool.not_eq_false] at h9
 by_cases h10:o.operator≠4∧gX l=false
 ·rw [if_pos h10];exact ⟨fun h=>by omega,fun h=>by have:=(h.2.2.2 h3).2.2.2.2.2.1 h10.1;rw [h10.2] at this;cases this⟩
 rw [if_neg h10]
 by_cases h11:o.kind=2∧64≤l.length
 ·rw [if_pos h11];exact ⟨fun h=>by omega,fun h=>by have:=(h.2.2.2 h3).2.2.2.2.2.2 h11.1;omega⟩
 rw [if_neg h11]
 exact ⟨fun _=>⟨h1,h2,fun q=>absurd q h3,fun _=>⟨h5,h6,by omega,h8,h9,fun q=>by
  cases hc:gX l with
  | true=>rfl
  | false=>exact absurd ⟨q,hc⟩ h10,fun q=>by
   rcases Nat.lt_or_ge l.length 64 with h|h
   ·exact h
   ·exact absurd ⟨q,h⟩ h11⟩⟩,fun _=>rfl⟩
theorem Cm (s:Scene):(aD s).order.length≤64:=by
 have ht:=AN s
 show (kW s.order _).length≤64
 unfold kW
 split
 ·exact Nat.zero_le _
 ·rw [(qL (l:=s.order) _ 0 _ (gL _) (jL _)).1]
  omega
theorem TK (s:Scene) {t:Script} (ho:t.order=(aD s).order) (hi:t.images.length≤64) (hp:t.ops.length≤4096):ScriptLen t :=
 ⟨by rw [ho];exact Nat.le_trans (Cm s) (by decide),by omega,by omega⟩
theorem sm (s:Scene):(aD s).images.length≤64:=by
 have:=oV s
 show (bq s).length≤64
 omega
theorem AT (s:Scene):(aD s).ops.length≤18:=(pe s).len
theorem Ae (s:Scene):ScriptLen (aD s):=TK s rfl (sm s) (Nat.le_trans (AT s) (by decide))
end Go.Proofs.YtcbifofjjpfbcaaGreatDoor
set_option maxRecDepth 8000
namespace Go.Proofs.YtcbifofjjpfbcaaGreatDoor
open Go Go.SL
theorem tT {b:Int} {n:Nat}:∀ {ops l:List Op} {i:Nat},(fR b n i ops l).1=0→kt b n ops l∧cK ops l=[]
 | [],l,i,h=>by
  refine ⟨trivial, ?_⟩
  rw [fR] at h
  split at h
  ·cases h
  ·exact (List.eq_nil_of_length_eq_zero (by omega):l=[])
 | o :: r,l,i,h=>by
  rw [fR] at h
  split at h
  ·rename_i h0
   obtain ⟨h1,h2⟩:=tT h
   exact ⟨⟨h0,h1⟩,h2⟩
  ·rename_i h0;exact absurd h h0
theorem KR {b:Int} {n:Nat} {ops:List Op} (h:kt b n ops []) {i:Nat} (hi:i<ops.length):fC b n (aB ops i) (cK (ops.take i) [])=0:=by
 have e:ops=ops.take i ++ ops.drop i:=(List.take_append_drop i ops).symm
 rw [e,gF,List.drop_eq_getElem_cons hi] at h
 have:aB ops i=ops[i]:=by rw [aB,List.getD_eq_getElem?_getD,List.getElem?_eq_getElem hi];rfl
 rw [this]
 exact h.2.1
theorem ld {ops:List Op}:∀ (i:Nat),i≤ops.length→cK (ops.take i) []=(bI ops i).reverse.map (aB ops)
 | 0,_=>rfl
 | i+1,hi=>by
  have ih:=ld (ops:=ops) i (by omega)
  have e:aB ops i=ops[i]:=by rw [aB,List.getD_eq_getElem?_getD,List.getElem?_eq_getElem (by omega)];rfl
  rw [List.take_add_one,List.getElem?_eq_getElem (by omega),ez,ih]
  show cI _ ops[i]=_
  rw [← e,cI,bI]
  split
  ·rw [List.reverse_cons,List.map_append];rfl
  split
  ·rw [← List.map_dropLast,List.dropLast_reverse]
  ·rfl
structure VOps (s:Script):Prop where
 wf:Wf s.ops
 ok:∀ i,i<s.ops.length→fC s.bits s.images.length (aB s.ops i) ((bI s.ops i).reverse.map (aB s.ops))=0
 imgs:s.images.length≤64
 cnt:s.ops.length≤4096
 frame:bD s=0
theorem EB {s:Script} (h:(jh s).1=0):VOps s:=by
 rw [jh] at h
 split at h
 ·rename_i hf
  obtain ⟨h1,h2⟩:=tT h
  have hl:=qP hf
  have ok:∀ i,i<s.ops.length→fC s.bits s.images.length (aB s.ops i) ((bI s.ops i).reverse.map (aB s.ops))=0:=fun i hi=>by
   rw [← ld i (by omega)];exact KR h1 hi
  refine ⟨⟨fun i hi => ?_,fun i hi hk he => ?_, ?_⟩,ok,hl.1,hl.2,hf⟩
  ·have:=(dr.1 (ok i hi)).1;omega
  ·have:=(dr.1 (ok i hi)).2.2.1 hk
   rw [he] at this;simp at this
  ·have:=ld (ops:=s.ops) s.ops.length (Nat.le_refl _)
   rw [List.take_length,h2] at this
   have:=congrArg List.length this
   simp at this
   exact List.eq_nil_of_length_eq_zero this.symm
 ·rename_i hf;exact absurd h hf
end Go.Proofs.YtcbifofjjpfbcaaGreatDoor
set_option maxHeartbeats 1000000
set_option maxRecDepth 16000
namespace Go.Proofs.YtcbifofjjpfbcaaGreatDoor
open Go Go.SL
open Go.RowKit (wrap64)
def ee (n:Nat) (f:Nat→Nat):PV := .lst 1 n (fun a _=>PI (f a))
attribute [go_sem] ee
theorem lU {n:Nat}:(((n+1:Nat):Int) - 1)=(n:Int):=by omega
attribute [local go_sem] lU Int.toNat_natCast
def Gn (l junk:List Nat) (a:Nat):Nat:=(l.reverse ++ junk).getD a 0
theorem lL {p:Nat} {t junk:List Nat}:Gn (p :: t) junk t.length=p:=by
 rw [Gn,List.reverse_cons,List.append_assoc,List.getD_eq_getElem?_getD,List.getElem?_append_right (by simp)]
 simp
theorem yg {p:Nat} {t junk:List Nat}:Gn (p :: t) junk=Gn t (p :: junk):=by
 funext a;rw [Gn,Gn,List.reverse_cons,List.append_assoc];rfl
theorem yy {l:List Nat} {i a:Nat} {junk:List Nat} (h:a<l.length):Gn (i :: l) [] a=Gn l junk a:=by
 rw [Gn,Gn,List.reverse_cons,List.append_nil,List.getD_eq_getElem?_getD,List.getD_eq_getElem?_getD,List.getElem?_append_left (by simpa using h),List.getElem?_append_left (by simpa using h)]
theorem te (ops:List Op):∀ i,(bI ops i).length≤i
 | 0=>Nat.le_refl _
 | i+1=>by
  have:=te ops i
  rw [bI]
  split
  ·simp;omega
  split
  ·rw [List.length_tail];omega
  ·omega
attribute [local go_sem] lL
end Go.Proofs.YtcbifofjjpfbcaaGreatDoor
set_option maxHeartbeats 2000000
set_option maxRecDepth 16000
namespace Go.Proofs.YtcbifofjjpfbcaaGreatDoor
open Go Go.SL
open Go.RowKit (wrap64)
attribute [local go_sem] qE
theorem qs (x y:Int) (hx:0≤x) (hy:Q64 y) (h:x * y<340282366920938463463374607431768211456) (hx2:x<340282366920938463463374607431768211456):aF Sg 231 [ag (qE x),cq y] (fun r=>r = .tup [ag (qE (x * y)),B true]):=by
 have ⟨q1,q2⟩:=yl (n:=x) ⟨hx,hx2⟩
 have h1:=uX (x / 18446744073709551616) y q1.l q1.u hy.l hy.u
 have h3:=jm (x % 18446744073709551616) y q2 hy
 have e:x / 18446744073709551616 * y * 18446744073709551616+x % 18446744073709551616 * y=x * y:=by
  have:=Int.mul_ediv_add_emod x 18446744073709551616
  generalize x / 18446744073709551616=a at *
  generalize x % 18446744073709551616=b at *
  rw [← this,Int.add_mul,Int.mul_comm 18446744073709551616 a,Int.mul_right_comm]
 have p0:0≤x / 18446744073709551616 * y:=az q1.l hy.l
 have r0:0≤x % 18446744073709551616 * y:=az q2.l hy.l
 have h2:=qn (x / 18446744073709551616 * y * 18446744073709551616) (x % 18446744073709551616 * y) (by omega) r0 (by omega)
 rw [e] at h2
 generalize x % 18446744073709551616 * y=r at *
 generalize x / 18446744073709551616 * y=p at *
 have hp:p<18446744073709551616:=by omega
 rw [show qE (p * 18446744073709551616)=[.val (.int .u64 p), .val (.int .u64 0)] by
  simp only [qE]
  rw [show p * 18446744073709551616 / 18446744073709551616=p by omega,show p * 18446744073709551616 % 18446744073709551616=0 by omega]] at h2
 rw [show p / 18446744073709551616=0 by omega,show p % 18446744073709551616=p by omega] at h1
 have ht:True:=trivial
 refine aI Tryz.func231 [.cell 4 251, .tmp 5] ?_
 repeat' (first|refine ak ht ?_|refine an ?_|((first|refine aj (fun K hK => ?_)|refine ae (h1) ?_|refine ae (h2) ?_|refine ae (h3) ?_);and_intros;all_goals first|(refine hK _ ?_;clear hK K)|try exact aa)|(refine ai ?_;(try clear hB KB);(try clear hK K)))
 rfl
def Iz:Nat→Int
 | 0=>0
 | k+1=>2 ^ k
theorem AI:∀ k:Nat,((2:Int) ^ k).fdiv (2 ^ min 1 64)=Iz k
 | 0=>rfl
 | k+1=>by
  rw [Int.fdiv_eq_ediv_of_nonneg _ (by decide),show ((2:Int) ^ min 1 64)=2 from rfl,Int.pow_succ,Int.mul_ediv_cancel _ (by decide)]
  rfl
theorem JM {x y:Int}:kV x y≤0↔x≤y:=by
 unfold kV
 repeat' split
 all_goals omega
theorem JC (a:Int) (ha:Q128 a):aF Sg 228 [ag (qE a)] (fun r=>r = .b (cq (wA (fun n=>decide (n * n≤a)) 64 0))):=by
 have ht:True:=trivial
 refine aI Tryz.func228 [.tmp 2] ?_
 repeat' (first|refine an ?_|(refine aj (fun K hK => ?_);and_intros;all_goals first|(refine hK _ ?_;clear hK K)|try exact aa))
 refine aM (X:=Int × Nat) (fun x=>bg [(1, .b (.c (.ptr 0 0))),(3, .b (cq x.1)),(4, .b (cq (Iz x.2)))] [(0, .fix ((qE a).map CV.p))] 1)
  (fun x=>x.2≤64∧0≤x.1∧x.1+2 ^ x.2≤18446744073709551616∧x.1 % 2 ^ x.2=0∧wA (fun n=>decide (n * n≤a)) x.2 x.1=wA (fun n=>decide (n * n≤a)) 64 0) (fun x=>x.2) (0,64) ?_ ?_ ?_
 ·exact ⟨by decide,by decide,by decide,by decide,rfl⟩
 ·refine aE [(0,some 0)] ?_ ?_
  and_intros
  all_goals first|exact aw|skip
 ·rintro ⟨n,i⟩ ⟨i64,n0,n1,hm,hs⟩
  dsimp only at i64 n0 n1 hm hs ⊢
  cases i with
  | zero =>
   have g0:decide (Iz 0>0)=false:=rfl
   repeat' (first|refine ak g0 ?_|refine an ?_|(refine aj (fun K hK => ?_);and_intros;all_goals first|(refine hK _ ?_;clear hK K)|try exact aa)|(refine ai ?_;(try clear hB KB);(try clear hK K)))
   rw [← hs];rfl
  | succ k =>
   have hp:(2:Int) ^ (k+1)=2 ^ k+2 ^ k:=by rw [Int.pow_succ];omega
   have hpos:(0:Int)<2 ^ k:=Int.pow_pos (by decide)
   rw [hp] at n1
   have hor:=Nn (n:=n) (k:=k) n0 (by omega) hm (by omega)
   have h1:=jm (n+2 ^ k) (n+2 ^ k) ⟨by omega,by omega⟩ ⟨by omega,by omega⟩
   have h2:=ze ((n+2 ^ k) * (n+2 ^ k)) a
   have hm1:n % 2 ^ k=0:=by
    rw [← Int.emod_emod_of_dvd n (show (2:Int) ^ k ∣ 2 ^ (k+1) from ⟨2,by rw [Int.pow_succ]⟩),hm,Int.zero_emod]
   have hm2:(n+2 ^ k) % 2 ^ k=0:=by rw [Int.add_emod_right,hm1]
   have g0:decide (Iz (k+1)>0)=true:=decide_eq_true hpos
   have hb:Iz (k+1)=2 ^ k:=rfl
   rw [hb] at g0 ⊢
   rw [← hor] at h1 h2
   rw [show wA (fun n=>decide (n * n≤a)) (k+1) n=wA (fun n=>decide (n * n≤a)) k (if decide ((n+2 ^ k) * (n+2 ^ k)≤a)=true then n+2 ^ k else n) from rfl] at hs
   by_cases hg:(n+2 ^ k) * (n+2 ^ k)≤a
   ·have g1:decide (kV (PA .u64 n (2 ^ k) * PA .u64 n (2 ^ k)) a≤0)=true:=by rw [hor];exact decide_eq_true (JM.2 hg)
    rw [decide_eq_true hg,if_pos rfl] at hs
    repeat' (first|refine ak (And.intro g0 g1) ?_|refine an ?_|((first|refine aj (fun K hK => ?_)|refine ae (h1) ?_|refine ae (h2) ?_);and_intros;all_goals first|(refine hK _ ?_;clear hK K)|try exact aa))
    refine au (n+2 ^ k,k) ?_ ⟨by dsimp only;omega,by dsimp only;omega,by dsimp only;omega,hm2,hs⟩ (by dsimp only;omega)
    refine aE [(0,some 0)] ?_ ?_
    and_intros
    all_goals first|exact aw|skip
    ·exact .inl (by rw [hor])
    ·exact .inl (by rw [AI])
   ·have g1:decide (kV (PA .u64 n (2 ^ k) * PA .u64 n (2 ^ k)) a≤0)=false:=by rw [hor];exact decide_eq_false (fun q=>hg (JM.1 q))
    rw [decide_eq_false hg,if_neg (by decide)] at hs
    repeat' (first|refine ak (And.intro g0 g1) ?_|refine an ?_|((first|refine aj (fun K hK => ?_)|refine ae (h1) ?_|refine ae (h2) ?_);and_intros;all_goals first|(refine hK _ ?_;clear hK K)|try exact aa))
    refine au (n,k) ?_ ⟨by dsimp only;omega,by dsimp only;omega,by dsimp only;omega,hm1,hs⟩ (by dsimp only;omega)
    refine aE [(0,some 0)] ?_ ?_
    and_intros
    all_goals first|exact aw|skip
    exact .inl (by rw [AI])
end Go.Proofs.YtcbifofjjpfbcaaGreatDoor
set_option maxHeartbeats 2000000
set_option maxRecDepth 16000
namespace Go.Proofs.YtcbifofjjpfbcaaGreatDoor
open Go Go.SL
open Go.RowKit (wrap64)
attribute [local go_sem] qE
theorem IA {x d : Int} (hx : 0 ≤ x) (hd : 0 < d) :
  x / d / 18446744073709551616=x / 18446744073709551616 / d∧x / d % 18446744073709551616=(x / 18446744073709551616 % d * 18446744073709551616+x % 18446744073709551616) / d∧x % d=(x / 18446744073709551616 % d * 18446744073709551616+x % 18446744073709551616) % d:=by
 have e1:=Int.mul_ediv_add_emod (x / 18446744073709551616) d
 have e2:=Int.mul_ediv_add_emod (x / 18446744073709551616 % d * 18446744073709551616+x % 18446744073709551616) d
 have a0:=Int.emod_nonneg (x / 18446744073709551616) (show d≠0 by omega)
 have a1:=Int.emod_lt_of_pos (x / 18446744073709551616) hd
 have b0:=Int.emod_nonneg (x / 18446744073709551616 % d * 18446744073709551616+x % 18446744073709551616) (show d≠0 by omega)
 have b1:=Int.emod_lt_of_pos (x / 18446744073709551616 % d * 18446744073709551616+x % 18446744073709551616) hd
 have c0:0≤(x / 18446744073709551616 % d * 18446744073709551616+x % 18446744073709551616) / d:=Int.ediv_nonneg (by omega) (by omega)
 have c1:(x / 18446744073709551616 % d * 18446744073709551616+x % 18446744073709551616) / d<18446744073709551616:=(Int.ediv_lt_iff_lt_mul hd).2 (by omega)
 generalize (x / 18446744073709551616 % d * 18446744073709551616+x % 18446744073709551616) / d=D at *
 generalize (x / 18446744073709551616 % d * 18446744073709551616+x % 18446744073709551616) % d=R at *
 generalize x / 18446744073709551616 / d=H at *
 have ex:x=d * (H * 18446744073709551616+D)+R:=by
  have:d * (H * 18446744073709551616+D)=d * H * 18446744073709551616+d * D:=by rw [Int.mul_add,Int.mul_assoc]
  omega
 have q1:x / d=H * 18446744073709551616+D:=by
  rw [ex,Int.mul_add_ediv_left _ _ (by omega),Int.ediv_eq_zero_of_lt b0 b1,Int.add_zero]
 have q2:x % d=R:=by
  rw [ex,Int.mul_add_emod_self_left,Int.emod_eq_of_lt b0 b1]
 rw [q1]
 exact ⟨by omega,by omega,q2⟩
theorem tR (x d:Int) (hx:Q128 x) (hd:0<d) (hdu:d<18446744073709551616):aF Sg 230 [ag (qE x),cq d] (fun r=>r = .tup [ag (qE (x / d)),cq (x % d),B true]):=by
 have ⟨q1,q2⟩:=yl hx
 have hr0:=Int.emod_nonneg (x / 18446744073709551616) (show d≠0 by omega)
 have hr1:=Int.emod_lt_of_pos (x / 18446744073709551616) hd
 have h1:=Kf (x / 18446744073709551616 % d) (x % 18446744073709551616) d hr0 hr1 hdu q2
 obtain ⟨l1,l2,l3⟩:=IA hx.l hd
 rw [← l2,← l3] at h1
 have g0:(d == 0)=false:=beq_eq_false_iff_ne.2 (by omega)
 have hq:0≤x / 18446744073709551616 / d:=Int.ediv_nonneg q1.l (by omega)
 have hq2:x / 18446744073709551616 / d≤x / 18446744073709551616:=Int.ediv_le_self _ q1.l
 have hq3:=q1.u
 refine aI Tryz.func230 [.cell 4 251, .tmp 5, .tmp 6] ?_
 repeat' (first|refine ak g0 ?_|refine an ?_|((first|refine aj (fun K hK => ?_)|refine ae (h1) ?_);and_intros;all_goals first|(refine hK _ ?_;clear hK K)|try exact aa)|(refine ai ?_;(try clear hB KB);(try clear hK K)))
 rw [l1]
 rfl
end Go.Proofs.YtcbifofjjpfbcaaGreatDoor
set_option maxHeartbeats 2000000
set_option maxRecDepth 16000
namespace Go.Proofs.YtcbifofjjpfbcaaGreatDoor
open Go Go.SL
open Go.RowKit (wrap64)
attribute [local go_sem] qE oB
theorem Fw (x:Ex) (h:ExOk x):aF Sg 226 [ag (oB x)] (fun r=>r = .b (B true)):=by
 obtain ⟨p0,p1,q0,q1,r0,r1,d0,d1,_⟩:=h
 have g1:decide (x.p / 18446744073709551616<4294967296)=true:=decide_eq_true (by omega)
 have g2:decide (x.q<70368744177664)=true:=decide_eq_true q1
 have g3:decide (x.r<8589934592)=true:=decide_eq_true r1
 have g4:decide (x.d≥1)=true:=decide_eq_true d0
 refine aI Tryz.func226 [.tmp 2] ?_
 repeat' (first|(refine aj (fun K hK => ?_);and_intros;all_goals first|(refine hK _ ?_;clear hK K)|try exact aa)|(refine ai ?_;(try clear hB KB);(try clear hK K)))
 rw [g1,g2,g3,g4];rfl
theorem rp (x:Ex) (h:ExS x):aF Sg 229 [ag (oB x)] (fun r=>r = .b (ag (qE (x.q * x.q * x.r)))):=by
 have hs:=tu h
 have h1:=jm x.q x.q ⟨h.q0,by have:=h.q1;omega⟩ ⟨h.q0,by have:=h.q1;omega⟩
 have h2:=qs (x.q * x.q) x.r hs.1 ⟨h.r0,by have:=h.r1;omega⟩ hs.2.2.2 hs.2.1
 generalize x.q * x.q * x.r=A at *
 refine aI Tryz.func229 [.cell 2 251] ?_
 refine lT fun K hK => ?_
 simp (maxSteps:=999999)(disch:=omega) only [go_sem]
 and_intros
 all_goals first|(refine hK _ ?_;clear hK K)|exact aa|skip
 refine iN (id:=1) (.br 0 (.br 1 (.br 2 (.br 3 (.br 5 (.br 6 (.br 4 (.br 7 (.br 8 (.br 9 (.br 10 (.br 11 (.br 12 (.br 13 .leaf .nil) .nil) .nil) .nil) .nil) .nil) (.br 11 (.br 7 (.br 8 (.br 9 (.br 10 (.br 12 (.br 13 .leaf .nil) .nil) .nil) .nil) .nil) .nil) .nil)) (.br 11 (.br 4 (.br 7 (.br 8 (.br 9 (.br 10 (.br 12 (.br 13 .leaf .nil) .nil) .nil) .nil) .nil) .nil) .nil) .nil)) .nil) .nil) .nil) .nil) .nil) .nil) (by decide +kernel) (by (first|(refine And.intro (fun iw hiw => ?_) ?_;(focus ((try simp (maxSteps:=999999)(disch:=omega) only [go_sem] at hiw ⊢);(repeat (refine Eq.trans (if_neg ?_) ?_;(focus omega)));(first|exact hw iw (by omega)|rfl)));(focus (first|exact Nat.zero_le _|(simp (maxSteps:=999999)(disch:=omega) only [go_sem];done)|(simp (maxSteps:=999999)(disch:=omega) only [go_sem];omega))))|exact cS)) (fun K0 hW => ?_)
 refine (fun (tl:∀ st,Le st (bg [(2, .b (.c (.ptr 1 0))),(3, .b (.c (.ptr 2 0)))] [(1, .fix [.p .any, .p .any]),(2, .fix ((qE A).map CV.p))] 3)→K0 st) => ?_) (fun st hl=>hW st _ hl ?_)
 ·clear hW
  repeat' (first|exact cE|(refine dA (fun K' hK' => ?_) ?_)|(refine cj (tl _ ?_);clear tl)|((first|refine ae (h1) ?_|refine ae (h2) ?_);(try simp (maxSteps:=999999)(disch:=omega) only [go_sem]);and_intros;(all_goals first|(refine hK' _ ?_;clear hK' K')|trivial|omega|exact Nat.le_of_ble_eq_true rfl|exact aa|skip))|(simp (maxSteps:=999999)(disch:=omega) only [go_sem];and_intros;(all_goals first|(refine hK' _ ?_;clear hK' K')|trivial|omega|exact Nat.le_of_ble_eq_true rfl|exact aa|skip)))
  all_goals
   refine aE [(1,some 1),(2,some 2)] ?_ ?_
   and_intros
   all_goals first|exact aw|skip
 clear hW
 repeat' (first|(refine aj (fun K hK => ?_);and_intros;all_goals first|(refine hK _ ?_;clear hK K)|try exact aa)|(refine ai ?_;(try clear hB KB);(try clear hK K)))
 all_goals rfl
theorem Kb (x:Ex) (n:Int) (h:ExS x) (hn:Q128 n):aF Sg 233 [ag (oB x),ag (qE n)] (fun r=>r = .b (I (wX x n))):=by
 have hs:=tu h
 have hn2:=(yl hn).2
 have h1:=rp x h
 have h3:=jm (n % 18446744073709551616) (n % 18446744073709551616) hn2 hn2
 have h4:=ze (x.q * x.q * x.r) (n % 18446744073709551616 * (n % 18446744073709551616))
 refine aI Tryz.func233 [.tmp 4] ?_
 repeat' (first|(((with_reducible refine bC (id:=3) [] (by decide +kernel) (by decide +kernel) ?_ (fun K hK => ?_));(first|(refine And.intro (fun iw hiw => ?_) ?_;(focus ((try simp (maxSteps:=999999)(disch:=omega) only [go_sem] at hiw ⊢);(repeat (refine Eq.trans (if_neg ?_) ?_;(focus omega)));(first|exact hw iw (by omega)|rfl)));(focus (first|exact Nat.zero_le _|(simp (maxSteps:=999999)(disch:=omega) only [go_sem];done)|(simp (maxSteps:=999999)(disch:=omega) only [go_sem];omega))))|exact cS));(try simp (maxSteps:=999999)(disch:=omega) only [go_sem]);and_intros;(all_goals first|(refine hK _ (by simp (maxSteps:=999999)(disch:=omega) only [go_sem]) ?_;clear hK K)|exact aa|skip))|refine an ?_|((first|refine aj (fun K hK => ?_)|refine ae (h1) ?_|refine ae (h3) ?_|refine ae (h4) ?_);and_intros;all_goals first|(refine hK _ ?_;clear hK K)|try exact aa)|(refine aH (fun hb => ?_) (fun hb => ?_);all_goals try exact ax)|(refine ai ?_;(try clear hB KB);(try clear hK K)))
 ·rw [wX,if_pos hb]
 ·refine hK _ (by simp (maxSteps:=999999)(disch:=omega) only [go_sem]) ?_
  clear hK
  repeat' (refine ai ?_;(try clear hB KB);(try clear hK K))
  rw [wX,if_neg (by omega)]
theorem GQ (x:Ex) (h:ExOk x):aF Sg 214 [ag (oB x)] (fun r=>r = .tup [cq (dz x),B true]):=by
 have hv:=Fw x h
 obtain ⟨p0,p1,q0,q1,r0,r1,d0,d1,_⟩:=id h
 have hES:ExS x:=⟨p0,p1,q0,by omega,r0,r1,by omega,d1⟩
 have hs:=tu hES
 have h1:=rp x hES
 have h2:=JC (x.q * x.q * x.r) ⟨hs.2.2.1,hs.2.2.2⟩
 have hS:=IP (A:=x.q * x.q * x.r) hs.2.2.1 (by have:=hs.2.2.2;exact this)
 have hfl:=By h hS
 obtain ⟨_,_,f0,f1⟩:=iJ h
 have S0:=hS.s0
 have S1:wA (fun n=>decide (n * n≤x.q * x.q * x.r)) 64 0<18446744073709551616:=by
  refine Int.not_le.1 fun c => ?_
  have:=aJ c c (by decide) S0
  have:=hS.le
  have:=hs.2.2.2
  omega
 generalize wA (fun n=>decide (n * n≤x.q * x.q * x.r)) 64 0=S at *
 have h3:=RQ S ⟨S0,S1⟩
 have h4:=qn x.p S p0 S0 (by omega)
 have h5:=tR (x.p+S) x.d ⟨by omega,by omega⟩ (by omega) d1
 rw [← hfl] at h5
 generalize dz x=F at *
 have g1:decide (F / 18446744073709551616>0)=false:=decide_eq_false (by omega)
 have g2:decide (F % 18446744073709551616≥9223372036854775808)=false:=decide_eq_false (by omega)
 have ht:True:=trivial
 generalize x.q * x.q * x.r=A at *
 refine aI Tryz.func214 [.tmp 2, .tmp 3] ?_
 repeat' (first|refine ak ht ?_|refine an ?_|((first|refine aj (fun K hK => ?_)|refine ae (hv) ?_);and_intros;all_goals first|(refine hK _ ?_;clear hK K)|try exact aa))
 refine iN (id:=3) (.br 0 (.br 1 (.br 2 (.br 3 (.br 4 (.br 5 (.br 6 (.br 7 (.br 8 (.br 9 (.br 10 (.br 11 (.br 12 .leaf .nil) .nil) .nil) .nil) .nil) .nil) (.br 10 (.br 6 (.br 7 (.br 8 (.br 9 (.br 11 (.br 12 .leaf .nil) .nil) .nil) .nil) .nil) .nil) .nil)) (.br 10 (.br 5 (.br 6 (.br 7 (.br 8 (.br 9 (.br 11 (.br 12 .leaf .nil) .nil) .nil) .nil) .nil) .nil) .nil) .nil)) (.br 10 (.br 4 (.br 5 (.br 6 (.br 7 (.br 8 (.br 9 (.br 11 (.br 12 .leaf .nil) .nil) .nil) .nil) .nil) .nil) .nil) .nil) .nil)) (.br 10 (.br 3 (.br 4 (.br 5 (.br 6 (.br 7 (.br 8 (.br 9 (.br 11 (.br 12 .leaf .nil) .nil) .nil) .nil) .nil) .nil) .nil) .nil) .nil) .nil)) .nil) .nil) .nil) (by decide +kernel) (by (first|(refine And.intro (fun iw hiw => ?_) ?_;(focus ((try simp (maxSteps:=999999)(disch:=omega) only [go_sem] at hiw ⊢);(repeat (refine Eq.trans (if_neg ?_) ?_;(focus omega)));(first|exact hw iw (by omega)|rfl)));(focus (first|exact Nat.zero_le _|(simp (maxSteps:=999999)(disch:=omega) only [go_sem];done)|(simp (maxSteps:=999999)(disch:=omega) only [go_sem];omega))))|exact cS)) (fun K0 hW => ?_)
 refine (fun (tl:∀ st,Le st (bg [(1, .b (.c (.ptr 0 0))),(4, .b (.c (.ptr 1 0)))] [(0, .fix ((oB x).map CV.p)),(1, .fix ((qE (x.p+S)).map CV.p))] 2)→K0 st) => ?_) (fun st hl=>hW st _ hl ?_)
 ·clear hW
  repeat' (first|exact cE|(refine dA (fun K' hK' => ?_) ?_)|(refine cj (tl _ ?_);clear tl)|((first|refine ae (h1) ?_|refine ae (h2) ?_|refine ae (h3) ?_|refine ae (h4) ?_);(try simp (maxSteps:=999999)(disch:=omega) only [go_sem]);and_intros;(all_goals first|(refine hK' _ ?_;clear hK' K')|trivial|omega|exact Nat.le_of_ble_eq_true rfl|exact aa|skip))|(simp (maxSteps:=999999)(disch:=omega) only [go_sem];and_intros;(all_goals first|(refine hK' _ ?_;clear hK' K')|trivial|omega|exact Nat.le_of_ble_eq_true rfl|exact aa|skip)))
  all_goals
   refine aE [(1,some 1)] ?_ ?_
   and_intros
   all_goals first|exact aw|skip
 clear hW
 repeat' (first|refine ak (And.intro g1 g2) ?_|refine an ?_|((first|refine aj (fun K hK => ?_)|refine ae (h5) ?_);and_intros;all_goals first|(refine hK _ ?_;clear hK K)|try exact aa)|(refine ai ?_;(try clear hB KB);(try clear hK K)))
 rw [show F % 18446744073709551616=F by omega]
end Go.Proofs.YtcbifofjjpfbcaaGreatDoor
