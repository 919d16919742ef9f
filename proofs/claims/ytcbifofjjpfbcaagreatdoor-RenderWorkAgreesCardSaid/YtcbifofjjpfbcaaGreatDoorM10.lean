/- Part of the proof: F23, F15, W2, U3. -/
import Derived.Laws.Externs
import Derived.Test.YtcbifofjjpfbcaaGreatDoorM7
import Derived.Test.YtcbifofjjpfbcaaGreatDoorM8
import Derived.Test.YtcbifofjjpfbcaaGreatDoorM9
set_option linter.unusedSimpArgs false
set_option linter.unusedVariables false
set_option maxHeartbeats 8000000
set_option maxRecDepth 16000
namespace Go.Proofs.YtcbifofjjpfbcaaGreatDoor
open Go Go.SL
open Go.RowKit (wrap64)
def gW (p:Pic) (c:Rect):Int:=if p.w.tdiv 5 % 3=0 then c.x1 - c.x0 else 1+p.w % 5
def gH (p:Pic) (c:Rect):Int:=if p.w.tdiv 5 % 3=0 then c.y1 - c.y0 else 1+p.h % 4
def ky (w h:Int) (p:Pixel):Image:=⟨w,h,true,p,gK,gK,gK,gK,gK⟩
def kM (p:Pic) (c:Rect) (m:Int):Image :=
 if p.solid % 2=0 then ky (gW p c) (gH p c) (qV p.row m 0) else fD (gW p c) (gH p c) (cB p.row (gW p c * gH p c).toNat m)
structure PicOk (p:Pic):Prop where
 w:i64 p.w
 h:i64 p.h
 solid:i64 p.solid
 row:RowOk p.row
structure Small (c:Rect):Prop where
 x0 : -10≤c.x0
 x1:c.x1≤20
 y0 : -10≤c.y0
 y1:c.y1≤20
 w:1≤c.x1 - c.x0∧c.x1 - c.x0≤5
 h:1≤c.y1 - c.y0∧c.y1 - c.y0≤4
theorem Px {p:Pic} {c:Rect} (hc:Small c):1≤gW p c∧gW p c≤5∧1≤gH p c∧gH p c≤4∧1≤gW p c * gH p c∧gW p c * gH p c≤20:=by
 have hw:=hc.w
 have hh:=hc.h
 have h1:1≤gW p c∧gW p c≤5∧1≤gH p c∧gH p c≤4:=by
  unfold gW gH;split <;> omega
 have h2:gW p c * gH p c≤5 * 4:=Int.mul_le_mul h1.2.1 h1.2.2.2 (by omega) (by omega)
 have h3:1 * 1≤gW p c * gH p c:=Int.mul_le_mul h1.1 h1.2.2.1 (by omega) (by omega)
 omega
theorem nW {w h:Int} {n:Nat} (hw:1≤w∧w≤5) (hh:1≤h∧h≤4) (hn:n=(w * h).toNat):dg w h n=true:=by
 have hp:0≤w * h:=Int.mul_nonneg (by omega) (by omega)
 have hf:cl w h=true:=by
  rw [cl,decide_eq_true_eq]
  have:w=1∨w=2∨w=3∨w=4∨w=5:=by omega
  rcases this with rfl|rfl|rfl|rfl|rfl <;> omega
 rw [dg,hf,decide_eq_true (by omega)];rfl
theorem CW (p:Pic) (c:Rect) (m:Int) (hp:PicOk p) (hc:Small c) (hm:u16 m):aF Sg 33 [ag (KL p),ag (bc c),U m] (fun r=>r = .b (ag (bl (kM p c m)))):=by
 obtain ⟨⟨a1,a2⟩,⟨b1,b2⟩,⟨c1,c2⟩,hr⟩:=hp
 have hl:=Px (p:=p) hc
 obtain ⟨x0,x1,y0,y1,hw,hh⟩:=hc
 have hd:=vH (p.w.tdiv 5)
 rw [Ee a1 a2 (by omega)] at hd
 refine aI Tryz.func33 [.cell 6 43] ?_
 repeat' (first|refine an ?_|((with_reducible refine cd (id:=4) (fun K hW => ?_));(try simp (maxSteps:=999999)(disch:=omega) only [go_sem]);and_intros;all_goals first|(refine hK _ ?_;clear hK K)|try exact aa)|((first|refine aj (fun K hK => ?_)|refine ae (cL _ _ (by omega) (by omega)) ?_);and_intros;all_goals first|(refine hK _ ?_;clear hK K)|try exact aa)|(apply aC;(case hf=>rfl);(case hc=>exact aS);(all_goals first|(intro hb;(try simp only [bZ] at hb))|skip))|exact ao)
 have hlen:(cB p.row (gW p c * gH p c).toNat m).length=(gW p c * gH p c).toNat:=by simp [cB]
 refine yA ?_ ?_ (by simp (maxSteps:=999999)(disch:=omega) only [go_sem]) (Ah p.row (gW p c * gH p c) m hr (by omega) (by omega) hm)
 try simp (maxSteps:=999999)(disch:=omega) only [go_sem]
 try (refine hK _ ?_;clear hK K)
 ·refine hW _ (bg [(2, .b (U m)),(3, .b (.c (.ptr 0 0))),(4, .b (.c (.ptr 1 0))),(6, .b (.c (.ptr 2 0))),(7, .b (I (gW p c))),(8, .b (I (gH p c))),(9, .b (.c (.p (sF (cB p.row (gW p c * gH p c).toNat m)))))]
   [(0, .fix ((KL p).map CV.p)),(1, .fix ((bc c).map CV.p)),(2, .fix ((List.range 28).map fun _=>CV.p .any))] 3) ?_ ?_
  ·clear hW
   refine aE [(1,some 1),(2,some 2)] ?_ ?_
   and_intros
   all_goals first|exact aw|skip
  ·clear hW
   have hpl:0<(cB p.row (gW p c * gH p c).toNat m).length:=by omega
   repeat' (first|refine an ?_|((first|refine aj (fun K hK => ?_)|refine ae (cL _ _ (by omega) (by omega)) ?_|refine ae (vD _ _ _) ?_|refine ae (xY _ _ _ (by omega)) ?_);and_intros;all_goals first|(refine hK _ ?_;clear hK K)|try exact aa)|(refine aH (fun hb => ?_) (fun hb => ?_);all_goals try exact ax)|(refine ai ?_;(try clear hB KB);(try clear hK K)))
   ·have e2:kM p c m=ky (gW p c) (gH p c) (qV p.row m 0):=by rw [kM,if_pos hb]
    have e:(cB p.row (gW p c * gH p c).toNat m).getD 0 default=qV p.row m 0:=by
     have:0<(gW p c * gH p c).toNat:=by omega
     simp [cB,this]
    rw [e2,e];rfl
   ·have e2:kM p c m=fD (gW p c) (gH p c) (cB p.row (gW p c * gH p c).toNat m):=by rw [kM,if_neg hb]
    rw [e2,fh,if_pos (nW (by omega) (by omega) hlen)];rfl
 ·have e:IntKind.i64.wrap (gW p c * gH p c)=gW p c * gH p c:=fA (by omega) (by omega)
  show [_,I (IntKind.i64.wrap (gW p c * gH p c)),_]=_
  rw [e];rfl
end Go.Proofs.YtcbifofjjpfbcaaGreatDoor
set_option maxHeartbeats 2000000
set_option maxRecDepth 16000
namespace Go.Proofs.YtcbifofjjpfbcaaGreatDoor
open Go Go.SL
open Go.RowKit (wrap64)
def bD (s:Script):Int :=
 if ¬ (s.bits=8∨s.bits=16) then 1
 else if aU s.canvas=true∨16777216<iZ s.canvas∨bJ 1048576 [s.canvas.x0,s.canvas.y0]=false then 2
 else if bP s.canvas s.tileW s.tileH=false then 3
 else if dt s.order (aX s.canvas s.tileW s.tileH * bz s.canvas s.tileW s.tileH)=false then 4
 else if 64<s.images.length∨4096<s.ops.length then 5 else 0
theorem fu (r:Rect) (w h:Int):IntKind.i64.wrap (aX r w h * bz r w h)=aX r w h * bz r w h∧0≤aX r w h * bz r w h:=by
 unfold aX bz
 by_cases ht:bP r w h=true
 ·rw [if_pos ht,if_pos ht]
  simp only [bP,Bool.and_eq_true,Bool.not_eq_true',decide_eq_true_eq] at ht
  obtain ⟨he,h1,h2,h3,h4⟩:=ht
  have hb:=fF (r:=r) (by simp [he])
  have b1:0≤(r.x1 - r.x0 - 1) / w:=Int.ediv_nonneg (by omega) (by omega)
  have b2:(r.x1 - r.x0 - 1) / w≤r.x1 - r.x0 - 1:=Int.ediv_le_self _ (by omega)
  have c1:0≤(r.y1 - r.y0 - 1) / h:=Int.ediv_nonneg (by omega) (by omega)
  have c2:(r.y1 - r.y0 - 1) / h≤r.y1 - r.y0 - 1:=Int.ediv_le_self _ (by omega)
  have hm:((r.x1 - r.x0 - 1) / w+1) * ((r.y1 - r.y0 - 1) / h+1)≤2147483648 * 2147483648:=Int.mul_le_mul (by omega) (by omega) (by omega) (by omega)
  have hp:0≤((r.x1 - r.x0 - 1) / w+1) * ((r.y1 - r.y0 - 1) / h+1):=Int.mul_nonneg (by omega) (by omega)
  exact ⟨fA (by omega) (by omega),hp⟩
 ·rw [if_neg ht,if_neg ht];decide
theorem Co {s:Script} (h1:s.bits=8∨s.bits=16) (h:(aU s.canvas=true∨16777216<iZ s.canvas)∨bJ 1048576 [s.canvas.x0,s.canvas.y0]=false):bD s=2:=by
 rw [bD,if_neg (fun q=>q h1),if_pos (by rw [← or_assoc];exact h)]
def qA (s:Script):Prop:=(s.bits=8∨s.bits=16)∧(aU s.canvas=false∧iZ s.canvas≤16777216)∧bJ 1048576 [s.canvas.x0,s.canvas.y0]=true
theorem lB {s:Script} (h:qA s):¬ (aU s.canvas=true∨16777216<iZ s.canvas∨bJ 1048576 [s.canvas.x0,s.canvas.y0]=false):=by
 obtain ⟨_,⟨h1,h2⟩,h3⟩:=h
 rw [h1,h3]
 simp only [Bool.false_eq_true,false_or,Bool.true_eq_false,or_false]
 omega
theorem CC {s:Script} (h:qA s) (h3:bP s.canvas s.tileW s.tileH=false):bD s=3:=by
 rw [bD,if_neg (fun q=>q h.1),if_neg (lB h),if_pos h3]
theorem Dr {s:Script} (h:qA s) (h3:bP s.canvas s.tileW s.tileH=true) (h4:dt s.order (IntKind.i64.wrap (aX s.canvas s.tileW s.tileH * bz s.canvas s.tileW s.tileH))=false):bD s=4:=by
 rw [(fu _ _ _).1] at h4
 rw [bD,if_neg (fun q=>q h.1),if_neg (lB h),if_neg (by rw [h3];simp),if_pos h4]
theorem qZ {s:Script} (h:qA s) (h3:bP s.canvas s.tileW s.tileH=true) (h4:dt s.order (IntKind.i64.wrap (aX s.canvas s.tileW s.tileH * bz s.canvas s.tileW s.tileH))=true):bD s=if 64<s.images.length∨4096<s.ops.length then 5 else 0:=by
 rw [(fu _ _ _).1] at h4
 rw [bD,if_neg (fun q=>q h.1),if_neg (lB h),if_neg (by rw [h3];simp),if_neg (by rw [h4];simp)]
structure ScriptLen (s:Script):Prop where
 order:s.order.length≤4611686018427387904
 images:s.images.length≤4611686018427387904
 ops:s.ops.length≤4611686018427387904
theorem uq (s:Script) (hs:ScriptLen s):aF Sg 67 [ag (aL s)] (fun x=>x = .b (I (bD s))):=by
 obtain ⟨h1,h2,h3⟩:=hs
 refine aI Tryz.func67 [.tmp 2] ?_
 repeat' (first|refine an ?_|((with_reducible refine cd (id:=5) (fun K hW => ?_));(try simp (maxSteps:=999999)(disch:=omega) only [go_sem]);and_intros;all_goals first|(refine hK _ ?_;clear hK K)|try exact aa)|((first|refine aj (fun K hK => ?_)|refine ae (fv _) ?_|refine ae (cN _) ?_|refine aq (fun hg=>CS _) ?_);and_intros;all_goals first|(refine hK _ ?_;clear hK K)|try exact aa)|(refine aH (fun hb => ?_) (fun hb => ?_);all_goals try exact ax)|(refine ai ?_;(try clear hB KB);(try clear hK K)))
 ·rw [bD,if_pos hb]
 ·refine Fk (.c .any) ?_ ?_ trivial ?_ (fun hg => ?_) (fun hg => ?_)
  ·rfl
  ·rfl
  ·(first|(simp (maxSteps:=999999)(disch:=omega) only [go_sem];done)|(simp (maxSteps:=999999)(disch:=omega) only [go_sem];rfl))
  ·have hg2:(aU s.canvas || decide (iZ s.canvas>16777216))=false:=by simpa using hg
   simp (maxSteps:=999999)(disch:=omega) only [go_sem]
   and_intros
   all_goals first|(refine hK _ ?_;clear hK K)|exact aa|skip
   refine Du (args':=[.c (.p (eZ [s.canvas.x0,s.canvas.y0]))]) hg ?_ (xo _ (by simp)) ?_ (by trivial) trivial ?_
   ·simp (maxSteps:=999999)(disch:=omega) only [go_sem]
   ·simp (maxSteps:=1000000) (disch:=omega) only [go_sem,dU,eE]
    refine mA (gj fun i hi j hj => ?_)
    have h1:i=0∨i=1:=by omega
    have h2:j=0:=by omega
    subst h2
    rcases h1 with rfl|rfl <;> rfl
   simp (maxSteps:=999999)(disch:=omega) only [go_sem]
   and_intros
   all_goals first|(refine hK _ ?_;clear hK K)|exact aa|skip
   refine hW _ (bg [(1, .b (.c (.ptr 0 0))),(5, .b (.c (.ptr 1 0))),(36, .b (B (aU s.canvas || decide (iZ s.canvas>16777216) || !bJ 1048576 [s.canvas.x0,s.canvas.y0])))] [(0, .fix ((aL s).map CV.p)),(1, .fix ((bc s.canvas).map CV.p))] 2) ?_ ?_
   ·clear hW
    refine aE [(1,some 1)] ?_ ?_
    and_intros
    all_goals first|exact aw|skip
   ·clear hW
    repeat' (first|refine an ?_|((first|refine aj (fun K hK => ?_)|refine ae (lV _ _ _) ?_|refine ae (jK _ _ (by omega)) ?_);and_intros;all_goals first|(refine hK _ ?_;clear hK K)|try exact aa)|(refine aH (fun hb => ?_) (fun hb => ?_);all_goals try exact ax)|(refine ai ?_;(try clear hB KB);(try clear hK K)))
    ·rw [Co ‹_› hb]
    ·rename_i q
     rw [CC ⟨‹_›,q⟩ hb]
    ·rename_i q1 q2
     rw [Dr ⟨‹_›,q1⟩ q2 hb]
    ·rename_i q1 q2 q3
     rw [qZ ⟨‹_›,q1⟩ q2 q3,if_pos (by omega)]
    ·rename_i q1 q2 q3
     rw [qZ ⟨‹_›,q1⟩ q2 q3,if_neg (by omega)]
  ·have hg2:(aU s.canvas || decide (iZ s.canvas>16777216))=true:=by
    cases h:(aU s.canvas || decide (iZ s.canvas>16777216)) with
    | true=>rfl
    | false=>rw [h] at hg;cases hg
   simp (maxSteps:=999999)(disch:=omega) only [go_sem]
   and_intros
   all_goals first|(refine hK _ ?_;clear hK K)|exact aa|skip
   refine Fh (B (bJ 1048576 [s.canvas.x0,s.canvas.y0])) hg trivial ?_
   simp (maxSteps:=999999)(disch:=omega) only [go_sem]
   and_intros
   all_goals first|(refine hK _ ?_;clear hK K)|exact aa|skip
   refine hW _ (bg [(1, .b (.c (.ptr 0 0))),(5, .b (.c (.ptr 1 0))),(36, .b (B (aU s.canvas || decide (iZ s.canvas>16777216) || !bJ 1048576 [s.canvas.x0,s.canvas.y0])))] [(0, .fix ((aL s).map CV.p)),(1, .fix ((bc s.canvas).map CV.p))] 2) ?_ ?_
   ·clear hW
    refine aE [(1,some 1)] ?_ ?_
    and_intros
    all_goals first|exact aw|skip
   ·clear hW
    repeat' (first|refine an ?_|((first|refine aj (fun K hK => ?_)|refine ae (lV _ _ _) ?_|refine ae (jK _ _ (by omega)) ?_);and_intros;all_goals first|(refine hK _ ?_;clear hK K)|try exact aa)|(refine aH (fun hb => ?_) (fun hb => ?_);all_goals try exact ax)|(refine ai ?_;(try clear hB KB);(try clear hK K)))
    ·rw [Co ‹_› hb]
    ·rename_i q
     rw [CC ⟨‹_›,q⟩ hb]
    ·rename_i q1 q2
     rw [Dr ⟨‹_›,q1⟩ q2 hb]
    ·rename_i q1 q2 q3
     rw [qZ ⟨‹_›,q1⟩ q2 q3,if_pos (by omega)]
    ·rename_i q1 q2 q3
     rw [qZ ⟨‹_›,q1⟩ q2 q3,if_neg (by omega)]
end Go.Proofs.YtcbifofjjpfbcaaGreatDoor
set_option maxHeartbeats 2000000
set_option maxRecDepth 16000
namespace Go.Proofs.YtcbifofjjpfbcaaGreatDoor
open Go Go.SL
open Go.RowKit (wrap64)
abbrev UD (x:Int):BV := .c (.p (.val (.int .u32 x)))
theorem vw (n d:Int) (hn:Q64 n) (hd:Q64 d):aF Sg 167 [UQ n,UQ d] (fun r=>r = .b (UQ (cf n d))):=by
 obtain ⟨n0,n1⟩:=hn
 obtain ⟨d0,d1⟩:=hd
 refine aI Tryz.func167 [.tmp 4] ?_
 repeat' (first|refine an ?_|(refine aj (fun K hK => ?_);and_intros;all_goals first|(refine hK _ ?_;clear hK K)|try exact aa)|(apply aC;(case hf=>rfl);(case hc=>exact aS);(all_goals first|(intro hb;(try simp only [bZ] at hb))|skip))|exact ao|(refine aH (fun hb => ?_) (fun hb => ?_);all_goals try exact ax)|(refine ai ?_;(try clear hB KB);(try clear hK K)))
 ·rw [cf,if_pos hb]
 ·have h1:=Int.emod_nonneg n hb
  have h2:=Int.emod_lt_of_pos n (show 0<d by omega)
  have h3:0≤n / d:=Int.ediv_nonneg n0 d0
  have h4:n / d≤n:=Int.ediv_le_self _ n0
  have h5:n % d≥d - n % d→n / d+1≤n:=fun q=>by
   have:=NC n0 (show 0<d by omega)
   rw [cf,if_neg hb,if_pos q] at this
   exact this.2
  rw [cf,if_neg hb,wq (n / d) ⟨h3,by omega⟩,wq (d - n % d) ⟨by omega,by omega⟩]
  by_cases q:n % d≥d - n % d
  ·have:=h5 q
   rw [if_pos q,if_pos q,wq _ ⟨by omega,by omega⟩]
  ·rw [if_neg q,if_neg q]
theorem qv (n:Int):IntKind.u32.wrap n=n % 4294967296:=by
 simp only [IntKind.wrap,IntKind.bits,IntKind.signed];simp
theorem OC {a:Int} (h0:0≤a) (h1:a<4294967296):CE .u32 a 255=a % 256:=by
 obtain ⟨n,rfl⟩:=Int.eq_ofNat_of_zero_le h0
 have e:(BitVec.ofInt 32 (n:Int)).toNat=n:=by
  rw [BitVec.toNat_ofInt];omega
 show IntKind.u32.wrap (BitVec.ofInt 32 (n:Int) &&& BitVec.ofInt 32 255).toNat=_
 rw [BitVec.toNat_and,e,show (BitVec.ofInt 32 255).toNat=2 ^ 8 - 1 by decide,Nat.and_two_pow_sub_one_eq_mod,qv]
 omega
theorem Lx {a:Int} (h0:0≤a) (h1:a<18446744073709551616):CE .u64 a 65535=a % 65536:=by
 obtain ⟨n,rfl⟩:=Int.eq_ofNat_of_zero_le h0
 have e:(BitVec.ofInt 64 (n:Int)).toNat=n:=by
  rw [BitVec.toNat_ofInt];omega
 show IntKind.u64.wrap (BitVec.ofInt 64 (n:Int) &&& BitVec.ofInt 64 65535).toNat=_
 rw [BitVec.toNat_and,e,show (BitVec.ofInt 64 65535).toNat=2 ^ 16 - 1 by decide,Nat.and_two_pow_sub_one_eq_mod,oP (by omega) (by omega)]
 omega
theorem mu (n:Int) (h0:0≤n) (h1:n<4294967296):aF Sg 168 [UD n] (fun r=>r = .b (UD (cf n 255))):=by
 refine aI Tryz.func168 [.tmp 2] ?_
 repeat' (first|refine an ?_|(refine aj (fun K hK => ?_);and_intros;all_goals first|(refine hK _ ?_;clear hK K)|try exact aa))
 refine aM (X:=Int × Int) (fun s=>bg [(0, .b (UD s.1)),(3, .b (UD s.2))] [] 1) (fun s=>255 * s.2+s.1=n∧0≤s.1∧0≤s.2) (fun s=>s.1.toNat) (n,0) ?_ ?_ ?_
 ·exact ⟨by dsimp only;omega,h0,Int.le_refl _⟩
 ·refine aE [] ?_ ?_
  and_intros
  all_goals first|exact aw|skip
 ·rintro ⟨k,q⟩ ⟨e,k0,q0⟩
  dsimp only at e k0 q0 ⊢
  have ha:CE .u32 k 255=k % 256:=OC k0 (by omega)
  by_cases c:k>255
  ·have g1:decide (k>255)=true:=decide_eq_true c
   repeat' (first|refine ak g1 ?_|refine an ?_|(refine aj (fun K hK => ?_);and_intros;all_goals first|(refine hK _ ?_;clear hK K)|try exact aa))
   rw [kJ,ah]
   refine au (k / 256+k % 256,q+k / 256) ?_ ⟨by dsimp only;omega,by dsimp only;omega,by dsimp only;omega⟩ (by dsimp only;omega)
   have hs:k.fdiv (2 ^ min 8 32)=k / 256:=by rw [Int.fdiv_eq_ediv_of_nonneg _ (by decide)];rfl
   refine aE [] ?_ ?_
   and_intros
   all_goals first|exact aw|skip
   ·exact .inl (by rw [hs,ha,qv,show (k / 256+k % 256) % 4294967296=k / 256+k % 256 by omega])
   ·exact .inl (by rw [hs,qv,show (q+k / 256) % 4294967296=q+k / 256 by omega])
  ·have g1:decide (k>255)=false:=decide_eq_false c
   repeat' (first|refine ak g1 ?_|refine an ?_|(refine aj (fun K hK => ?_);and_intros;all_goals first|(refine hK _ ?_;clear hK K)|try exact aa)|(apply aC;(case hf=>rfl);(case hc=>exact aS);(all_goals first|(intro hb;(try simp only [bZ] at hb))|skip))|exact ao|(refine ai ?_;(try clear hB KB);(try clear hK K)))
   have hh:=Eu (d:=255) (q:=q) (n:=k) (n0:=n) (by decide) e k0 (by omega) (by decide)
   rw [show ((255:Int)+1) / 2=128 from rfl] at hh
   rw [hh,qv,show (q+1) % 4294967296=q+1 by omega]
theorem jz (n:Int) (h:Q64 n):aF Sg 169 [UQ n] (fun r=>r = .b (UQ (cf n 65535))):=by
 obtain ⟨h0,h1⟩:=h
 refine aI Tryz.func169 [.tmp 2] ?_
 repeat' (first|refine an ?_|(refine aj (fun K hK => ?_);and_intros;all_goals first|(refine hK _ ?_;clear hK K)|try exact aa))
 refine aM (X:=Int × Int) (fun s=>bg [(0, .b (UQ s.1)),(3, .b (UQ s.2))] [] 1) (fun s=>65535 * s.2+s.1=n∧0≤s.1∧0≤s.2) (fun s=>s.1.toNat) (n,0) ?_ ?_ ?_
 ·exact ⟨by dsimp only;omega,h0,Int.le_refl _⟩
 ·refine aE [] ?_ ?_
  and_intros
  all_goals first|exact aw|skip
 ·rintro ⟨k,q⟩ ⟨e,k0,q0⟩
  dsimp only at e k0 q0 ⊢
  have ha:CE .u64 k 65535=k % 65536:=Lx k0 (by omega)
  by_cases c:k>65535
  ·have g1:decide (k>65535)=true:=decide_eq_true c
   repeat' (first|refine ak g1 ?_|refine an ?_|(refine aj (fun K hK => ?_);and_intros;all_goals first|(refine hK _ ?_;clear hK K)|try exact aa))
   rw [kJ,ah]
   refine au (k / 65536+k % 65536,q+k / 65536) ?_ ⟨by dsimp only;omega,by dsimp only;omega,by dsimp only;omega⟩ (by dsimp only;omega)
   have hs:k.fdiv (2 ^ min 16 64)=k / 65536:=by rw [Int.fdiv_eq_ediv_of_nonneg _ (by decide)];rfl
   refine aE [] ?_ ?_
   and_intros
   all_goals first|exact aw|skip
   ·exact .inl (by rw [hs,ha])
   ·exact .inl (by rw [hs])
  ·have g1:decide (k>65535)=false:=decide_eq_false c
   repeat' (first|refine ak g1 ?_|refine an ?_|(refine aj (fun K hK => ?_);and_intros;all_goals first|(refine hK _ ?_;clear hK K)|try exact aa)|(apply aC;(case hf=>rfl);(case hc=>exact aS);(all_goals first|(intro hb;(try simp only [bZ] at hb))|skip))|exact ao|(refine ai ?_;(try clear hB KB);(try clear hK K)))
   have hh:=Eu (d:=65535) (q:=q) (n:=k) (n0:=n) (by decide) e k0 (by omega) (by decide)
   rw [show ((65535:Int)+1) / 2=32768 from rfl] at hh
   rw [hh]
end Go.Proofs.YtcbifofjjpfbcaaGreatDoor
set_option maxHeartbeats 2000000
set_option maxRecDepth 16000
namespace Go.Proofs.YtcbifofjjpfbcaaGreatDoor
open Go Go.SL
open Go.RowKit (wrap64)
def qE (n:Int):List PV:=[.val (.int .u64 (n / 18446744073709551616)), .val (.int .u64 (n % 18446744073709551616))]
structure Q128 (n:Int):Prop where
 l:0≤n
 u:n<340282366920938463463374607431768211456
theorem Ub {vs:Array Value} (h:vs.size=3):vs = #[vs.getD 0 undef,vs.getD 1 undef,vs.getD 2 undef]:=by
 apply Array.ext
 ·simpa using h
 ·intro i h1 h2
  simp at h2
  have:i=0∨i=1∨i=2:=by omega
  rcases this with rfl|rfl|rfl <;> simp [h1]
theorem DN (a b c:Int) (ha:Q64 a) (hb:Q64 b) (hc:0≤c∧c≤1):Bi Sg 224 [cq a,cq b,cq c] (.tup [cq ((a+b+c) % 18446744073709551616),cq ((a+b+c) / 18446744073709551616)]):=by
 refine ⟨fun v hv => ?_,fun ok w vs hs hd => ?_⟩
 ·simp only [List.mem_cons,List.not_mem_nil,or_false] at hv
  rcases hv with rfl|rfl <;> trivial
 ·have h0:vs.getD 0 undef = .int .u64 a:=hd 0
  have h1:vs.getD 1 undef = .int .u64 b:=hd 1
  have h2:vs.getD 2 undef = .int .u64 c:=hd 2
  refine ⟨.tuple #[.int .u64 ((a+b+c) % 18446744073709551616), .int .u64 ((a+b+c) / 18446744073709551616)], ?_, ?_⟩
  ·rw [Wx,Ub hs,h0,h1,h2,run_callFunc_extern Tryz.func224 (by kernel_rfl) (by kernel_rfl) (by kernel_rfl) (e:=add64Entry) (by kernel_rfl),run_add64 a b c ha.l hb.l hc.1 hc.2]
   rfl
  ·refine ⟨_,rfl,rfl,fun j => ?_⟩
   match j with
   | 0=>rfl
   | 1=>rfl
   | j+2=>trivial
theorem FD {P : Program} (x y z : Nat) (hz : z ≤ 1) (w : World) : ((Extern.MathBitsCarry.rows.getD 1 ("", fun _ => pure undef)).2 #[.int .u64 x, .int .u64 y, .int .u64 z]).run P w =
  .ok (.tuple #[.int .u64 (((x+18446744073709551616 - y - z) % 18446744073709551616:Nat):Int), .int .u64 ((if x<y+z then 1 else 0:Nat):Int)]) w:=by
 have:z=0∨z=1:=by omega
 rcases this with rfl|rfl <;> rfl
theorem tj (a b c:Int) (ha:Q64 a) (hb:Q64 b) (hc:0≤c∧c≤1):Bi Sg 249 [cq a,cq b,cq c] (.tup [cq ((a+18446744073709551616 - b - c) % 18446744073709551616),cq (if a<b+c then 1 else 0)]):=by
 obtain ⟨x,rfl⟩:=Int.eq_ofNat_of_zero_le ha.l
 obtain ⟨y,rfl⟩:=Int.eq_ofNat_of_zero_le hb.l
 obtain ⟨z,rfl⟩:=Int.eq_ofNat_of_zero_le hc.1
 have hz:z≤1:=by omega
 have hy:=hb.u
 refine ⟨fun v hv => ?_,fun ok w vs hs hd => ?_⟩
 ·simp only [List.mem_cons,List.not_mem_nil,or_false] at hv
  rcases hv with rfl|rfl <;> trivial
 ·have h0:vs.getD 0 undef = .int .u64 x:=hd 0
  have h1:vs.getD 1 undef = .int .u64 y:=hd 1
  have h2:vs.getD 2 undef = .int .u64 z:=hd 2
  refine ⟨.tuple #[.int .u64 (((x+18446744073709551616 - y - z) % 18446744073709551616:Nat):Int), .int .u64 ((if x<y+z then 1 else 0:Nat):Int)], ?_, ?_⟩
  ·rw [Wx, Ub hs, h0, h1, h2, run_callFunc_extern Tryz.func249 (by kernel_rfl) (by kernel_rfl) (by kernel_rfl) (e := (Extern.MathBitsCarry.rows.getD 1 ("", fun _ => pure undef)).2) (by kernel_rfl), FD x y z hz]
   rfl
  ·refine ⟨_,rfl,rfl,fun j => ?_⟩
   have e1:(((x+18446744073709551616 - y - z) % 18446744073709551616:Nat):Int)=((x:Int)+18446744073709551616 - y - z) % 18446744073709551616:=by omega
   have e2:((if x<y+z then 1 else 0:Nat):Int)=if (x:Int)<y+z then 1 else 0:=by split <;> split <;> omega
   match j with
   | 0=>exact congrArg (Value.int .u64) e1
   | 1=>exact congrArg (Value.int .u64) e2
   | j+2=>trivial
theorem yl {n:Int} (h:Q128 n):Q64 (n / 18446744073709551616)∧Q64 (n % 18446744073709551616):=by
 obtain ⟨h1,h2⟩:=h
 exact ⟨⟨by omega,by omega⟩,⟨by omega,by omega⟩⟩
attribute [local go_sem] qE
def kV (x y:Int):Int:=if x=y then 0 else if x<y then -1 else 1
theorem pB (n:Int):IntKind.u64.wrap n=n % 18446744073709551616:=by
 simp only [IntKind.wrap,IntKind.bits,IntKind.signed];simp
end Go.Proofs.YtcbifofjjpfbcaaGreatDoor
