/- Part of the proof: TD, R2, WO, VB, DC, WR, Q1, Y4. -/
import Derived.Test.YtcbifofjjpfbcaaGreatDoorM22
import Derived.Test.YtcbifofjjpfbcaaGreatDoorM23
import Derived.Test.YtcbifofjjpfbcaaGreatDoorM25
set_option linter.unusedSimpArgs false
set_option linter.unusedVariables false
set_option maxHeartbeats 1000000
namespace Go.Proofs.YtcbifofjjpfbcaaGreatDoor
def VP (c r:Rect):Prop:=aU r=true∨(c.x0≤r.x0∧c.y0≤r.y0∧r.x1≤c.x1∧r.y1≤c.y1)
section
variable {s:Script} {m x y:Int}
end
end Go.Proofs.YtcbifofjjpfbcaaGreatDoor
set_option maxHeartbeats 4000000
set_option maxRecDepth 16000
namespace Go.Proofs.YtcbifofjjpfbcaaGreatDoor
open Go Go.SL
open Go.RowKit (wrap64)
attribute [local go_sem] Int.toNat_natCast cH
def nZ {α:Type} (enc:α→List PV) (f:Nat→α):Nat→Nat→PV:=fun i j=>(enc (f i)).getD j .any
theorem La {α:Type} {enc:α→List PV} {f:Nat→α} {i j:Nat}:nZ enc f i j=(enc (f i)).getD j .any:=rfl
def ra (n:Nat) (f:Nat→Pixel):PV := .lst 5 n (nZ aW f)
def Hi (n:Nat) (f:Nat→Acc):PV := .lst 6 n (nZ cH f)
def Lm (n:Nat) (f:Nat→Int):PV := .lst 1 n (fun i _=>PU (f i))
attribute [go_sem] La ra Hi Lm
theorem kU {α:Type} {enc:α→List PV} {q:Nat→α} {i s:Nat} {g:Nat→Nat→PV} (hg:∀ j,j<s→(g 0 j).le ((enc (q i)).getD j .any)):∀ a,a<i+1→∀ j,j<s→(gh i (nZ enc q) g a j).le (nZ enc q a j):=fun a ha j hj=>by
 unfold gh
 split
 ·exact PV.le_refl _
 ·have e:a=i:=by omega
  subst e
  rw [Nat.sub_self]
  exact hg j hj
theorem uk (n : Nat) (f : Nat → Acc) (b : Nat → Pixel) (m : Int) (hm : Full m) (hn : n ≤ 1000) (h : ∀ k, k < n → AccV (f k) (b k) m) :
  aF Sg 112 [.c (.p (Hi n f)), .c (.p (ra n b)),U m] (fun r=>r = .tup [.c (.p (ra n fun k=>bB (f k) (b k) m)),B true]):=by
 have ht:True:=trivial
 have hr:∀ k,k<n→aF Sg 90 [ag (cH (f k)),ag (aW (b k)),U m] (fun r=>r = .tup [ag (aW (bB (f k) (b k) m)),B true]):=fun k hk=>lY (f k) (b k) m hm (h k hk)
 obtain ⟨q,hq⟩:∃ q:Nat→Pixel,q=fun k=>bB (f k) (b k) m:=⟨_,rfl⟩
 rw [← hq]
 have g0:((n:Int) != n)=false:=by simp
 refine aI Tryz.func112 [.tmp 6, .tmp 7] ?_
 repeat' (first|with_reducible exact aK|refine ak g0 ?_|refine an ?_|((first|refine aj (fun K hK => ?_)|refine aY ?_);and_intros;all_goals first|(refine hK _ ?_;clear hK K)|try exact aa)|((first|apply aC|apply ay);(case hf=>rfl);(case hc=>exact aS);(all_goals first|(intro hb;(try simp only [bZ] at hb))|skip))|exact ao|(refine aH (fun hb => ?_) (fun hb => ?_);all_goals try exact ax)|refine ar (fun KB hB => ?_)|(refine hB _ ?_;clear hB KB)|refine aA (S:=Sg) (by assumption) ?_|(refine ai ?_;(try clear hB KB);(try clear hK K)))
 refine aM (X:=Nat) (fun i=>bg [(0, .b (.c (.p (Hi n f)))),(1, .b (.c (.p (ra n b)))),(2, .b (U m)),(8, .b (.c (.own 1 i))),(18, .b (I n)),(19, .b (I i))] [(1, .arr 37 5 i (nZ aW q))] 2) (fun i=>i≤n) (fun i=>n - i) 0 ?_ ?_ ?_
 ·exact Nat.zero_le _
 ·refine aE [(1,none)] ?_ ?_
  and_intros
  all_goals first|exact aw|skip
 intro i hi
 rcases Nat.lt_or_ge i n with hk|hk
 ·have g1:decide ((i:Int)<n)=true:=decide_eq_true (by omega)
  have hv:=hr i hk
  repeat' (first|with_reducible exact aK|refine ak g1 ?_|((first|((with_reducible refine bC (id:=7) [(25,3),(29,3)] (by decide +kernel) (by decide +kernel) ?_ (fun K hK => ?_));(first|(refine And.intro (fun iw hiw => ?_) ?_;(focus ((try simp (maxSteps:=999999)(disch:=omega) only [go_sem] at hiw ⊢);(repeat (refine Eq.trans (if_neg ?_) ?_;(focus omega)));(first|exact hw iw (by omega)|rfl)));(focus (first|exact Nat.zero_le _|(simp (maxSteps:=999999)(disch:=omega) only [go_sem];done)|(simp (maxSteps:=999999)(disch:=omega) only [go_sem];omega))))|exact cS))|((with_reducible refine ch (id:=7) [(25,3),(29,3)] (by decide +kernel) (by decide +kernel) ?_ (fun K hK => ?_));(first|(refine And.intro (fun iw hiw => ?_) ?_;(focus ((try simp (maxSteps:=999999)(disch:=omega) only [go_sem] at hiw ⊢);(repeat (refine Eq.trans (if_neg ?_) ?_;(focus omega)));(first|exact hw iw (by omega)|rfl)));(focus (first|exact Nat.zero_le _|(simp (maxSteps:=999999)(disch:=omega) only [go_sem];done)|(simp (maxSteps:=999999)(disch:=omega) only [go_sem];omega))))|exact cS)));(try simp (maxSteps:=999999)(disch:=omega) only [go_sem]);and_intros;(all_goals first|(refine hK _ (by simp (maxSteps:=999999)(disch:=omega) only [go_sem]) ?_;clear hK K)|exact aa|skip))|refine an ?_|((first|refine aj (fun K hK => ?_)|refine aY ?_|refine ae (hv) ?_|refine aq (fun hg=>hv) ?_);and_intros;all_goals first|(refine hK _ ?_;clear hK K)|try exact aa)|((first|apply aC|apply ay);(case hf=>rfl);(case hc=>exact aS);(all_goals first|(intro hb;(try simp only [bZ] at hb))|skip))|exact ao|(refine aH (fun hb => ?_) (fun hb => ?_);all_goals try exact ax)|refine ar (fun KB hB => ?_)|(refine hB _ ?_;clear hB KB)|refine aA (S:=Sg) (by assumption) ?_|(refine ai ?_;(try clear hB KB);(try clear hK K)))
  refine hK _ (by simp (maxSteps:=999999)(disch:=omega) only [go_sem]) ?_
  clear hK
  repeat' (first|with_reducible exact aK|refine ak ht ?_|refine an ?_|((first|refine aj (fun K hK => ?_)|refine aY ?_);and_intros;all_goals first|(refine hK _ ?_;clear hK K)|try exact aa)|((first|apply aC|apply ay);(case hf=>rfl);(case hc=>exact aS);(all_goals first|(intro hb;(try simp only [bZ] at hb))|skip))|exact ao|(refine aH (fun hb => ?_) (fun hb => ?_);all_goals try exact ax)|refine ar (fun KB hB => ?_)|(refine hB _ ?_;clear hB KB)|refine aA (S:=Sg) (by assumption) ?_|(refine ai ?_;(try clear hB KB);(try clear hK K)))
  rw [ah]
  refine au (i+1) ?_ (by omega) (by omega)
  refine aE [(1,some 4)] ?_ ?_
  and_intros
  all_goals first|exact aw|skip
  refine .inr (kU (enc:=aW) (q:=q) fun j hj => ?_)
  rw [hq]
  have hivl:j=0∨j=1∨j=2∨j=3∨j=4:=by omega
  rcases hivl with rfl|rfl|rfl|rfl|rfl <;> exact PV.le_refl _
 ·have g1:decide ((i:Int)<n)=false:=decide_eq_false (by omega)
  obtain rfl:i=n:=by omega
  repeat' (first|with_reducible exact aK|refine ak g1 ?_|refine an ?_|((first|refine aj (fun K hK => ?_)|refine aY ?_);and_intros;all_goals first|(refine hK _ ?_;clear hK K)|try exact aa)|((first|apply aC|apply ay);(case hf=>rfl);(case hc=>exact aS);(all_goals first|(intro hb;(try simp only [bZ] at hb))|skip))|exact ao|(refine aH (fun hb => ?_) (fun hb => ?_);all_goals try exact ax)|refine ar (fun KB hB => ?_)|(refine hB _ ?_;clear hB KB)|refine aA (S:=Sg) (by assumption) ?_|(refine ai ?_;(try clear hB KB);(try clear hK K)))
def JG (m:Int) (k:Nat) (mk:Nat→Int):Nat→Int:=fun i=>if k=0 then m else mk i
theorem Fo (n k : Nat) (f : Nat → Pixel) (mk : Nat → Int) (o m : Int) (hm : Full m) (hn : n ≤ 1000) (hk : k = 0 ∨ k = n) (hf : ∀ i, i < n → PixV (f i) m) (hmk : ∀ i, i < k → 0 ≤ mk i ∧ mk i ≤ m) (ho : 0 ≤ o) (hom : o ≤ m) :
  aF Sg 155 [.c (.p (ra n f)), .c (.p (Lm k mk)),U o,U m] (fun r=>r = .tup [.c (.p (ra n fun i=>cc (cc (f i) (JG m k mk i) m) o m)),B true]):=by
 have ht:True:=trivial
 have hr:∀ i,i<n→aF Sg 170 [ag (aW (f i)),U (JG m k mk i),U o,U m] (fun r=>r = .tup [ag (aW (cc (cc (f i) (JG m k mk i) m) o m)),B true]):=fun i hi=>by
  refine BN (f i) _ o m hm (hf i hi) ?_ ?_ ho hom
  ·unfold JG;split
   ·rcases hm with rfl|rfl <;> decide
   ·exact (hmk i (by omega)).1
  ·unfold JG;split
   ·exact Int.le_refl _
   ·exact (hmk i (by omega)).2
 obtain ⟨q,hq⟩:∃ q:Nat→Pixel,q=fun i=>cc (cc (f i) (JG m k mk i) m) o m:=⟨_,rfl⟩
 have hr:∀ i,i<n→aF Sg 170 [ag (aW (f i)),U (JG m k mk i),U o,U m] (fun r=>r = .tup [ag (aW (q i)),B true]):=by rw [hq];exact hr
 rw [← hq]
 clear hq
 by_cases h0:k=0
 ·subst h0
  have g0:((n:Int) != n)=false:=by simp
  have hr:∀ i,i<n→aF Sg 170 [ag (aW (f i)),U m,U o,U m] (fun r=>r = .tup [ag (aW (q i)),B true]):=fun i hi=>by
   have:=hr i hi
   unfold JG at this
   rw [if_pos rfl] at this
   exact this
  refine aI Tryz.func155 [.tmp 8, .tmp 9] ?_
  repeat' (first|with_reducible exact aK|refine ak g0 ?_|refine an ?_|((first|refine aj (fun K hK => ?_)|refine aY ?_);and_intros;all_goals first|(refine hK _ ?_;clear hK K)|try exact aa)|((first|apply aC|apply ay);(case hf=>rfl);(case hc=>exact aS);(all_goals first|(intro hb;(try simp only [bZ] at hb))|skip))|exact ao|(refine aH (fun hb => ?_) (fun hb => ?_);all_goals try exact ax)|refine ar (fun KB hB => ?_)|(refine hB _ ?_;clear hB KB)|refine aA (S:=Sg) (by assumption) ?_|(refine ai ?_;(try clear hB KB);(try clear hK K)))
  refine aM (X:=Nat) (fun i=>bg [(0, .b (.c (.p (ra n f)))),(1, .b (.c (.p (Lm 0 mk)))),(2, .b (U o)),(3, .b (U m)),(10, .b (.c (.own 1 i))),(26, .b (.c (.p (ra n f)))),(27, .b (I n)),(28, .b (I i))] [(1, .arr 37 5 i (nZ aW q))] 2) (fun i=>i≤n) (fun i=>n - i) 0 ?_ ?_ ?_
  ·exact Nat.zero_le _
  ·refine aE [(1,none)] ?_ ?_
   and_intros
   all_goals first|exact aw|skip
  intro i hi
  rcases Nat.lt_or_ge i n with hk|hk
  ·have g1:decide ((i:Int)<n)=true:=decide_eq_true (by omega)
   have hv:=hr i hk
   repeat' (first|with_reducible exact aK|refine ak g1 ?_|refine an ?_|((first|refine aj (fun K hK => ?_)|refine aY ?_|refine ae (hv) ?_|refine aq (fun hg=>hv) ?_);and_intros;all_goals first|(refine hK _ ?_;clear hK K)|try exact aa)|((first|apply aC|apply ay);(case hf=>rfl);(case hc=>exact aS);(all_goals first|(intro hb;(try simp only [bZ] at hb))|skip))|exact ao|(refine aH (fun hb => ?_) (fun hb => ?_);all_goals try exact ax)|refine ar (fun KB hB => ?_)|(refine hB _ ?_;clear hB KB)|refine aA (S:=Sg) (by assumption) ?_|(refine ai ?_;(try clear hB KB);(try clear hK K)))
   rw [ah]
   refine au (i+1) ?_ (by omega) (by omega)
   refine aE [(1,some 5)] ?_ ?_
   and_intros
   all_goals first|exact aw|skip
   refine .inr (kU (enc:=aW) (q:=q) fun j hj => ?_)
   have hivl:j=0∨j=1∨j=2∨j=3∨j=4:=by omega
   rcases hivl with rfl|rfl|rfl|rfl|rfl <;> exact PV.le_refl _
  ·have g1:decide ((i:Int)<n)=false:=decide_eq_false (by omega)
   obtain rfl:i=n:=by omega
   repeat' (first|with_reducible exact aK|refine ak g1 ?_|refine an ?_|((first|refine aj (fun K hK => ?_)|refine aY ?_);and_intros;all_goals first|(refine hK _ ?_;clear hK K)|try exact aa)|((first|apply aC|apply ay);(case hf=>rfl);(case hc=>exact aS);(all_goals first|(intro hb;(try simp only [bZ] at hb))|skip))|exact ao|(refine aH (fun hb => ?_) (fun hb => ?_);all_goals try exact ax)|refine ar (fun KB hB => ?_)|(refine hB _ ?_;clear hB KB)|refine aA (S:=Sg) (by assumption) ?_|(refine ai ?_;(try clear hB KB);(try clear hK K)))
 ·obtain rfl:k=n:=by omega
  have g0:((k:Int) != k)=false:=by simp
  have g2:decide ((k:Int)>0)=true:=decide_eq_true (by omega)
  have hr:∀ i,i<k→aF Sg 170 [ag (aW (f i)),U (mk i),U o,U m] (fun r=>r = .tup [ag (aW (q i)),B true]):=fun i hi=>by
   have:=hr i hi
   unfold JG at this
   rw [if_neg h0] at this
   exact this
  refine aI Tryz.func155 [.tmp 8, .tmp 9] ?_
  repeat' (first|with_reducible exact aK|refine ak g0 ?_|refine an ?_|((first|refine aj (fun K hK => ?_)|refine aY ?_);and_intros;all_goals first|(refine hK _ ?_;clear hK K)|try exact aa)|((first|apply aC|apply ay);(case hf=>rfl);(case hc=>exact aS);(all_goals first|(intro hb;(try simp only [bZ] at hb))|skip))|exact ao|(refine aH (fun hb => ?_) (fun hb => ?_);all_goals try exact ax)|refine ar (fun KB hB => ?_)|(refine hB _ ?_;clear hB KB)|refine aA (S:=Sg) (by assumption) ?_|(refine ai ?_;(try clear hB KB);(try clear hK K)))
  refine aM (X:=Nat) (fun i=>bg [(0, .b (.c (.p (ra k f)))),(1, .b (.c (.p (Lm k mk)))),(2, .b (U o)),(3, .b (U m)),(10, .b (.c (.own 1 i))),(26, .b (.c (.p (ra k f)))),(27, .b (I k)),(28, .b (I i))] [(1, .arr 37 5 i (nZ aW q))] 2) (fun i=>i≤k) (fun i=>k - i) 0 ?_ ?_ ?_
  ·exact Nat.zero_le _
  ·refine aE [(1,none)] ?_ ?_
   and_intros
   all_goals first|exact aw|skip
  intro i hi
  rcases Nat.lt_or_ge i k with hk|hk
  ·have g1:decide ((i:Int)<k)=true:=decide_eq_true (by omega)
   have hv:=hr i hk
   repeat' (first|with_reducible exact aK|((first|apply ft|apply jB);(case hc=>exact aS);(case ht=>(simp only [Int.toNat_natCast,Int.reduceBEq,Int.reduceBNe,Int.reduceLT,Int.reduceLE,decide_true,decide_false,oZ,And.intro g1 g2];done)))|((first|apply gZ|apply iz);(case hc=>exact aS);(case ht=>(simp only [Int.toNat_natCast,Int.reduceBEq,Int.reduceBNe,Int.reduceLT,Int.reduceLE,decide_true,decide_false,oZ,And.intro g1 g2];done)))|refine an ?_|((first|refine aj (fun K hK => ?_)|refine aY ?_|refine ae (hv) ?_|refine aq (fun hg=>hv) ?_);and_intros;all_goals first|(refine hK _ ?_;clear hK K)|try exact aa)|((first|apply aC|apply ay);(case hf=>rfl);(case hc=>exact aS);(all_goals first|(intro hb;(try simp only [bZ] at hb))|skip))|exact ao|(refine aH (fun hb => ?_) (fun hb => ?_);all_goals try exact ax)|refine ar (fun KB hB => ?_)|(refine hB _ ?_;clear hB KB)|refine aA (S:=Sg) (by assumption) ?_|(refine ai ?_;(try clear hB KB);(try clear hK K)))
   rw [ah]
   refine au (i+1) ?_ (by omega) (by omega)
   refine aE [(1,some 5)] ?_ ?_
   and_intros
   all_goals first|exact aw|skip
   refine .inr (kU (enc:=aW) (q:=q) fun j hj => ?_)
   have hivl:j=0∨j=1∨j=2∨j=3∨j=4:=by omega
   rcases hivl with rfl|rfl|rfl|rfl|rfl <;> exact PV.le_refl _
  ·have g1:decide ((i:Int)<k)=false:=decide_eq_false (by omega)
   obtain rfl:i=k:=by omega
   repeat' (first|with_reducible exact aK|refine ak g1 ?_|refine an ?_|((first|refine aj (fun K hK => ?_)|refine aY ?_);and_intros;all_goals first|(refine hK _ ?_;clear hK K)|try exact aa)|((first|apply aC|apply ay);(case hf=>rfl);(case hc=>exact aS);(all_goals first|(intro hb;(try simp only [bZ] at hb))|skip))|exact ao|(refine aH (fun hb => ?_) (fun hb => ?_);all_goals try exact ax)|refine ar (fun KB hB => ?_)|(refine hB _ ?_;clear hB KB)|refine aA (S:=Sg) (by assumption) ?_|(refine ai ?_;(try clear hB KB);(try clear hK K)))
end Go.Proofs.YtcbifofjjpfbcaaGreatDoor
set_option maxHeartbeats 4000000
set_option maxRecDepth 16000
namespace Go.Proofs.YtcbifofjjpfbcaaGreatDoor
open Go Go.SL
open Go.RowKit (wrap64)
theorem xN {w h:Int} (hw:1≤w) (hh:1≤h):w≤16777216 / h↔w≤16777216∧h≤16777216 / w:=by
 rw [Int.le_ediv_iff_mul_le (by omega),Int.le_ediv_iff_mul_le (by omega),Int.mul_comm h w]
 refine ⟨fun q=>⟨?_,q⟩,fun q=>q.2⟩
 have:w * 1≤w * h:=Int.mul_le_mul_of_nonneg_left hh (by omega)
 omega
theorem AS (w h:Int):((decide (w≥1) && decide (h≥1)) && decide (w≤IntKind.i64.wrap (16777216 / h)))=cl w h:=by
 rw [Bool.eq_iff_iff]
 simp only [cl,Bool.and_eq_true,decide_eq_true_eq,ge_iff_le]
 constructor
 ·rintro ⟨⟨h1,h2⟩,h3⟩
  have a1:0≤16777216 / h:=Int.ediv_nonneg (by omega) (by omega)
  have a2:16777216 / h≤16777216:=Int.ediv_le_self _ (by omega)
  rw [fA (by omega) (by omega)] at h3
  exact ⟨h1,h2,(xN h1 h2).1 h3⟩
 ·rintro ⟨h1,h2,h3⟩
  have a1:0≤16777216 / h:=Int.ediv_nonneg (by omega) (by omega)
  have a2:16777216 / h≤16777216:=Int.ediv_le_self _ (by omega)
  rw [fA (by omega) (by omega)]
  exact ⟨⟨h1,h2⟩,(xN h1 h2).2 h3⟩
theorem ur (w h:Int):aF Sg 76 [I w,I h] (fun x=>x = .b (B (cl w h))):=by
 rw [← AS]
 refine aI Tryz.func76 [.tmp 4] ?_
 repeat' (first|with_reducible exact aK|(refine aj (fun K hK => ?_);and_intros;all_goals first|(refine hK _ ?_;clear hK K)|try exact aa)|(refine ai ?_;(try clear hB KB);(try clear hK K)))
theorem IQ (w h:Int):aF Sg 194 [I w,I h] (fun x=>x = .b (B (cl w h))):=by
 rw [← AS]
 refine aI Tryz.func194 [.tmp 4] ?_
 repeat' (first|with_reducible exact aK|(refine aj (fun K hK => ?_);and_intros;all_goals first|(refine hK _ ?_;clear hK K)|try exact aa)|(refine ai ?_;(try clear hB KB);(try clear hK K)))
theorem Nk (p:Plane):aF Sg 182 [ag (jD p)] (fun x=>x = .b (B (decide (p.w=0) && decide (p.h=0) && decide (p.stride=0) && decide (p.s.length=0)))):=by
 refine aI Tryz.func182 [.tmp 2] ?_
 repeat' (first|(refine aj (fun K hK => ?_);and_intros;all_goals first|(refine hK _ ?_;clear hK K)|try exact aa)|(refine ai ?_;(try clear hB KB);(try clear hK K)))
 refine dS ?_
 simp only [Bool.and_eq_true,decide_eq_true_eq,beq_iff_eq]
 omega
theorem Lh (w h s:Int):aF Sg 195 [I w,I h,I s] (fun x=>x = .b (I (IntKind.i64.wrap (IntKind.i64.wrap (IntKind.i64.wrap (h - 1) * s)+w)))):=by
 have ht:True:=trivial
 refine aI Tryz.func195 [.tmp 6] ?_
 repeat' (first|with_reducible exact aK|(refine aj (fun K hK => ?_);and_intros;all_goals first|(refine hK _ ?_;clear hK K)|try exact aa)|(refine ai ?_;(try clear hB KB);(try clear hK K)))
theorem kX (p:Plane):aF Sg 183 [ag (jD p)] (fun r=>r = .b (B (de p))):=by
 have hf:=IQ p.w p.h
 have hl:=Lh p.w p.h p.stride
 have key:(cl p.w p.h && decide (p.stride≥p.w) && decide (p.stride≤16777216) && decide ((p.s.length:Int)≥IntKind.i64.wrap (IntKind.i64.wrap (IntKind.i64.wrap (p.h - 1) * p.stride)+p.w)))=de p:=by
  unfold de
  by_cases h:cl p.w p.h=true∧p.w≤p.stride∧p.stride≤16777216
  ·obtain ⟨h1,h2,h3⟩:=h
   obtain ⟨b1,b2,b3,b4,b5,b6⟩:=ed h1
   have e1:0≤(p.h - 1) * p.stride∧(p.h - 1) * p.stride≤16777216 * 16777216:=⟨az (by omega) (by omega),aJ (by omega) (by omega) (by omega) (by omega)⟩
   rw [fA (n:=p.h - 1) (by omega) (by omega),fA (n:=(p.h - 1) * p.stride) (by omega) (by omega),fA (by omega) (by omega)]
  ·have hz:(cl p.w p.h && decide (p.stride≥p.w) && decide (p.stride≤16777216))=false:=by
    rw [← Bool.not_eq_true,Bool.and_eq_true,Bool.and_eq_true,decide_eq_true_eq,decide_eq_true_eq]
    exact fun q=>h ⟨q.1.1,q.1.2,q.2⟩
   rw [hz]
   rfl
 rw [← key]
 refine aI Tryz.func183 [.tmp 2] ?_
 repeat' (first|with_reducible exact aK|((first|refine aj (fun K hK => ?_)|refine ae (hf) ?_|refine aq (fun hg=>hl) ?_);and_intros;all_goals first|(refine hK _ ?_;clear hK K)|try exact aa)|(refine ai ?_;(try clear hB KB);(try clear hK K)))
def jP (p:Plane):Bool:=decide (p.w=0) && decide (p.h=0) && decide (p.stride=0) && decide (p.s.length=0)
theorem mV (p:Plane):aF Sg 182 [ag (jD p)] (fun x=>x = .b (B (jP p))):=Nk p
theorem pL {p:Plane} (h:((p.w=0∧p.h=0)∧p.stride=0)∧(p.s.length:Int)≤0):jP p=true:=by
 unfold jP
 simp only [Bool.and_eq_true,decide_eq_true_eq]
 omega
theorem pN {m:Image} {p:Plane} (hs:m.solid=true) (h:¬ aO m p=true):jP p=false:=by
 rw [← Bool.not_eq_true]
 intro q
 unfold jP at q
 simp only [Bool.and_eq_true,decide_eq_true_eq] at q
 exact h ((ja hs).2 (by omega))
theorem lf {m:Image} {p:Plane} (hs:m.solid=false) (h:¬ aO m p=true):(!de p || (p.w != m.w) || (p.h != m.h))=true:=by
 rw [← Bool.not_eq_false]
 intro q
 simp only [Bool.or_eq_false_iff,bne_eq_false_iff_eq,Bool.not_eq_false'] at q
 exact h ((jb hs).2 q)
theorem tv (m:Image):aF Sg 149 [ag (bl m)] (fun r=>r = .b (B (bp m))):=by
 obtain ⟨w,h,solid,color,p0,p1,p2,p3,p4⟩:=m
 have ht:True:=trivial
 have hsz:=ur w h
 have e0:bp ⟨w,h,solid,color,p0,p1,p2,p3,p4⟩=(cl w h && eG ⟨w,h,solid,color,p0,p1,p2,p3,p4⟩):=rfl
 rw [e0]
 cases hF:cl w h
 ·rw [hF] at hsz
  refine aI Tryz.func149 [.tmp 2] ?_
  repeat' (first|refine ak ht ?_|refine an ?_|((first|refine aj (fun K hK => ?_)|refine aY ?_|refine ae (hsz) ?_);and_intros;all_goals first|(refine hK _ ?_;clear hK K)|try exact aa)|(refine ai ?_;(try clear hB KB);(try clear hK K)))
  rfl
 rw [Bool.true_and]
 rw [hF] at hsz
 have v0:=kX p0
 have v1:=kX p1
 have v2:=kX p2
 have v3:=kX p3
 have v4:=kX p4
 have z0:=mV p0
 have z1:=mV p1
 have z2:=mV p2
 have z3:=mV p3
 have z4:=mV p4
 cases solid
 ·skip
  refine aI Tryz.func149 [.tmp 2] ?_
  repeat' (first|refine an ?_|((first|refine aj (fun K hK => ?_)|refine aY ?_|refine ae (hsz) ?_);and_intros;all_goals first|(refine hK _ ?_;clear hK K)|try exact aa)|(refine aH (fun hb => ?_) (fun hb => ?_);all_goals try exact ax)|(refine ai ?_;(try clear hB KB);(try clear hK K)))
  ·refine congrArg (fun v=>SV.b (B v)) (Eq.symm ?_)
   have hc:¬ color=ba:=fun q=>by
    subst q
    revert hb
    simp [ba]
   unfold eG
   rw [decide_eq_false hc,Bool.or_false,Bool.and_false]
  have hc:color=ba:=by
   obtain ⟨c0,c1,c2,a,f⟩:=color
   obtain ⟨⟨q0,q1,q2,_⟩,q3,q4,_⟩:=hb.2 trivial
   simp only [ba,Pixel.mk.injEq]
   exact ⟨q0,q1,q2,q3,q4⟩
  subst hc
  clear hb
  refine aM (X:=Int) (fun k=>bg [(1, .b (.c (.ptr 0 0))),(23, .b (ag [PI p0.w,PI p0.h,PI p0.stride,jV p0.s,PI p1.w,PI p1.h,PI p1.stride,jV p1.s,PI p2.w,PI p2.h,PI p2.stride,jV p2.s,PI p3.w,PI p3.h,PI p3.stride,jV p3.s,PI p4.w,PI p4.h,PI p4.stride,jV p4.s])),(24, .b (I k))] [(0, .fix ((bl ⟨w,h,false,ba,p0,p1,p2,p3,p4⟩).map CV.p))] 1)
   (fun k=>0≤k∧k≤5∧(0<k→aO ⟨w,h,false,ba,p0,p1,p2,p3,p4⟩ p0=true)∧(1<k→aO ⟨w,h,false,ba,p0,p1,p2,p3,p4⟩ p1=true)∧(2<k→aO ⟨w,h,false,ba,p0,p1,p2,p3,p4⟩ p2=true)∧(3<k→aO ⟨w,h,false,ba,p0,p1,p2,p3,p4⟩ p3=true)∧(4<k→aO ⟨w,h,false,ba,p0,p1,p2,p3,p4⟩ p4=true)) (fun k=>(5 - k).toNat) 0 ?_ ?_ ?_
  ·exact ⟨by omega,by omega,fun q=>absurd q (by omega),fun q=>absurd q (by omega),fun q=>absurd q (by omega),fun q=>absurd q (by omega),fun q=>absurd q (by omega)⟩
  ·refine aE [(1,some 1)] ?_ ?_
   and_intros
   all_goals first|exact aw|skip
  ·rintro k ⟨k0,k1,i0,i1,i2,i3,i4⟩
   have hkv:k=0∨k=1∨k=2∨k=3∨k=4∨k=5:=by omega
   rcases hkv with rfl|rfl|rfl|rfl|rfl|rfl
   ·by_cases hp:aO ⟨w,h,false,ba,p0,p1,p2,p3,p4⟩ p0=true
    ·have hq:=(jb rfl).1 hp
     obtain ⟨g1,g2,g3⟩:de p0=true∧(p0.w != w)=false∧(p0.h != h)=false:=⟨hq.1.1,by rw [bne_eq_false_iff_eq];exact hq.1.2,by rw [bne_eq_false_iff_eq];exact hq.2⟩
     repeat' (first|refine ak (And.intro ht (And.intro g1 (And.intro g2 g3))) ?_|refine an ?_|((first|refine aj (fun K hK => ?_)|refine aq (fun hg=>v0) ?_|refine aq (fun hg=>z0) ?_);and_intros;all_goals first|(refine hK _ ?_;clear hK K)|try exact aa))
     rw [ah]
     refine au 1 ?_ ⟨by omega,by omega,fun _=>hp,fun q=>absurd q (by omega),fun q=>absurd q (by omega),fun q=>absurd q (by omega),fun q=>absurd q (by omega)⟩ (by decide)
     refine aE [(1,some 1)] ?_ ?_
     and_intros
     all_goals first|exact aw|skip
    ·have g1:(!de p0 || (p0.w != w) || (p0.h != h))=true:=lf (m:=⟨w,h,false,ba,p0,p1,p2,p3,p4⟩) rfl hp
     repeat' (first|refine ak (And.intro ht g1) ?_|refine an ?_|((first|refine aj (fun K hK => ?_)|refine aq (fun hg=>v0) ?_|refine aq (fun hg=>z0) ?_);and_intros;all_goals first|(refine hK _ ?_;clear hK K)|try exact aa)|(refine ai ?_;(try clear hB KB);(try clear hK K)))
     refine congrArg (fun v=>SV.b (B v)) (Eq.symm ?_)
     exact bK (m:=⟨w,h,false,ba,p0,p1,p2,p3,p4⟩) (p:=p0) (by simp) hp
   ·by_cases hp:aO ⟨w,h,false,ba,p0,p1,p2,p3,p4⟩ p1=true
    ·have hq:=(jb rfl).1 hp
     obtain ⟨g1,g2,g3⟩:de p1=true∧(p1.w != w)=false∧(p1.h != h)=false:=⟨hq.1.1,by rw [bne_eq_false_iff_eq];exact hq.1.2,by rw [bne_eq_false_iff_eq];exact hq.2⟩
     repeat' (first|refine ak (And.intro ht (And.intro g1 (And.intro g2 g3))) ?_|refine an ?_|((first|refine aj (fun K hK => ?_)|refine aq (fun hg=>v1) ?_|refine aq (fun hg=>z1) ?_);and_intros;all_goals first|(refine hK _ ?_;clear hK K)|try exact aa))
     rw [ah]
     refine au 2 ?_ ⟨by omega,by omega,fun _=>i0 (by omega),fun _=>hp,fun q=>absurd q (by omega),fun q=>absurd q (by omega),fun q=>absurd q (by omega)⟩ (by decide)
     refine aE [(1,some 1)] ?_ ?_
     and_intros
     all_goals first|exact aw|skip
    ·have g1:(!de p1 || (p1.w != w) || (p1.h != h))=true:=lf (m:=⟨w,h,false,ba,p0,p1,p2,p3,p4⟩) rfl hp
     repeat' (first|refine ak (And.intro ht g1) ?_|refine an ?_|((first|refine aj (fun K hK => ?_)|refine aq (fun hg=>v1) ?_|refine aq (fun hg=>z1) ?_);and_intros;all_goals first|(refine hK _ ?_;clear hK K)|try exact aa)|(refine ai ?_;(try clear hB KB);(try clear hK K)))
     refine congrArg (fun v=>SV.b (B v)) (Eq.symm ?_)
     exact bK (m:=⟨w,h,false,ba,p0,p1,p2,p3,p4⟩) (p:=p1) (by simp) hp
   ·by_cases hp:aO ⟨w,h,false,ba,p0,p1,p2,p3,p4⟩ p2=true
    ·have hq:=(jb rfl).1 hp
     obtain ⟨g1,g2,g3⟩:de p2=true∧(p2.w != w)=false∧(p2.h != h)=false:=⟨hq.1.1,by rw [bne_eq_false_iff_eq];exact hq.1.2,by rw [bne_eq_false_iff_eq];exact hq.2⟩
     repeat' (first|refine ak (And.intro ht (And.intro g1 (And.intro g2 g3))) ?_|refine an ?_|((first|refine aj (fun K hK => ?_)|refine aq (fun hg=>v2) ?_|refine aq (fun hg=>z2) ?_);and_intros;all_goals first|(refine hK _ ?_;clear hK K)|try exact aa))
     rw [ah]
     refine au 3 ?_ ⟨by omega,by omega,fun _=>i0 (by omega),fun _=>i1 (by omega),fun _=>hp,fun q=>absurd q (by omega),fun q=>absurd q (by omega)⟩ (by decide)
     refine aE [(1,some 1)] ?_ ?_
     and_intros
     all_goals first|exact aw|skip
    ·have g1:(!de p2 || (p2.w != w) || (p2.h != h))=true:=lf (m:=⟨w,h,false,ba,p0,p1,p2,p3,p4⟩) rfl hp
     repeat' (first|refine ak (And.intro ht g1) ?_|refine an ?_|((first|refine aj (fun K hK => ?_)|refine aq (fun hg=>v2) ?_|refine aq (fun hg=>z2) ?_);and_intros;all_goals first|(refine hK _ ?_;clear hK K)|try exact aa)|(refine ai ?_;(try clear hB KB);(try clear hK K)))
     refine congrArg (fun v=>SV.b (B v)) (Eq.symm ?_)
     exact bK (m:=⟨w,h,false,ba,p0,p1,p2,p3,p4⟩) (p:=p2) (by simp) hp
   ·by_cases hp:aO ⟨w,h,false,ba,p0,p1,p2,p3,p4⟩ p3=true
    ·have hq:=(jb rfl).1 hp
     obtain ⟨g1,g2,g3⟩:de p3=true∧(p3.w != w)=false∧(p3.h != h)=false:=⟨hq.1.1,by rw [bne_eq_false_iff_eq];exact hq.1.2,by rw [bne_eq_false_iff_eq];exact hq.2⟩
     repeat' (first|refine ak (And.intro ht (And.intro g1 (And.intro g2 g3))) ?_|refine an ?_|((first|refine aj (fun K hK => ?_)|refine aq (fun hg=>v3) ?_|refine aq (fun hg=>z3) ?_);and_intros;all_goals first|(refine hK _ ?_;clear hK K)|try exact aa))
     rw [ah]
     refine au 4 ?_ ⟨by omega,by omega,fun _=>i0 (by omega),fun _=>i1 (by omega),fun _=>i2 (by omega),fun _=>hp,fun q=>absurd q (by omega)⟩ (by decide)
     refine aE [(1,some 1)] ?_ ?_
     and_intros
     all_goals first|exact aw|skip
    ·have g1:(!de p3 || (p3.w != w) || (p3.h != h))=true:=lf (m:=⟨w,h,false,ba,p0,p1,p2,p3,p4⟩) rfl hp
     repeat' (first|refine ak (And.intro ht g1) ?_|refine an ?_|((first|refine aj (fun K hK => ?_)|refine aq (fun hg=>v3) ?_|refine aq (fun hg=>z3) ?_);and_intros;all_goals first|(refine hK _ ?_;clear hK K)|try exact aa)|(refine ai ?_;(try clear hB KB);(try clear hK K)))
     refine congrArg (fun v=>SV.b (B v)) (Eq.symm ?_)
     exact bK (m:=⟨w,h,false,ba,p0,p1,p2,p3,p4⟩) (p:=p3) (by simp) hp
   ·by_cases hp:aO ⟨w,h,false,ba,p0,p1,p2,p3,p4⟩ p4=true
    ·have hq:=(jb rfl).1 hp
     obtain ⟨g1,g2,g3⟩:de p4=true∧(p4.w != w)=false∧(p4.h != h)=false:=⟨hq.1.1,by rw [bne_eq_false_iff_eq];exact hq.1.2,by rw [bne_eq_false_iff_eq];exact hq.2⟩
     repeat' (first|refine ak (And.intro ht (And.intro g1 (And.intro g2 g3))) ?_|refine an ?_|((first|refine aj (fun K hK => ?_)|refine aq (fun hg=>v4) ?_|refine aq (fun hg=>z4) ?_);and_intros;all_goals first|(refine hK _ ?_;clear hK K)|try exact aa))
     rw [ah]
     refine au 5 ?_ ⟨by omega,by omega,fun _=>i0 (by omega),fun _=>i1 (by omega),fun _=>i2 (by omega),fun _=>i3 (by omega),fun _=>hp⟩ (by decide)
     refine aE [(1,some 1)] ?_ ?_
     and_intros
     all_goals first|exact aw|skip
    ·have g1:(!de p4 || (p4.w != w) || (p4.h != h))=true:=lf (m:=⟨w,h,false,ba,p0,p1,p2,p3,p4⟩) rfl hp
     repeat' (first|refine ak (And.intro ht g1) ?_|refine an ?_|((first|refine aj (fun K hK => ?_)|refine aq (fun hg=>v4) ?_|refine aq (fun hg=>z4) ?_);and_intros;all_goals first|(refine hK _ ?_;clear hK K)|try exact aa)|(refine ai ?_;(try clear hB KB);(try clear hK K)))
     refine congrArg (fun v=>SV.b (B v)) (Eq.symm ?_)
     exact bK (m:=⟨w,h,false,ba,p0,p1,p2,p3,p4⟩) (p:=p4) (by simp) hp
   ·repeat' (first|refine ak ht ?_|refine an ?_|(refine aj (fun K hK => ?_);and_intros;all_goals first|(refine hK _ ?_;clear hK K)|try exact aa)|(refine ai ?_;(try clear hB KB);(try clear hK K)))
    refine congrArg (fun v=>SV.b (B v)) (Eq.symm ?_)
    show eG ⟨w,h,false,ba,p0,p1,p2,p3,p4⟩=true
    unfold eG
    dsimp only
    rw [i0 (by omega),i1 (by omega),i2 (by omega),i3 (by omega),i4 (by omega)]
    simp
 ·refine aI Tryz.func149 [.tmp 2] ?_
  repeat' (first|refine ak ht ?_|refine an ?_|((first|refine aj (fun K hK => ?_)|refine aY ?_|refine ae (hsz) ?_);and_intros;all_goals first|(refine hK _ ?_;clear hK K)|try exact aa))
  refine aM (X:=Int) (fun k=>bg [(1, .b (.c (.ptr 0 0))),(23, .b (ag [PI p0.w,PI p0.h,PI p0.stride,jV p0.s,PI p1.w,PI p1.h,PI p1.stride,jV p1.s,PI p2.w,PI p2.h,PI p2.stride,jV p2.s,PI p3.w,PI p3.h,PI p3.stride,jV p3.s,PI p4.w,PI p4.h,PI p4.stride,jV p4.s])),(24, .b (I k))] [(0, .fix ((bl ⟨w,h,true,color,p0,p1,p2,p3,p4⟩).map CV.p))] 1)
   (fun k=>0≤k∧k≤5∧(0<k→aO ⟨w,h,true,color,p0,p1,p2,p3,p4⟩ p0=true)∧(1<k→aO ⟨w,h,true,color,p0,p1,p2,p3,p4⟩ p1=true)∧(2<k→aO ⟨w,h,true,color,p0,p1,p2,p3,p4⟩ p2=true)∧(3<k→aO ⟨w,h,true,color,p0,p1,p2,p3,p4⟩ p3=true)∧(4<k→aO ⟨w,h,true,color,p0,p1,p2,p3,p4⟩ p4=true)) (fun k=>(5 - k).toNat) 0 ?_ ?_ ?_
  ·exact ⟨by omega,by omega,fun q=>absurd q (by omega),fun q=>absurd q (by omega),fun q=>absurd q (by omega),fun q=>absurd q (by omega),fun q=>absurd q (by omega)⟩
  ·refine aE [(1,some 1)] ?_ ?_
   and_intros
   all_goals first|exact aw|skip
  ·rintro k ⟨k0,k1,i0,i1,i2,i3,i4⟩
   have hkv:k=0∨k=1∨k=2∨k=3∨k=4∨k=5:=by omega
   rcases hkv with rfl|rfl|rfl|rfl|rfl|rfl
   ·by_cases hp:aO ⟨w,h,true,color,p0,p1,p2,p3,p4⟩ p0=true
    ·have hq:=(ja rfl).1 hp
     obtain ⟨g1,g2,g3⟩:jP p0=true∧True∧True:=⟨pL hq,trivial,trivial⟩
     repeat' (first|refine ak (And.intro ht (And.intro g1 (And.intro g2 g3))) ?_|refine an ?_|((first|refine aj (fun K hK => ?_)|refine aq (fun hg=>v0) ?_|refine aq (fun hg=>z0) ?_);and_intros;all_goals first|(refine hK _ ?_;clear hK K)|try exact aa))
     rw [ah]
     refine au 1 ?_ ⟨by omega,by omega,fun _=>hp,fun q=>absurd q (by omega),fun q=>absurd q (by omega),fun q=>absurd q (by omega),fun q=>absurd q (by omega)⟩ (by decide)
     refine aE [(1,some 1)] ?_ ?_
     and_intros
     all_goals first|exact aw|skip
    ·have g1:(!jP p0)=true:=by rw [pN (m:=⟨w,h,true,color,p0,p1,p2,p3,p4⟩) rfl hp];rfl
     repeat' (first|refine ak (And.intro ht g1) ?_|refine an ?_|((first|refine aj (fun K hK => ?_)|refine aq (fun hg=>v0) ?_|refine aq (fun hg=>z0) ?_);and_intros;all_goals first|(refine hK _ ?_;clear hK K)|try exact aa)|(refine ai ?_;(try clear hB KB);(try clear hK K)))
     refine congrArg (fun v=>SV.b (B v)) (Eq.symm ?_)
     exact bK (m:=⟨w,h,true,color,p0,p1,p2,p3,p4⟩) (p:=p0) (by simp) hp
   ·by_cases hp:aO ⟨w,h,true,color,p0,p1,p2,p3,p4⟩ p1=true
    ·have hq:=(ja rfl).1 hp
     obtain ⟨g1,g2,g3⟩:jP p1=true∧True∧True:=⟨pL hq,trivial,trivial⟩
     repeat' (first|refine ak (And.intro ht (And.intro g1 (And.intro g2 g3))) ?_|refine an ?_|((first|refine aj (fun K hK => ?_)|refine aq (fun hg=>v1) ?_|refine aq (fun hg=>z1) ?_);and_intros;all_goals first|(refine hK _ ?_;clear hK K)|try exact aa))
     rw [ah]
     refine au 2 ?_ ⟨by omega,by omega,fun _=>i0 (by omega),fun _=>hp,fun q=>absurd q (by omega),fun q=>absurd q (by omega),fun q=>absurd q (by omega)⟩ (by decide)
     refine aE [(1,some 1)] ?_ ?_
     and_intros
     all_goals first|exact aw|skip
    ·have g1:(!jP p1)=true:=by rw [pN (m:=⟨w,h,true,color,p0,p1,p2,p3,p4⟩) rfl hp];rfl
     repeat' (first|refine ak (And.intro ht g1) ?_|refine an ?_|((first|refine aj (fun K hK => ?_)|refine aq (fun hg=>v1) ?_|refine aq (fun hg=>z1) ?_);and_intros;all_goals first|(refine hK _ ?_;clear hK K)|try exact aa)|(refine ai ?_;(try clear hB KB);(try clear hK K)))
     refine congrArg (fun v=>SV.b (B v)) (Eq.symm ?_)
     exact bK (m:=⟨w,h,true,color,p0,p1,p2,p3,p4⟩) (p:=p1) (by simp) hp
   ·by_cases hp:aO ⟨w,h,true,color,p0,p1,p2,p3,p4⟩ p2=true
    ·have hq:=(ja rfl).1 hp
     obtain ⟨g1,g2,g3⟩:jP p2=true∧True∧True:=⟨pL hq,trivial,trivial⟩
     repeat' (first|refine ak (And.intro ht (And.intro g1 (And.intro g2 g3))) ?_|refine an ?_|((first|refine aj (fun K hK => ?_)|refine aq (fun hg=>v2) ?_|refine aq (fun hg=>z2) ?_);and_intros;all_goals first|(refine hK _ ?_;clear hK K)|try exact aa))
     rw [ah]
     refine au 3 ?_ ⟨by omega,by omega,fun _=>i0 (by omega),fun _=>i1 (by omega),fun _=>hp,fun q=>absurd q (by omega),fun q=>absurd q (by omega)⟩ (by decide)
     refine aE [(1,some 1)] ?_ ?_
     and_intros
     all_goals first|exact aw|skip
    ·have g1:(!jP p2)=true:=by rw [pN (m:=⟨w,h,true,color,p0,p1,p2,p3,p4⟩) rfl hp];rfl
     repeat' (first|refine ak (And.intro ht g1) ?_|refine an ?_|((first|refine aj (fun K hK => ?_)|refine aq (fun hg=>v2) ?_|refine aq (fun hg=>z2) ?_);and_intros;all_goals first|(refine hK _ ?_;clear hK K)|try exact aa)|(refine ai ?_;(try clear hB KB);(try clear hK K)))
     refine congrArg (fun v=>SV.b (B v)) (Eq.symm ?_)
     exact bK (m:=⟨w,h,true,color,p0,p1,p2,p3,p4⟩) (p:=p2) (by simp) hp
   ·by_cases hp:aO ⟨w,h,true,color,p0,p1,p2,p3,p4⟩ p3=true
    ·have hq:=(ja rfl).1 hp
     obtain ⟨g1,g2,g3⟩:jP p3=true∧True∧True:=⟨pL hq,trivial,trivial⟩
     repeat' (first|refine ak (And.intro ht (And.intro g1 (And.intro g2 g3))) ?_|refine an ?_|((first|refine aj (fun K hK => ?_)|refine aq (fun hg=>v3) ?_|refine aq (fun hg=>z3) ?_);and_intros;all_goals first|(refine hK _ ?_;clear hK K)|try exact aa))
     rw [ah]
     refine au 4 ?_ ⟨by omega,by omega,fun _=>i0 (by omega),fun _=>i1 (by omega),fun _=>i2 (by omega),fun _=>hp,fun q=>absurd q (by omega)⟩ (by decide)
     refine aE [(1,some 1)] ?_ ?_
     and_intros
     all_goals first|exact aw|skip
    ·have g1:(!jP p3)=true:=by rw [pN (m:=⟨w,h,true,color,p0,p1,p2,p3,p4⟩) rfl hp];rfl
     repeat' (first|refine ak (And.intro ht g1) ?_|refine an ?_|((first|refine aj (fun K hK => ?_)|refine aq (fun hg=>v3) ?_|refine aq (fun hg=>z3) ?_);and_intros;all_goals first|(refine hK _ ?_;clear hK K)|try exact aa)|(refine ai ?_;(try clear hB KB);(try clear hK K)))
     refine congrArg (fun v=>SV.b (B v)) (Eq.symm ?_)
     exact bK (m:=⟨w,h,true,color,p0,p1,p2,p3,p4⟩) (p:=p3) (by simp) hp
   ·by_cases hp:aO ⟨w,h,true,color,p0,p1,p2,p3,p4⟩ p4=true
    ·have hq:=(ja rfl).1 hp
     obtain ⟨g1,g2,g3⟩:jP p4=true∧True∧True:=⟨pL hq,trivial,trivial⟩
     repeat' (first|refine ak (And.intro ht (And.intro g1 (And.intro g2 g3))) ?_|refine an ?_|((first|refine aj (fun K hK => ?_)|refine aq (fun hg=>v4) ?_|refine aq (fun hg=>z4) ?_);and_intros;all_goals first|(refine hK _ ?_;clear hK K)|try exact aa))
     rw [ah]
     refine au 5 ?_ ⟨by omega,by omega,fun _=>i0 (by omega),fun _=>i1 (by omega),fun _=>i2 (by omega),fun _=>i3 (by omega),fun _=>hp⟩ (by decide)
     refine aE [(1,some 1)] ?_ ?_
     and_intros
     all_goals first|exact aw|skip
    ·have g1:(!jP p4)=true:=by rw [pN (m:=⟨w,h,true,color,p0,p1,p2,p3,p4⟩) rfl hp];rfl
     repeat' (first|refine ak (And.intro ht g1) ?_|refine an ?_|((first|refine aj (fun K hK => ?_)|refine aq (fun hg=>v4) ?_|refine aq (fun hg=>z4) ?_);and_intros;all_goals first|(refine hK _ ?_;clear hK K)|try exact aa)|(refine ai ?_;(try clear hB KB);(try clear hK K)))
     refine congrArg (fun v=>SV.b (B v)) (Eq.symm ?_)
     exact bK (m:=⟨w,h,true,color,p0,p1,p2,p3,p4⟩) (p:=p4) (by simp) hp
   ·repeat' (first|refine ak ht ?_|refine an ?_|(refine aj (fun K hK => ?_);and_intros;all_goals first|(refine hK _ ?_;clear hK K)|try exact aa)|(refine ai ?_;(try clear hB KB);(try clear hK K)))
    refine congrArg (fun v=>SV.b (B v)) (Eq.symm ?_)
    show eG ⟨w,h,true,color,p0,p1,p2,p3,p4⟩=true
    unfold eG
    dsimp only
    rw [i0 (by omega),i1 (by omega),i2 (by omega),i3 (by omega),i4 (by omega)]
    rfl
end Go.Proofs.YtcbifofjjpfbcaaGreatDoor
set_option maxHeartbeats 2000000
set_option maxRecDepth 16000
namespace Go.Proofs.YtcbifofjjpfbcaaGreatDoor
open Go Go.SL
open Go.RowKit (wrap64)
theorem qF {m:Image} {mx:Int} (h:ImgV m mx) (hs:m.solid=true):PixV m.color mx:=by
 obtain ⟨a,b,_,_⟩:=hP h.f
 have:=h.p 0 0 (Int.le_refl _) (by omega) (Int.le_refl _) (by omega)
 rw [eF,if_pos hs] at this
 exact this
end Go.Proofs.YtcbifofjjpfbcaaGreatDoor
set_option maxRecDepth 8000
set_option maxHeartbeats 4000000
namespace Go.Proofs.YtcbifofjjpfbcaaGreatDoor
open Go Go.SL
open Go.RowKit (wrap64)
attribute [local go_sem] Int.toNat_natCast
theorem dA {S:Env} {ops:Array Oper} {L:List Oper} {i:Nat} {t r:Tr} {st:St} {K:St→Prop} (h:∀ K':St→Prop,(∀ s,eC S ops L t s K→K' s)→aZ S ops [L.getD i default] st K') (hr:eC S ops L r st K):eC S ops L (.br i t r) st K :=
 ⟨h _ (fun _ h=>h),hr⟩
theorem cj {S:Env} {ops:Array Oper} {L:List Oper} {st:St} {K:St→Prop} (h:K st):eC S ops L .leaf st K:=h
theorem cE {S:Env} {ops:Array Oper} {L:List Oper} {st:St} {K:St→Prop}:eC S ops L .nil st K:=trivial
def Tz (s:Script) (d:Scene):Script := { aD d with bits:=s.bits,canvas:=s.canvas,tileW:=s.tileW,tileH:=s.tileH,order:=s.order,images:=s.images }
def uI (s:Script) (d:Scene):Script:=⟨s.bits,s.canvas,s.tileW,s.tileH,s.order,s.images ++ [s.images.getD 0 default],(aD d).ops⟩
attribute [local go_sem] Tz uI
end Go.Proofs.YtcbifofjjpfbcaaGreatDoor
set_option maxHeartbeats 4000000
set_option maxRecDepth 16000
namespace Go.Proofs.YtcbifofjjpfbcaaGreatDoor
open Go Go.SL
open Go.RowKit (wrap64)
attribute [local go_sem] cH vR cz Int.toNat_natCast bU
theorem VJ:Sg.P.underlying 137=some (.pointer 187):=by kernel_rfl
attribute [local go_sem] VJ
end Go.Proofs.YtcbifofjjpfbcaaGreatDoor
set_option maxHeartbeats 4000000
set_option maxRecDepth 16000
namespace Go.Proofs.YtcbifofjjpfbcaaGreatDoor
open Go Go.SL
open Go.RowKit (wrap64)
attribute [local go_sem] cH Int.toNat_natCast bU
def zm (x:Mic):List PV:=[PI x.op,PI x.kind,PU x.inp.c0,PU x.inp.c1,PU x.inp.c2,PU x.inp.a,PU x.inp.f,PU x.back.c0,PU x.back.c1,PU x.back.c2,PU x.back.a,PU x.back.f,PU x.k,PU x.out.c0,PU x.out.c1,PU x.out.c2,PU x.out.a,PU x.out.f]
end Go.Proofs.YtcbifofjjpfbcaaGreatDoor
set_option maxHeartbeats 8000000
set_option maxRecDepth 16000
namespace Go.Proofs.YtcbifofjjpfbcaaGreatDoor
open Go Go.SL
open Go.RowKit (wrap64)
attribute [local go_sem] Int.toNat_natCast bU zm cH
theorem CU:Sg.ti 117=some (1,false):=by kernel_rfl
theorem Pq:Sg.ti 196=some (1,false):=by kernel_rfl
attribute [local go_sem] CU Pq
def gU:BV := .c (.p (.val (.func (.func 60) #[] #[])))
attribute [local go_sem] gU
end Go.Proofs.YtcbifofjjpfbcaaGreatDoor
