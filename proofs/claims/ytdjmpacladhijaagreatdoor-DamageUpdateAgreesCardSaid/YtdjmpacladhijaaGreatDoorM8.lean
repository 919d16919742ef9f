/- Part of the proof: F4, F15, U1. -/
import Derived.Test.YtdjmpacladhijaaGreatDoorM7
set_option linter.unusedSimpArgs false
set_option linter.unusedVariables false
set_option maxRecDepth 16000
set_option maxHeartbeats 2000000
namespace Go.Proofs.YtdjmpacladhijaaGreatDoor
open Go Go.SL
open Go.RowKit (wrap64)
def uX (r:Row) (m:Int) (i:Nat):Pixel :=
 let k:=if 0<r.l.length then i % r.l.length else i
 Ay (if k<r.l.length then r.l.getD k default else ⟨0,0,0,0,0⟩) m
def uq (r:Row) (m:Int) (i:Nat):Pixel :=
 if r.mood % 6=0 then ⟨0,0,0,0,0⟩
 else if r.mood % 6=1 then { uX r m i with a:=m,f:=m }
 else if r.mood % 6=2 then uX r m 0 else uX r m i
def aY (r:Row) (n:Nat) (m:Int):List Pixel:=(List.range n).map (uq r m)
structure RowOk (r:Row):Prop where
 mood:i64 r.mood
 l:∀ i,i<r.l.length→N5ok (r.l.getD i default)
 len:r.l.length≤4611686018427387904
set_option maxHeartbeats 4000000 in
theorem oe (r : Row) (n m : Int) (hr : RowOk r) (hn : 0 ≤ n) (hn2 : n ≤ 1000000) (hm : u16 m) :
  aB Sg 12 [ag (CD r),I n,U m] (fun x=>x = .b (.c (.p (lM (aY r n.toNat m))))):=by
 obtain ⟨⟨a1,a2⟩,hl,hlen⟩:=hr;refine az Tryz.func12 [.tmp 6] ?_;repeat' (refine aC ?_)
 refine aK (X:=Nat) (fun i=>aP [(1, .b (I n)),(2, .b (U m)),(3, .b (.c (.ptr 0 0))),(7, .b (.c (.own 1 i))),(8, .b (I i))]
  [(0, .fix ((CD r).map CV.p)),(1, .arr 43 5 i (aQ aU (aY r i m)))] 2) (fun i=>(i:Int)≤n) (fun i=>n.toNat - i) 0 ?_ ?_ ?_
 ·omega
 ·refine ar [(1,none)] ?_ ?_;and_intros;all_goals try exact ak
 ·intro i hi;have hk:(if (r.l.length:Int)>0 then (i:Int) % r.l.length else i)=((if 0<r.l.length then i % r.l.length else i:Nat):Int):=by split <;> split <;> omega
  repeat' (first|refine aw ?_|refine an (fun K hK => ?_)|(apply dC;(case hf=>rfl);(case hc=>exact du);(all_goals first|(intro hb;(try simp only [nR] at hb))|skip))|exact bd|(refine aH (fun hb => ?_) (fun hb => ?_) <;> try exact ax)|(refine aq hK ?_;try clear hK K))
  ·refine FD ?_ ?_ ba (KF (if (if 0<r.l.length then i % r.l.length else i)<r.l.length then r.l.getD (if 0<r.l.length then i % r.l.length else i) default else ⟨0,0,0,0,0⟩) m ?_ hm);try simp (maxSteps:=999999)(disch:=omega) only [go_sem]
   try (refine hK _ ?_;clear hK K)
   rotate_left
   ·simp only [hk,Int.toNat_natCast,Int.ofNat_lt];generalize (if 0<r.l.length then i % r.l.length else i)=k;split <;> rfl
   ·generalize (if 0<r.l.length then i % r.l.length else i)=k;split
    ·exact hl _ (by assumption)
    ·exact ⟨⟨by decide,by decide⟩,⟨by decide,by decide⟩,⟨by decide,by decide⟩,⟨by decide,by decide⟩,⟨by decide,by decide⟩⟩
   rw [← uX];repeat' (first|refine aw ?_|refine an (fun K hK => ?_)|refine aa (bD _ _ (by omega) (by omega)) ?_|(apply dE;(case hf=>rfl);(case hc=>exact du);(all_goals first|(intro hb;(try simp only [nR] at hb))|skip))|exact bd|(refine aq hK ?_;try clear hK K))
   rw [ae];refine ao (i+1) ?_ (by omega) (by omega);refine ar [(1,some 5)] ?_ ?_;and_intros;all_goals try exact ak
   have hlen:(aY r i m).length=i:=by simp [aY]
   have hx:aY r (i+1) m=aY r i m ++ [uq r m i]:=by simp [aY,List.range_succ]
   have key:=fun g hg=>gD (enc:=aU) (xs:=aY r i m) (x:=uq r m i) (s:=5) (g:=g) hg;simp only [hlen,← hx] at key;refine .inr (key _ fun j hj => ?_);have h5:j=0∨j=1∨j=2∨j=3∨j=4:=by omega
   have hp : uq r m i = if r.mood % 6 = 0 then ⟨0, 0, 0, 0, 0⟩ else if r.mood % 6 = 1 then { uX r m i with a := m, f := m }
     else if r.mood % 6=2 then (if (i:Int)>0 then (aY r i m).getD 0 default else uX r m i) else uX r m i:=by
    by_cases h2:r.mood % 6=2
    ·have h0:¬ r.mood % 6=0:=by omega
     have h1:¬ r.mood % 6=1:=by omega
     by_cases hi0:(i:Int)>0
     ·have:(aY r i m).getD 0 default=uq r m 0:=by
       have hi1:0<i:=by omega
       simp [aY,hi1]
      rw [if_neg h0,if_neg h1,if_pos h2,if_pos hi0,this];simp only [uq,if_neg h0,if_neg h1,if_pos h2]
     ·have:i=0:=by omega
      subst this;rw [if_neg h0,if_neg h1,if_pos h2,if_neg hi0];simp only [uq,if_neg h0,if_neg h1,if_pos h2]
    ·simp only [uq,if_neg h2]
   rw [hp];by_cases m0:r.mood % 6=0
   ·simp only [if_pos m0];rcases h5 with rfl|rfl|rfl|rfl|rfl <;> rfl
   ·by_cases m1:r.mood % 6=1
    ·simp only [if_neg m0,if_pos m1];rcases h5 with rfl|rfl|rfl|rfl|rfl <;> rfl
    ·by_cases m2:r.mood % 6=2
     ·by_cases hi0:(i:Int)>0
      ·simp only [if_neg m0,if_neg m1,if_pos m2,if_pos hi0];rcases h5 with rfl|rfl|rfl|rfl|rfl <;> rfl
      ·simp only [if_neg m0,if_neg m1,if_pos m2,if_neg hi0];rcases h5 with rfl|rfl|rfl|rfl|rfl <;> rfl
     ·simp only [if_neg m0,if_neg m1,if_neg m2];rcases h5 with rfl|rfl|rfl|rfl|rfl <;> rfl
  ·have:i=n.toNat:=by omega
   subst this;have hl:(aY r n.toNat m).length=n.toNat:=by simp [aY]
   rw [hl]
def bJ (s:Script):Int :=
 if ¬ (s.bits=8∨s.bits=16) then 1
 else if aM s.canvas=true∨16777216<eM s.canvas∨bu 1048576 [s.canvas.x0,s.canvas.y0]=false then 2
 else if cP s.canvas s.tileW s.tileH=false then 3
 else if gj s.order (bA s.canvas s.tileW s.tileH * cF s.canvas s.tileW s.tileH)=false then 4
 else if 64<s.images.length∨4096<s.ops.length then 5 else 0
theorem nu (r:Rect) (w h:Int):IntKind.i64.wrap (bA r w h * cF r w h)=bA r w h * cF r w h∧0≤bA r w h * cF r w h:=by
 unfold bA cF;by_cases ht:cP r w h=true
 ·rw [if_pos ht,if_pos ht];simp only [cP,Bool.and_eq_true,Bool.not_eq_true',decide_eq_true_eq] at ht;obtain ⟨he,h1,h2,h3,h4⟩:=ht;have hb:=jg (r:=r) (by simp [he]);have b1:0≤(r.x1 - r.x0 - 1) / w:=Int.ediv_nonneg (by omega) (by omega);have b2:(r.x1 - r.x0 - 1) / w≤r.x1 - r.x0 - 1:=Int.ediv_le_self _ (by omega);have c1:0≤(r.y1 - r.y0 - 1) / h:=Int.ediv_nonneg (by omega) (by omega);have c2:(r.y1 - r.y0 - 1) / h≤r.y1 - r.y0 - 1:=Int.ediv_le_self _ (by omega);have hm:((r.x1 - r.x0 - 1) / w+1) * ((r.y1 - r.y0 - 1) / h+1)≤2147483648 * 2147483648:=Int.mul_le_mul (by omega) (by omega) (by omega) (by omega);have hp:0≤((r.x1 - r.x0 - 1) / w+1) * ((r.y1 - r.y0 - 1) / h+1):=Int.mul_nonneg (by omega) (by omega);grind [eK]
 ·rw [if_neg ht,if_neg ht];decide
theorem KU {s:Script} (h1:s.bits=8∨s.bits=16) (h:(aM s.canvas=true∨16777216<eM s.canvas)∨bu 1048576 [s.canvas.x0,s.canvas.y0]=false):bJ s=2:=by grind [bJ]
def sr (s:Script):Prop:=(s.bits=8∨s.bits=16)∧(aM s.canvas=false∧eM s.canvas≤16777216)∧bu 1048576 [s.canvas.x0,s.canvas.y0]=true
theorem qH {s:Script} (h:sr s):¬ (aM s.canvas=true∨16777216<eM s.canvas∨bu 1048576 [s.canvas.x0,s.canvas.y0]=false):=by grind [aM,eM,bu,sr]
theorem Tg {s:Script} (h:sr s) (h3:cP s.canvas s.tileW s.tileH=false):bJ s=3:=by rw [bJ,if_neg (fun q=>q h.1),if_neg (qH h),if_pos h3]
theorem Rq {s:Script} (h:sr s) (h3:cP s.canvas s.tileW s.tileH=true) (h4:gj s.order (IntKind.i64.wrap (bA s.canvas s.tileW s.tileH * cF s.canvas s.tileW s.tileH))=false):bJ s=4:=by
 rw [(nu _ _ _).1] at h4;rw [bJ,if_neg (fun q=>q h.1),if_neg (qH h),if_neg (by grind),if_pos h4]
theorem Et {s:Script} (h:sr s) (h3:cP s.canvas s.tileW s.tileH=true) (h4:gj s.order (IntKind.i64.wrap (bA s.canvas s.tileW s.tileH * cF s.canvas s.tileW s.tileH))=true):bJ s=if 64<s.images.length∨4096<s.ops.length then 5 else 0:=by
 rw [(nu _ _ _).1] at h4;rw [bJ,if_neg (fun q=>q h.1),if_neg (qH h),if_neg (by grind),if_neg (by grind)]
structure ScriptLen (s:Script):Prop where
 order:s.order.length≤4611686018427387904
 images:s.images.length≤4611686018427387904
 ops:s.ops.length≤4611686018427387904
theorem AV (s:Script) (hs:ScriptLen s):aB Sg 79 [ag (ay s)] (fun x=>x = .b (I (bJ s))):=by
 obtain ⟨h1,h2,h3⟩:=hs;refine az Tryz.func79 [.tmp 2] ?_
 repeat' (first|refine aw ?_|((with_reducible refine aX (id:=5) (fun K hW => ?_));(try simp (maxSteps:=999999)(disch:=omega) only [go_sem]);and_intros;all_goals first|(refine hK _ ?_;clear hK K)|try exact ai)|refine an (fun K hK => ?_)|refine aa (gR _) ?_|refine aa (cq _) ?_|refine aA (fun hg=>JP _) ?_|(refine aH (fun hb => ?_) (fun hb => ?_) <;> try exact ax)|(refine aq hK ?_;try clear hK K))
 ·grind [bJ]
 ·refine xL (.c .any) ?_ ?_ trivial ?_ (fun hg => ?_) (fun hg => ?_)
  ·rfl
  ·rfl
  ·exact qS
  ·have hg2:(aM s.canvas || decide (eM s.canvas>16777216))=false:=by simpa using hg
   refine bV ?_;and_intros;all_goals first|(refine hK _ ?_;clear hK K)|exact ai|skip
   refine BJ (args':=[.c (.p (dq [s.canvas.x0,s.canvas.y0]))]) hg ?_ (DR _ (by simp)) ?_ (by trivial) trivial ?_
   ·exact ba
   ·simp (maxSteps:=1000000) (disch:=omega) only [go_sem,fi,fY];refine qJ (gX fun i hi j hj => ?_);have h1:i=0∨i=1:=by omega
    have h2:j=0:=by omega
    subst h2;rcases h1 with rfl|rfl <;> rfl
   refine bV ?_;and_intros;all_goals first|(refine hK _ ?_;clear hK K)|exact ai|skip
   refine hW _ (aP [(1, .b (.c (.ptr 0 0))),(5, .b (.c (.ptr 1 0))),(36, .b (B (aM s.canvas || decide (eM s.canvas>16777216) || !bu 1048576 [s.canvas.x0,s.canvas.y0])))] [(0, .fix ((ay s).map CV.p)),(1, .fix ((aS s.canvas).map CV.p))] 2) ?_ ?_
   ·clear hW;refine ar [(1,some 1)] ?_ ?_;and_intros;all_goals try exact ak
   ·clear hW
    repeat' (first|refine aw ?_|refine an (fun K hK => ?_)|refine aa (qo _ _ _) ?_|refine aa (nH _ _ (by omega)) ?_|(refine aH (fun hb => ?_) (fun hb => ?_) <;> try exact ax)|(refine aq hK ?_;try clear hK K))
    ·grind [KU]
    ·rename_i q;rw [Tg ⟨‹_›,q⟩ hb]
    ·rename_i q1 q2;rw [Rq ⟨‹_›,q1⟩ q2 hb]
    ·rename_i q1 q2 q3;rw [Et ⟨‹_›,q1⟩ q2 q3,if_pos (by omega)]
    ·rename_i q1 q2 q3;rw [Et ⟨‹_›,q1⟩ q2 q3,if_neg (by omega)]
  ·have hg2:(aM s.canvas || decide (eM s.canvas>16777216))=true:=by
    cases h:(aM s.canvas || decide (eM s.canvas>16777216)) with
    | true=>rfl
    | false=>grind
   refine bV ?_;and_intros;all_goals first|(refine hK _ ?_;clear hK K)|exact ai|skip
   refine Df (B (bu 1048576 [s.canvas.x0,s.canvas.y0])) hg trivial ?_;refine bV ?_;and_intros;all_goals first|(refine hK _ ?_;clear hK K)|exact ai|skip
   refine hW _ (aP [(1, .b (.c (.ptr 0 0))),(5, .b (.c (.ptr 1 0))),(36, .b (B (aM s.canvas || decide (eM s.canvas>16777216) || !bu 1048576 [s.canvas.x0,s.canvas.y0])))] [(0, .fix ((ay s).map CV.p)),(1, .fix ((aS s.canvas).map CV.p))] 2) ?_ ?_
   ·clear hW;refine ar [(1,some 1)] ?_ ?_;and_intros;all_goals try exact ak
   ·clear hW
    repeat' (first|refine aw ?_|refine an (fun K hK => ?_)|refine aa (qo _ _ _) ?_|refine aa (nH _ _ (by omega)) ?_|(refine aH (fun hb => ?_) (fun hb => ?_) <;> try exact ax)|(refine aq hK ?_;try clear hK K))
    ·grind [KU]
    ·grind
    ·grind
    ·grind
    grind
abbrev UQ (x:Int):BV := .c (.p (.val (.int .u64 x)))
structure Q64 (n:Int):Prop where
 l:0≤n
 u:n<18446744073709551616
theorem wq (n:Int) (h:Q64 n):IntKind.u64.wrap n=n:=rI h.l (by have:=h.u;omega)
theorem MB {n d:Int} (hn:0≤n) (hd:0<d):0≤cn n d∧cn n d≤n:=by
 refine ⟨fj hd hn,wg hd ?_⟩;have:=Int.mul_le_mul_of_nonneg_right (show 1≤d by omega) hn;omega
def oD (p:Pixel) (m:Int):Bool:=decide (p.c0≤p.a∧p.c1≤p.a∧p.c2≤p.a∧p.a≤p.f∧p.f≤m)
theorem iX {n:Int} (h0:0≤n) (h1:n≤65535):IntKind.u16.wrap n=n:=a5U h0 h1
end Go.Proofs.YtdjmpacladhijaaGreatDoor
