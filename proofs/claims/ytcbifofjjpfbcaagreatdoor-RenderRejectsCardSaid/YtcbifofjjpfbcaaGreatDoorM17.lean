/- Part of the proof: T9, TA, TB, U9, W8, W9. -/
import Derived.Test.YtcbifofjjpfbcaaGreatDoorM14
import Derived.Test.YtcbifofjjpfbcaaGreatDoorM16
set_option linter.unusedSimpArgs false
set_option linter.unusedVariables false
set_option maxHeartbeats 2000000
set_option maxRecDepth 16000
namespace Go.Proofs.YtcbifofjjpfbcaaGreatDoor
open Go Go.SL
open Go.RowKit (wrap64)
section
structure Pt (s:Script) (m x y:Int):Prop where
 V:VOps s
 hm:Full m
 mx:bg s.bits=m
 im:nQ s
 op:∀ o ∈ s.ops,0≤o.opacity
 c:aP s.canvas=false
 xy:ic s.canvas x y
def dS (s:Script) (x y:Int):Pixel:=Zx (bg s.bits) (mJ (bg s.bits) (cY s x y) s.ops [base])
section
variable {s:Script} {m x y:Int}
theorem Pt.z (C:Pt s m x y):SmpV m (cY s x y):=Xy C.hm C.mx C.im
structure At (s:Script) (m:Int) (i:Nat) (st:List Lv):Prop where
 v:IJ m st
 o:st.map Lv.op=(bZ s.ops i).map (aB s.ops) ++ [jx]
theorem EW (C:Pt s m x y) (i:Nat) (hi:i≤s.ops.length):At s m i (jP m (cY s x y) s.ops i):=by
 obtain ⟨h1,h2⟩:=Vz C.hm C.z C.V C.mx C.op i hi;exact ⟨h1,h2⟩
theorem JV (C:Pt s m x y) {i j:Nat} {st:List Lv} (h:At s m i st) (hij:i≤j) (hj:j≤s.ops.length):At s m j (mJ m (cY s x y) (ng s.ops i j) st):=by
 obtain ⟨h1,h2⟩:=JY C.hm C.z C.V C.mx C.op h.v h.o (j - i) (by omega);rw [show i+(j - i)=j by omega] at h1 h2;exact ⟨h1,h2⟩
theorem At.ne {i:Nat} {st:List Lv} (h:At s m i st):∃ t r,st=t :: r:=by
 cases st with
 | nil=>exact h.v.elim
 | cons t r=>grind
theorem At.fit (C:Pt s m x y) {i:Nat} {t:Lv} {r:List Lv} (h:At s m i (t :: r)) (hi:i<s.ops.length) (hk:(aB s.ops i).kind≠3):OpFit m t.op (aB s.ops i):=by
 have hn:=GP C.V C.mx C.op hi h.o;refine hn.1 ?_;rcases C.V.wf.kinds i hi with q|q|q
 ·omega
 ·omega
 omega
theorem At.frame {i:Nat} {t:Lv} {r:List Lv} (h:At s m i (t :: r)) (hk:(aB s.ops i).kind≠3):t.op.isolated=WX s i∧t.op.knockout=koM s i:=by
 have ho:=h.o;unfold WX koM;rw [JU,if_neg hk];cases hs:bZ s.ops i with
 | nil =>
  rw [hs] at ho;grind [tX,aB,Hs,jx]
 | cons p q =>
  grind [tX,aB,Et]
theorem At.repl {i:Nat} {t t':Lv} {r:List Lv} (h:At s m i (t :: r)) (h1:LvV m t') (h2:t'.op=t.op):At s m i (t' :: r) :=
 ⟨h.v.repl h1 h2,by rw [← h.o,List.map_cons,List.map_cons,h2]⟩
theorem At.same {i j:Nat} {st:List Lv} (h:At s m i st) (hs:bZ s.ops j=bZ s.ops i):At s m j st:=⟨h.v,by rw [hs];exact h.o⟩
def Hp (s:Script) (m x y:Int) (i:Nat) (ko:Bool) (a:Acc) (b:Pixel):Pixel :=
 if (aB s.ops i).kind=1 then (cY s x y (aB s.ops i)).1 else NT m (cY s x y) (ng s.ops (i+1) (aN s.ops i)) (aB s.ops i).knockout (eA (aB s.ops i).isolated ko a b)
theorem LV (C : Pt s m x y) {i : Nat} (hi : i < s.ops.length) (hk : (aB s.ops i).kind ≠ 3) {ko : Bool} {a : Acc} {b : Pixel} :
  mb m (cY s x y) (ng s.ops i (aN s.ops i+1)) ko a b=cT ko (aB s.ops i).operator (aB s.ops i).mode m (aM m (aB s.ops i) (Hp s m x y i ko a b) (cY s x y (aB s.ops i)).2) a b:=by
 have W:=C.V.wf;unfold Hp;rcases W.kinds i hi with h|h|h
 ·grind [ng,iH,uP,Kb]
 ·grind [ng,Qw,RP,SE,zX]
 omega
theorem DC (C : Pt s m x y) {i : Nat} (hi : i < s.ops.length) (hk : (aB s.ops i).kind ≠ 3) (t : Lv) (r : List Lv) :
  mJ m (cY s x y) (ng s.ops i (aN s.ops i+1)) (t :: r) = { t with acc:=mb m (cY s x y) (ng s.ops i (aN s.ops i+1)) t.op.knockout t.acc t.back } :: r:=Bc (Kc C.V.wf hi hk) t r
end
end
section
section
variable {s:Script} {m x y:Int}
theorem BE {o:Op} {k:Int} (hm:Full m):aM m o bQ k=bQ:=by grind [aM,pU]
theorem CI {o:Op} {p:Pixel} (hm:Full m) (h:o.mask≠0):aM m o p 0=bQ:=by grind [aM,vY,pU]
theorem Fl {o:Op} {p:Pixel} {k:Int} (hm:Full m) (h:o.opacity=0):aM m o p k=bQ:=by grind [aM,vY]
theorem sL (C : Pt s m x y) {i : Nat} (hi : i < s.ops.length) (hk : (aB s.ops i).kind ≠ 3) :
  ((aB s.ops i).kind=1→0≤(aB s.ops i).image∧(aB s.ops i).image<s.images.length)∧0≤(aB s.ops i).mask∧(aB s.ops i).mask≤s.images.length ∧
   (-1048576≤(aB s.ops i).x∧(aB s.ops i).x≤1048576)∧(-1048576≤(aB s.ops i).y∧(aB s.ops i).y≤1048576)∧(-1048576≤(aB s.ops i).maskX∧(aB s.ops i).maskX≤1048576)∧(-1048576≤(aB s.ops i).maskY∧(aB s.ops i).maskY≤1048576):=by
 obtain ⟨_,_,_,g⟩:=ee.1 (C.V.ok i hi);grind [cj]
theorem Qb (C : Pt s m x y) {i : Nat} (hi : i < s.ops.length) (hk : (aB s.ops i).kind ≠ 3) (h0 : (aB s.ops i).mask ≠ 0) :
  ((aP (cr s (aB s.ops i))=false∧ic (cr s (aB s.ops i)) x y)→(gV s ((aB s.ops i).mask - 1)).solid=true→(cY s x y (aB s.ops i)).2=(gV s ((aB s.ops i).mask - 1)).color.a) ∧
   (¬ (aP (cr s (aB s.ops i))=false∧ic (cr s (aB s.ops i)) x y)→(cY s x y (aB s.ops i)).2=0):=by
 obtain ⟨_,b1,b2,_,_,b5,b6⟩:=sL C hi hk;have hI:=C.im ((aB s.ops i).mask - 1) (by omega) (by omega);have e:cr s (aB s.ops i)=eC s ((aB s.ops i).mask - 1) (aB s.ops i).maskX (aB s.ops i).maskY:=if_neg h0;have hp:=zc (i:=(aB s.ops i).mask - 1) C.c C.xy (by omega) (by omega) hI.f b5 b6;have e2:(cY s x y (aB s.ops i)).2=(gr (gV s ((aB s.ops i).mask - 1)) x y (aB s.ops i).maskX (aB s.ops i).maskY).a:=if_pos (by omega);rw [e,e2,hp];refine ⟨fun h hs => ?_,fun h => ?_⟩
 ·rw [Gi hI.f h,eZ,if_pos hs]
 ·rw [CY h];rfl
theorem MM (C : Pt s m x y) {i : Nat} (hi : i < s.ops.length) (hk : (aB s.ops i).kind = 1) :
  ((aP (bB s (aB s.ops i))=false∧ic (bB s (aB s.ops i)) x y)→(gV s (aB s.ops i).image).solid=true→(cY s x y (aB s.ops i)).1=(gV s (aB s.ops i).image).color) ∧
   (¬ (aP (bB s (aB s.ops i))=false∧ic (bB s (aB s.ops i)) x y)→(cY s x y (aB s.ops i)).1=bQ):=by
 obtain ⟨b0,_,_,b3,b4,_⟩:=sL C hi (by omega);have b0:=b0 hk;have hI:=C.im (aB s.ops i).image b0.1 b0.2;have e:bB s (aB s.ops i)=eC s (aB s.ops i).image (aB s.ops i).x (aB s.ops i).y:=if_pos hk;have hp:=zc (i:=(aB s.ops i).image) C.c C.xy b0.1 b0.2 hI.f b3 b4;have e2:(cY s x y (aB s.ops i)).1=gr (gV s (aB s.ops i).image) x y (aB s.ops i).x (aB s.ops i).y:=if_pos ⟨hk,b0⟩;rw [e,e2,hp];refine ⟨fun h hs => ?_,fun h => ?_⟩
 ·rw [Gi hI.f h,eZ,if_pos hs]
 ·exact CY h
theorem RB {z:Op→Pixel × Int} {ko:Bool} {B:Pixel}:NT m z [] ko B=bQ:=by
 have e:∀ c,iI c c 0 m=0:=fun c=>by grind [iI]
 show bI (oU B) B m=bQ;grind [bI,oU,bQ,iI]
theorem Ap (C : Pt s m x y) {i : Nat} (hi : i < s.ops.length) (hk : (aB s.ops i).kind ≠ 3) (hn : du (aB s.ops i).operator = true) {t : Lv} {r : List Lv} (h : At s m i (t :: r))
  (hz:aM m (aB s.ops i) (Hp s m x y i t.op.knockout t.acc t.back) (cY s x y (aB s.ops i)).2=bQ):mb m (cY s x y) (ng s.ops i (aN s.ops i+1)) t.op.knockout t.acc t.back=t.acc:=by
 rw [LV C hi hk,hz];refine Aa C.hm h.v.head.v hn fun hko => ?_;rcases (h.fit C hi hk).ctx with q|q
 ·exact q
 grind
end
end
section
section
variable {s:Script} {m x y:Int}
theorem Wn (C:Pt s m x y) {i:Nat} (hi:i<s.ops.length) (hk:(aB s.ops i).kind=2) {t:Lv} {r:List Lv} (h:At s m i (t :: r)):At s m (i+1) (ma (aB s.ops i) t :: t :: r):=by
 have h2:=JV C h (show i≤i+1 by omega) (by omega);rw [uP hi,kQ,nA hk] at h2;exact h2
end
end
section
attribute [local go_sem] cO
theorem PixV.pre {p:Pixel} {m:Int} (h:PixV p m):Pre p.c0 p.a m∧Pre p.c1 p.a m∧Pre p.c2 p.a m:=⟨⟨h.n0,h.l0,h.am⟩,⟨h.n1,h.l1,h.am⟩,⟨h.n2,h.l2,h.am⟩⟩
theorem AccV.pre {x:Acc} {b:Pixel} {m:Int} (h:AccV x b m):Pre x.c0 x.a m∧Pre x.c1 x.a m∧Pre x.c2 x.a m:=⟨⟨h.n0,h.l0,h.am⟩,⟨h.n1,h.l1,h.am⟩,⟨h.n2,h.l2,h.am⟩⟩
theorem QA (ko : Bool) (op mode m : Int) (s : Pixel) (x : Acc) (b : Pixel) (hm : Full m) (ho : 1 ≤ op ∧ op ≤ 12) (hmo : 1 ≤ mode ∧ mode ≤ 12) (hs : PixV s m) (hx : AccV x b m) (hk : ko = true → op = 4) :
  aA Sg 193 [B ko,I op,I mode,U m,ag (aS s),ag (cO x),ag (aS b)] (fun r=>r = .tup [ag (cO (cT ko op mode m s x b)),B true]):=by
 have hi:=pE op;rw [lK ho] at hi;have hi2:=lB mode;rw [lK hmo] at hi2;have hva:=pR x b m hm hx;have hvp:=fW s m;rw [jy hs] at hvp;have hsh:=JO op s.f x.f m hm hs.f0 hs.fm hx.f0 hx.fm;obtain ⟨s1,s2,s3⟩:=hs.pre;obtain ⟨x1,x2,x3⟩:=hx.pre;obtain ⟨b1,b2,b3⟩:=hx.bk.pre;have htt:True:=trivial;cases ko
 ·have c1:=vy op mode m s.c0 s.a x.c0 x.a hm ho hmo s1 x1;have c2:=vy op mode m s.c1 s.a x.c1 x.a hm ho hmo s2 x2;have c3:=vy op mode m s.c2 s.a x.c2 x.a hm ho hmo s3 x3;have a1:=Dc op s.a x.a m hm ho hs.a0 hs.am hx.a0 hx.am;have a2:=Dc op s.a x.own m hm ho hs.a0 hs.am hx.o0 hx.om;rw [show cT false op mode m s x b=⟨dN op mode m s.c0 s.a x.c0 x.a,dN op mode m s.c1 s.a x.c1 x.a,dN op mode m s.c2 s.a x.c2 x.a,dP op s.a x.a m,dP op s.a x.own m,fk op s.f x.f m⟩ from rfl];generalize dN op mode m s.c0 s.a x.c0 x.a=y1 at *
  generalize dN op mode m s.c1 s.a x.c1 x.a=y2 at *
  generalize dN op mode m s.c2 s.a x.c2 x.a=y3 at *
  generalize dP op s.a x.a m=y4 at *
  generalize dP op s.a x.own m=y5 at *
  generalize fk op s.f x.f m=y6 at *
  refine aD Tryz.func193 [.cell 14 147, .tmp 15] ?_;repeat' (first|refine ah htt ?_|refine ax ?_|refine an (fun K hK => ?_)|refine aa (hi) ?_|refine aw (fun hg=>hi2) ?_|refine aw (fun hg=>hva) ?_|refine aw (fun hg=>hvp) ?_|refine aa (hsh) ?_|(refine aq hK ?_;try clear hK K))
  refine aH (X:=Int) (fun i=>aT [(0, .b (B false)),(1, .b (I op)),(2, .b (I mode)),(3, .b (U m)),(11, .b (.c (.ptr 0 0))),(12, .b (.c (.ptr 1 0))),(13, .b (.c (.ptr 2 0))),(14, .b (.c (.ptr 3 0))),(16, .b (.c (.ptr 4 0))),(17, .b (I i))]
   [(0, .fix ((aS s).map CV.p)),(1, .fix ((cO x).map CV.p)),(2, .fix ((aS b).map CV.p)),(3, .fix ((cO sy).map CV.p)),(4, .fix [.p (PU (if 0<i then y1 else 0)), .p (PU (if 1<i then y2 else 0)), .p (PU (if 2<i then y3 else 0)), .p (PU 0), .p (PU 0), .p (PU y6)])] 5) (fun i=>0≤i∧i≤3) (fun i=>(3 - i).toNat) 0 ?_ ?_ ?_
  ·omega
  ·refine au [(1,some 1),(2,some 2),(3,some 3),(4,some 4)] ?_ ?_;and_intros;all_goals try exact aj
  ·intro i hi';have hiv:i=0∨i=1∨i=2∨i=3:=by omega
   rcases hiv with rfl|rfl|rfl|rfl
   ·repeat' (first|refine ah htt ?_|refine ax ?_|refine an (fun K hK => ?_)|refine aa (c1) ?_|(refine aq hK ?_;try clear hK K))
    rw [ae];refine ak 1 ?_ (by omega) (by decide);refine au [(1,some 1),(2,some 2),(3,some 3),(4,some 4)] ?_ ?_;and_intros;all_goals try exact aj
   ·repeat' (first|refine ah htt ?_|refine ax ?_|refine an (fun K hK => ?_)|refine aa (c2) ?_|(refine aq hK ?_;try clear hK K))
    rw [ae];refine ak 2 ?_ (by omega) (by decide);refine au [(1,some 1),(2,some 2),(3,some 3),(4,some 4)] ?_ ?_;and_intros;all_goals try exact aj
   ·repeat' (first|refine ah htt ?_|refine ax ?_|refine an (fun K hK => ?_)|refine aa (c3) ?_|(refine aq hK ?_;try clear hK K))
    rw [ae];refine ak 3 ?_ (by omega) (by decide);refine au [(1,some 1),(2,some 2),(3,some 3),(4,some 4)] ?_ ?_;and_intros;all_goals try exact aj
   ·repeat' (first|refine ah htt ?_|refine ax ?_|refine an (fun K hK => ?_)|refine aa (a1) ?_|refine aa (a2) ?_|(refine aq hK ?_;try clear hK K))
    rfl
 ·obtain rfl:=hk rfl;have c1:=sJ mode m s.c0 s.a s.f x.c0 b.c0 b.a hm hmo s1 b1 hs.af hs.fm hx.n0 (Int.le_trans hx.l0 hx.am);have c2:=sJ mode m s.c1 s.a s.f x.c1 b.c1 b.a hm hmo s2 b2 hs.af hs.fm hx.n1 (Int.le_trans hx.l1 hx.am);have c3:=sJ mode m s.c2 s.a s.f x.c2 b.c2 b.a hm hmo s3 b3 hs.af hs.fm hx.n2 (Int.le_trans hx.l2 hx.am);have a1:=yz m s.a s.f x.a b.a hm hs.a0 hs.af hs.fm hx.a0 hx.am hx.bk.a0 hx.bk.am;have a2:=Hz m s.a s.f x.own hm hs.a0 hs.af hs.fm hx.o0 hx.om;rw [show cT true 4 mode m s x b=⟨dE mode m s.c0 s.a s.f x.c0 b.c0 b.a,dE mode m s.c1 s.a s.f x.c1 b.c1 b.a,dE mode m s.c2 s.a s.f x.c2 b.c2 b.a,dA m s.a s.f x.a b.a,dA m s.a s.f x.own 0,fk 4 s.f x.f m⟩ from rfl];generalize dE mode m s.c0 s.a s.f x.c0 b.c0 b.a=y1 at *
  generalize dE mode m s.c1 s.a s.f x.c1 b.c1 b.a=y2 at *
  generalize dE mode m s.c2 s.a s.f x.c2 b.c2 b.a=y3 at *
  generalize dA m s.a s.f x.a b.a=y4 at *
  generalize dA m s.a s.f x.own 0=y5 at *
  generalize fk 4 s.f x.f m=y6 at *
  refine aD Tryz.func193 [.cell 14 147, .tmp 15] ?_;repeat' (first|refine ah htt ?_|refine ax ?_|refine an (fun K hK => ?_)|refine aa (hi) ?_|refine aw (fun hg=>hi2) ?_|refine aw (fun hg=>hva) ?_|refine aw (fun hg=>hvp) ?_|refine aa (hsh) ?_|(refine aq hK ?_;try clear hK K))
  refine aH (X:=Int) (fun i=>aT [(0, .b (B true)),(1, .b (I 4)),(2, .b (I mode)),(3, .b (U m)),(11, .b (.c (.ptr 0 0))),(12, .b (.c (.ptr 1 0))),(13, .b (.c (.ptr 2 0))),(14, .b (.c (.ptr 3 0))),(16, .b (.c (.ptr 4 0))),(17, .b (I i))]
   [(0, .fix ((aS s).map CV.p)),(1, .fix ((cO x).map CV.p)),(2, .fix ((aS b).map CV.p)),(3, .fix ((cO sy).map CV.p)),(4, .fix [.p (PU (if 0<i then y1 else 0)), .p (PU (if 1<i then y2 else 0)), .p (PU (if 2<i then y3 else 0)), .p (PU 0), .p (PU 0), .p (PU y6)])] 5) (fun i=>0≤i∧i≤3) (fun i=>(3 - i).toNat) 0 ?_ ?_ ?_
  ·omega
  ·refine au [(1,some 1),(2,some 2),(3,some 3),(4,some 4)] ?_ ?_;and_intros;all_goals try exact aj
  ·intro i hi';have hiv:i=0∨i=1∨i=2∨i=3:=by omega
   rcases hiv with rfl|rfl|rfl|rfl
   ·repeat' (first|refine ah htt ?_|refine ax ?_|refine an (fun K hK => ?_)|refine aa (c1) ?_|(refine aq hK ?_;try clear hK K))
    rw [ae];refine ak 1 ?_ (by omega) (by decide);refine au [(1,some 1),(2,some 2),(3,some 3),(4,some 4)] ?_ ?_;and_intros;all_goals try exact aj
   ·repeat' (first|refine ah htt ?_|refine ax ?_|refine an (fun K hK => ?_)|refine aa (c2) ?_|(refine aq hK ?_;try clear hK K))
    rw [ae];refine ak 2 ?_ (by omega) (by decide);refine au [(1,some 1),(2,some 2),(3,some 3),(4,some 4)] ?_ ?_;and_intros;all_goals try exact aj
   ·repeat' (first|refine ah htt ?_|refine ax ?_|refine an (fun K hK => ?_)|refine aa (c3) ?_|(refine aq hK ?_;try clear hK K))
    rw [ae];refine ak 3 ?_ (by omega) (by decide);refine au [(1,some 1),(2,some 2),(3,some 3),(4,some 4)] ?_ ?_;and_intros;all_goals try exact aj
   ·repeat' (first|refine ah htt ?_|refine ax ?_|refine an (fun K hK => ?_)|refine aa (a1) ?_|refine aa (a2) ?_|(refine aq hK ?_;try clear hK K))
    rfl
end
section
attribute [local go_sem] qE
theorem Na {x d : Int} (hx : 0 ≤ x) (hd : 0 < d) :
  x / d / 18446744073709551616=x / 18446744073709551616 / d∧x / d % 18446744073709551616=(x / 18446744073709551616 % d * 18446744073709551616+x % 18446744073709551616) / d∧x % d=(x / 18446744073709551616 % d * 18446744073709551616+x % 18446744073709551616) % d:=by
 have e1:=Int.mul_ediv_add_emod (x / 18446744073709551616) d;have e2:=Int.mul_ediv_add_emod (x / 18446744073709551616 % d * 18446744073709551616+x % 18446744073709551616) d;have a0:=Int.emod_nonneg (x / 18446744073709551616) (show d≠0 by omega);have a1:=Int.emod_lt_of_pos (x / 18446744073709551616) hd;have b0:=Int.emod_nonneg (x / 18446744073709551616 % d * 18446744073709551616+x % 18446744073709551616) (show d≠0 by omega);have b1:=Int.emod_lt_of_pos (x / 18446744073709551616 % d * 18446744073709551616+x % 18446744073709551616) hd;have c0:0≤(x / 18446744073709551616 % d * 18446744073709551616+x % 18446744073709551616) / d:=Int.ediv_nonneg (by omega) (by omega);have c1:(x / 18446744073709551616 % d * 18446744073709551616+x % 18446744073709551616) / d<18446744073709551616:=(Int.ediv_lt_iff_lt_mul hd).2 (by omega);generalize (x / 18446744073709551616 % d * 18446744073709551616+x % 18446744073709551616) / d=D at *
 generalize (x / 18446744073709551616 % d * 18446744073709551616+x % 18446744073709551616) % d=R at *
 generalize x / 18446744073709551616 / d=H at *
 have ex:x=d * (H * 18446744073709551616+D)+R:=by
  have:d * (H * 18446744073709551616+D)=d * H * 18446744073709551616+d * D:=by rw [Int.mul_add,Int.mul_assoc]
  omega
 have q1:x / d=H * 18446744073709551616+D:=by rw [ex,Int.mul_add_ediv_left _ _ (by omega),Int.ediv_eq_zero_of_lt b0 b1,Int.add_zero]
 have q2:x % d=R:=by rw [ex,Int.mul_add_emod_self_left,Int.emod_eq_of_lt b0 b1]
 rw [q1];exact ⟨by omega,by omega,q2⟩
theorem wV (x d:Int) (hx:Q128 x) (hd:0<d) (hdu:d<18446744073709551616):aA Sg 230 [ag (qE x),cm d] (fun r=>r = .tup [ag (qE (x / d)),cm (x % d),B true]):=by
 have ⟨q1,q2⟩:=rN hx;have hr0:=Int.emod_nonneg (x / 18446744073709551616) (show d≠0 by omega);have hr1:=Int.emod_lt_of_pos (x / 18446744073709551616) hd;have h1:=LZ (x / 18446744073709551616 % d) (x % 18446744073709551616) d hr0 hr1 hdu q2;obtain ⟨l1,l2,l3⟩:=Na hx.l hd;rw [← l2,← l3] at h1;have g0:(d == 0)=false:=beq_eq_false_iff_ne.2 (by omega);have hq:0≤x / 18446744073709551616 / d:=Int.ediv_nonneg q1.l (by omega);have hq2:x / 18446744073709551616 / d≤x / 18446744073709551616:=Int.ediv_le_self _ q1.l;have hq3:=q1.u;refine aD Tryz.func230 [.cell 4 251, .tmp 5, .tmp 6] ?_;repeat' (first|refine ah g0 ?_|refine ax ?_|refine an (fun K hK => ?_)|refine aa (h1) ?_|(refine aq hK ?_;try clear hK K))
 rw [l1];rfl
end
section
attribute [local go_sem] qE ks
theorem Jk (x:Ex) (h:ExOk x):aA Sg 226 [ag (ks x)] (fun r=>r = .b (B true)):=by
 obtain ⟨p0,p1,q0,q1,r0,r1,d0,d1,_⟩:=h;have g1:decide (x.p / 18446744073709551616<4294967296)=true:=decide_eq_true (by omega);have g2:decide (x.q<70368744177664)=true:=decide_eq_true q1;have g3:decide (x.r<8589934592)=true:=decide_eq_true r1;have g4:decide (x.d≥1)=true:=decide_eq_true d0;refine aD Tryz.func226 [.tmp 2] ?_;repeat' (refine aC ?_)
 rw [g1,g2,g3,g4];rfl
theorem sG (x:Ex) (h:ExS x):aA Sg 229 [ag (ks x)] (fun r=>r = .b (ag (qE (x.q * x.q * x.r)))):=by
 have hs:=sI h;have h1:=kj x.q x.q ⟨h.q0,by have:=h.q1;omega⟩ ⟨h.q0,by have:=h.q1;omega⟩;have h2:=si (x.q * x.q) x.r hs.1 ⟨h.r0,by have:=h.r1;omega⟩ hs.2.2.2 hs.2.1;generalize x.q * x.q * x.r=A at *
 refine aD Tryz.func229 [.cell 2 251] ?_;refine ix fun K hK => ?_;refine dz ?_;and_intros;all_goals first|(refine hK _ ?_;clear hK K)|exact ai|skip
 refine fw (id:=1) (.br 0 (.br 1 (.br 2 (.br 3 (.br 5 (.br 6 (.br 4 (.br 7 (.br 8 (.br 9 (.br 10 (.br 11 (.br 12 (.br 13 .leaf .nil) .nil) .nil) .nil) .nil) .nil) (.br 11 (.br 7 (.br 8 (.br 9 (.br 10 (.br 12 (.br 13 .leaf .nil) .nil) .nil) .nil) .nil) .nil) .nil)) (.br 11 (.br 4 (.br 7 (.br 8 (.br 9 (.br 10 (.br 12 (.br 13 .leaf .nil) .nil) .nil) .nil) .nil) .nil) .nil) .nil)) .nil) .nil) .nil) .nil) .nil) .nil) (by decide +kernel) dK (fun K0 hW => ?_);refine (fun (tl:∀ st,Le st (aT [(2, .b (.c (.ptr 1 0))),(3, .b (.c (.ptr 2 0)))] [(1, .fix [.p .any, .p .any]),(2, .fix ((qE A).map CV.p))] 3)→K0 st) => ?_) (fun st hl=>hW st _ hl ?_)
 ·clear hW;repeat' (first|exact cg|(refine cH (fun K' hK' => ?_) ?_)|(refine bJ (tl _ ?_);clear tl)|((first|refine aa (h1) ?_|refine aa (h2) ?_);(try simp (maxSteps:=999999)(disch:=omega) only [go_sem]);and_intros;(all_goals first|(refine hK' _ ?_;clear hK' K')|trivial|omega|exact Nat.le_of_ble_eq_true rfl|exact ai|skip))|(simp (maxSteps:=999999)(disch:=omega) only [go_sem];and_intros;(all_goals first|(refine hK' _ ?_;clear hK' K')|trivial|omega|exact Nat.le_of_ble_eq_true rfl|exact ai|skip)))
  all_goals
   refine au [(1,some 1),(2,some 2)] ?_ ?_;and_intros;all_goals try exact aj
 clear hW;repeat' (refine aC ?_)
 all_goals rfl
theorem JD (x:Ex) (n:Int) (h:ExS x) (hn:Q128 n):aA Sg 233 [ag (ks x),ag (qE n)] (fun r=>r = .b (I (mT x n))):=by
 have hs:=sI h;have hn2:=(rN hn).2;have h1:=sG x h;have h3:=kj (n % 18446744073709551616) (n % 18446744073709551616) hn2 hn2;have h4:=zV (x.q * x.q * x.r) (n % 18446744073709551616 * (n % 18446744073709551616));refine aD Tryz.func233 [.tmp 4] ?_;repeat' (first|(((with_reducible refine bT (id:=3) [] (by decide +kernel) (by decide +kernel) ?_ (fun K hK => ?_));exact dK);(try simp (maxSteps:=999999)(disch:=omega) only [go_sem]);and_intros;(all_goals first|(refine hK _ bG ?_;clear hK K)|exact ai|skip))|refine bU ?_|((first|refine an (fun K hK => ?_)|refine aa (h1) ?_|refine aa (h3) ?_|refine aa (h4) ?_);and_intros;all_goals first|(refine hK _ ?_;clear hK K)|try exact ai)|(refine aK (fun hb => ?_) (fun hb => ?_);all_goals try exact aE)|(refine ct ?_;(try clear hB KB);(try clear hK K)))
 ·rw [mT,if_pos hb]
 ·refine hK _ bG ?_;clear hK;repeat' (refine aC ?_)
  rw [mT,if_neg (by omega)]
theorem Iz (x:Ex) (h:ExOk x):aA Sg 214 [ag (ks x)] (fun r=>r = .tup [cm (cE x),B true]):=by
 have hv:=Jk x h;obtain ⟨p0,p1,q0,q1,r0,r1,d0,d1,_⟩:=id h;have hES:ExS x:=⟨p0,p1,q0,by omega,r0,r1,by omega,d1⟩
 have hs:=sI hES;have h1:=sG x hES;have h2:=JX (x.q * x.q * x.r) ⟨hs.2.2.1,hs.2.2.2⟩;have hS:=JN (A:=x.q * x.q * x.r) hs.2.2.1 (by have:=hs.2.2.2;exact this);have hfl:=CZ h hS;obtain ⟨_,_,f0,f1⟩:=iG h;have S0:=hS.s0;have S1:vo (fun n=>decide (n * n≤x.q * x.q * x.r)) 64 0<18446744073709551616:=by
  refine Int.not_le.1 fun c => ?_;have:=az c c (by decide) S0;have:=hS.le;have:=hs.2.2.2;omega
 generalize vo (fun n=>decide (n * n≤x.q * x.q * x.r)) 64 0=S at *
 have h3:=UK S ⟨S0,S1⟩;have h4:=rM x.p S p0 S0 (by omega);have h5:=wV (x.p+S) x.d ⟨by omega,by omega⟩ (by omega) d1;rw [← hfl] at h5;generalize cE x=F at *
 have g1:decide (F / 18446744073709551616>0)=false:=decide_eq_false (by omega);have g2:decide (F % 18446744073709551616≥9223372036854775808)=false:=decide_eq_false (by omega);have ht:True:=trivial;generalize x.q * x.q * x.r=A at *
 refine aD Tryz.func214 [.tmp 2, .tmp 3] ?_;repeat' (first|refine ah ht ?_|refine ax ?_|refine an (fun K hK => ?_)|refine aa (hv) ?_|(refine aq hK ?_;try clear hK K))
 refine fw (id:=3) (.br 0 (.br 1 (.br 2 (.br 3 (.br 4 (.br 5 (.br 6 (.br 7 (.br 8 (.br 9 (.br 10 (.br 11 (.br 12 .leaf .nil) .nil) .nil) .nil) .nil) .nil) (.br 10 (.br 6 (.br 7 (.br 8 (.br 9 (.br 11 (.br 12 .leaf .nil) .nil) .nil) .nil) .nil) .nil) .nil)) (.br 10 (.br 5 (.br 6 (.br 7 (.br 8 (.br 9 (.br 11 (.br 12 .leaf .nil) .nil) .nil) .nil) .nil) .nil) .nil) .nil)) (.br 10 (.br 4 (.br 5 (.br 6 (.br 7 (.br 8 (.br 9 (.br 11 (.br 12 .leaf .nil) .nil) .nil) .nil) .nil) .nil) .nil) .nil) .nil)) (.br 10 (.br 3 (.br 4 (.br 5 (.br 6 (.br 7 (.br 8 (.br 9 (.br 11 (.br 12 .leaf .nil) .nil) .nil) .nil) .nil) .nil) .nil) .nil) .nil) .nil)) .nil) .nil) .nil) (by decide +kernel) dK (fun K0 hW => ?_);refine (fun (tl:∀ st,Le st (aT [(1, .b (.c (.ptr 0 0))),(4, .b (.c (.ptr 1 0)))] [(0, .fix ((ks x).map CV.p)),(1, .fix ((qE (x.p+S)).map CV.p))] 2)→K0 st) => ?_) (fun st hl=>hW st _ hl ?_)
 ·clear hW;repeat' (first|exact cg|(refine cH (fun K' hK' => ?_) ?_)|(refine bJ (tl _ ?_);clear tl)|((first|refine aa (h1) ?_|refine aa (h2) ?_|refine aa (h3) ?_|refine aa (h4) ?_);(try simp (maxSteps:=999999)(disch:=omega) only [go_sem]);and_intros;(all_goals first|(refine hK' _ ?_;clear hK' K')|trivial|omega|exact Nat.le_of_ble_eq_true rfl|exact ai|skip))|(simp (maxSteps:=999999)(disch:=omega) only [go_sem];and_intros;(all_goals first|(refine hK' _ ?_;clear hK' K')|trivial|omega|exact Nat.le_of_ble_eq_true rfl|exact ai|skip)))
  all_goals
   refine au [(1,some 1)] ?_ ?_;and_intros;all_goals try exact aj
 clear hW;repeat' (first|refine ah (And.intro g1 g2) ?_|refine ax ?_|refine an (fun K hK => ?_)|refine aa (h5) ?_|(refine aq hK ?_;try clear hK K))
 rw [show F % 18446744073709551616=F by omega]
end
end Go.Proofs.YtcbifofjjpfbcaaGreatDoor
