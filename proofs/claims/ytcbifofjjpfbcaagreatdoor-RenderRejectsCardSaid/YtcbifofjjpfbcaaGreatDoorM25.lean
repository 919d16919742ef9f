/- Part of the proof: R1, WN, WP. -/
import Derived.Test.YtcbifofjjpfbcaaGreatDoorM20
import Derived.Test.YtcbifofjjpfbcaaGreatDoorM24
set_option linter.unusedSimpArgs false
set_option linter.unusedVariables false
set_option maxHeartbeats 4000000
set_option maxRecDepth 16000
namespace Go.Proofs.YtcbifofjjpfbcaaGreatDoor
open Go Go.SL
open Go.RowKit (wrap64)
section
structure Fr where
 op:Op
 acc:Nat→Acc
 back:Nat→Pixel
def Fr.col (t:Fr) (j:Nat):Lv:=⟨t.op,t.acc j,t.back j⟩
def yE:Fr:=⟨jx,fun _=>sy,fun _=>bQ⟩
def Aq (m:Int) (o:Op) (p:Nat→Pixel) (t:Fr):Fr:=⟨t.op,fun j=>cT t.op.knockout o.operator o.mode m (p j) (t.acc j) (t.back j),t.back⟩
def jW (o:Op) (t:Fr):Fr:=⟨o,fun j=>(ma o (t.col j)).acc,fun j=>(ma o (t.col j)).back⟩
structure RS where
 st:List Fr
 junk:List Fr
def RS.rows (q:RS):List Fr:=q.st.reverse ++ q.junk
def nS (m:Int) (z:Nat→Op→Pixel × Int) (q:RS) (o:Op):RS :=
 match q.st with
 | []=>q
 | t :: r =>
  if o.kind=1 then ⟨Aq m o (fun j=>aM m o (z j o).1 (z j o).2) t :: r,q.junk⟩
  else if o.kind=2 then ⟨jW o t :: t :: r,[]⟩
  else match r with
   | []=>q
   | u :: r=>⟨Aq m t.op (fun j=>aM m t.op (bI (t.acc j) (t.back j) m) (z j t.op).2) u :: r,t :: q.junk⟩
theorem Ln {m:Int} {z:Nat→Op→Pixel × Int} {q:RS} {o:Op} (j:Nat):(nS m z q o).st.map (fun t=>t.col j)=jG m (z j) (q.st.map fun t=>t.col j) o:=by
 obtain ⟨st,jk⟩:=q;cases st with
 | nil=>rfl
 | cons t r =>
  by_cases h1:o.kind=1
  ·simp only [nS,h1,if_true,List.map_cons,jG];rfl
  by_cases h2:o.kind=2
  ·simp only [nS,h2,if_true,List.map_cons,jG];rfl
  cases r with
  | nil=>simp only [nS,if_neg h1,if_neg h2,List.map_cons,List.map_nil,jG]
  | cons u r=>simp only [nS,if_neg h1,if_neg h2,List.map_cons,jG];rfl
def gS (s:Script) (m:Int) (r:Rect) (z:Nat→Op→Pixel × Int):Nat→RS
 | 0=>⟨[yE],[]⟩
 | i+1=>if gn s r i=true then nS m z (gS s m r z i) (aB s.ops i) else gS s m r z i
section
variable {s:Script} {m:Int} {r:Rect} {z:Nat→Op→Pixel × Int}
theorem Cj {i:Nat}:∀ k,i≤k→(∀ j,i≤j→j<k→gn s r j=false)→gS s m r z k=gS s m r z i
 | 0,h,_=>by rw [show i=0 by omega]
 | k+1,h,hn=>by
  by_cases e:i=k+1
  ·rw [e]
  ·rw [gS,if_neg (by rw [hn k (by omega) (by omega)];simp),Cj k (by omega) fun j h1 h2=>hn j h1 (by omega)]
def Reach (s:Script) (r:Rect) (i:Nat):Prop:=∀ g ∈ bZ s.ops i,fT s r g=true
theorem zp (W:Wf s.ops) {i:Nat} (hi:i<s.ops.length) (hk:(aB s.ops i).kind=3) (h:Reach s r i):gn s r i=true:=by
 rw [rf h];unfold fT;rw [Bo W hi hk];cases hs:bZ s.ops i with
 | nil=>exact absurd hs (W.pops i hi hk)
 | cons p t=>exact h p (by rw [hs];exact List.mem_cons_self ..)
theorem vS (W : Wf s.ops) {i : Nat} (hi : i < s.ops.length) (hk : (aB s.ops i).kind ≠ 3) (h : Reach s r i) (hn : fT s r i = false) :
  i≤aN s.ops i∧aN s.ops i<s.ops.length∧Reach s r (aN s.ops i+1)∧gS s m r z (aN s.ops i+1)=gS s m r z i:=by
 have he:=vF W hi;have hl:=iu W hi;have ha:gn s r i=false:=by rw [rf h];exact hn
 rcases W.kinds i hi with k|k|k
 ·rw [iH W hi k];refine ⟨Nat.le_refl _,hi, ?_, ?_⟩
  ·unfold Reach;rw [dM k];exact h
  ·rw [gS,if_neg (by rw [ha];simp)]
 ·refine ⟨he,hl, ?_,Cj _ (by omega) fun j h1 h2 => ?_⟩
  ·obtain ⟨j,t,q1,q2,q3,q4⟩:=nX W (s.ops.length - (i+1)) (i+1) (by omega) (by rw [dR k];exact List.mem_cons_self ..);have hs2:=lR (l:=[]) q4;rw [ig W q2 q3 q4];unfold Reach;rw [fy q3,q4];have hs2:bZ s.ops i=t:=hs2;rw [List.tail_cons,← hs2];exact h
  ·by_cases e:j=i
   ·rw [e];exact ha
   ·exact Mz W hi k hn (by omega) (by omega)
 ·exact absurd k hk
theorem nC (W:Wf s.ops) {i:Nat} (hi:i<s.ops.length) (h:Reach s r i) (ha:gn s r i=true):Reach s r (i+1) :=
 MA W hi h fun _=>by rw [rf h] at ha;exact ha
theorem Cm {i:Nat} (ha:gn s r i=true):gS s m r z (i+1)=nS m z (gS s m r z i) (aB s.ops i):=by rw [gS,if_pos ha]
end
section
variable {s:Script} {m:Int} {r:Rect}
def sw (s:Script) (m x y:Int) (n:Nat) (q:RS) (i:Nat):Prop:=∀ j,j<n→q.st.map (fun t=>t.col j)=jP m (cY s (x+j) y) s.ops i
def zR (s:Script) (x y:Int):Nat→Op→Pixel × Int:=fun j=>cY s (x+j) y
theorem Ix {x y:Int} {n:Nat} {z:Nat→Op→Pixel × Int}:sw s m x y n (gS s m r z 0) 0:=fun j _=>by
 unfold jP mJ;rw [List.take_zero,List.foldl_nil];rfl
theorem zj {x y:Int} {n i:Nat} (hi:i<s.ops.length) (ha:gn s r i=true) (h:sw s m x y n (gS s m r (zR s x y) i) i):sw s m x y n (gS s m r (zR s x y) (i+1)) (i+1):=fun j hj=>by rw [Cm ha,Ln,h j hj,oZ hi];rfl
theorem Jc {x y : Int} {n i : Nat} (C : ∀ j : Nat, j < n → Pt s m (x + j) y) (hr : aP r = false) (hin : ∀ j : Nat, j < n → ic r (x + j) y) (W : Wf s.ops) (hi : i < s.ops.length) (hk : (aB s.ops i).kind ≠ 3) (hR : Reach s r i) (hn : fT s r i = false)
  (h:sw s m x y n (gS s m r (zR s x y) i) i):sw s m x y n (gS s m r (zR s x y) (aN s.ops i+1)) (aN s.ops i+1):=fun j hj=>by
 rw [(vS W hi hk hR hn).2.2.2,h j hj,QZ (C j hj) hr (hin j hj) hi hk hn]
theorem uT {x y : Int} {n i : Nat} (hn : 0 < n) (C : ∀ j : Nat, j < n → Pt s m (x + j) y) (hi : i ≤ s.ops.length) {q : RS} (h : sw s m x y n q i) :
  q.st.length=(bZ s.ops i).length+1∧q.st.map (fun t=>t.op)=(bZ s.ops i).map (aB s.ops) ++ [jx]:=by
 have h0:=h 0 hn;have ha:=EW (C 0 hn) i hi;have e:q.st.map (fun t=>t.op)=(bZ s.ops i).map (aB s.ops) ++ [jx]:=by
  rw [← ha.o,← h0,List.map_map];exact List.map_congr_left fun t _=>rfl
 refine ⟨?_,e⟩;have:=congrArg List.length e;simpa using this
theorem Em {x y:Int} {n i:Nat} (C:∀ j:Nat,j<n→Pt s m (x+j) y) (hi:i≤s.ops.length) {q:RS} (h:sw s m x y n q i) {j:Nat} (hj:j<n):At s m i (q.st.map fun t=>t.col j):=by
 rw [h j hj];exact EW (C j hj) i hi
theorem KN {x y : Int} {n : Nat} (hn : 0 < n) (C : ∀ j : Nat, j < n → Pt s m (x + j) y) {q : RS} (h : sw s m x y n q s.ops.length) :
  ∃ t,q.st=[t]∧∀ j:Nat,j<n→AccV (t.acc j) (t.back j) m∧bI (t.acc j) (t.back j) m=dS s (x+j) y:=by
 have hl:=(uT hn C (Nat.le_refl _) h).1;rw [(C 0 hn).V.wf.fin] at hl;obtain ⟨st,jk⟩:=q
 match st,hl with
 | [t],_ =>
  refine ⟨t,rfl,fun j hj => ?_⟩;have h1:=h j hj;have hv:=(Em C (Nat.le_refl _) h hj).v.head.v;refine ⟨hv, ?_⟩;have h1:[t.col j]=jP m (cY s (x+j) y) s.ops s.ops.length:=h1;unfold dS;rw [(C j hj).mx];unfold jP at h1;rw [List.take_length] at h1;rw [← h1];rfl
end
end
section
attribute [local go_sem] cO
theorem ze (x:Acc) (b:Pixel) (m:Int) (hm:Full m) (h:AccV x b m):aA Sg 127 [ag (cO x),ag (aS b),U m] (fun r=>r = .b (B true)):=by
 have hvs:=mQ b m;rw [jy h.bk] at hvs;have d0:decide (x.c0>x.a)=false:=decide_eq_false (by have:=h.l0;omega);have d1:decide (x.c1>x.a)=false:=decide_eq_false (by have:=h.l1;omega);have d2:decide (x.c2>x.a)=false:=decide_eq_false (by have:=h.l2;omega);have e0:(m == 255 || m == 65535)=true:=by rcases hm.h with q|q <;> rw [q] <;> rfl
 have e1:decide (x.own≤x.a)=true:=decide_eq_true h.oa;have e2:decide (x.own≤x.f)=true:=decide_eq_true h.of;have e3:decide (x.a≤m)=true:=decide_eq_true h.am;have e4:decide (x.f≤m)=true:=decide_eq_true h.fm;have e5:(b.f == b.a)=true:=beq_iff_eq.2 h.bf;have ht:True:=trivial;refine aD Tryz.func127 [.tmp 6] ?_;repeat' (refine aC ?_)
 refine aH (X:=Int) (fun i=>aT [(2, .b (U m)),(3, .b (.c (.ptr 0 0))),(4, .b (.c (.ptr 1 0))),(10, .b (ag [PU x.c0,PU x.c1,PU x.c2])),(11, .b (I i))] [(0, .fix ((cO x).map CV.p)),(1, .fix ((aS b).map CV.p))] 2) (fun i=>0≤i∧i≤3) (fun i=>(3 - i).toNat) 0 ?_ ?_ ?_
 ·omega
 ·refine au [(1,some 1)] ?_ ?_;and_intros;all_goals try exact aj
 ·intro i hi;rcases yI hi with rfl|rfl|rfl|rfl
  ·repeat' (first|refine ah d0 ?_|refine aC ?_)
   rw [ae];refine ak 1 ?_ (by omega) (by decide);refine au [(1,some 1)] ?_ ?_;and_intros;all_goals try exact aj
  ·repeat' (first|refine ah d1 ?_|refine aC ?_)
   rw [ae];refine ak 2 ?_ (by omega) (by decide);refine au [(1,some 1)] ?_ ?_;and_intros;all_goals try exact aj
  ·repeat' (first|refine ah d2 ?_|refine aC ?_)
   rw [ae];refine ak 3 ?_ (by omega) (by decide);refine au [(1,some 1)] ?_ ?_;and_intros;all_goals try exact aj
  ·repeat' (first|refine ah ht ?_|refine ax ?_|refine an (fun K hK => ?_)|refine aw (fun hg=>hvs) ?_|(refine aq hK ?_;try clear hK K))
   simp only [e0,e1,e2,e3,e4,e5];first|rfl|trivial
theorem Ff (x:Acc) (b:Pixel) (m:Int) (hm:Full m) (h:AccV x b m):aA Sg 90 [ag (cO x),ag (aS b),U m] (fun r=>r = .tup [ag (aS (bI x b m)),B true]):=by
 have hva:=ze x b m hm h;have c0:=qv x.c0 b.c0 x.own m hm h.n0 (Int.le_trans h.l0 h.am) h.bk.n0 (Int.le_trans h.bk.l0 h.bk.am) h.o0 h.om;have c1:=qv x.c1 b.c1 x.own m hm h.n1 (Int.le_trans h.l1 h.am) h.bk.n1 (Int.le_trans h.bk.l1 h.bk.am) h.o0 h.om;have c2:=qv x.c2 b.c2 x.own m hm h.n2 (Int.le_trans h.l2 h.am) h.bk.n2 (Int.le_trans h.bk.l2 h.bk.am) h.o0 h.om;have ht:True:=trivial;unfold bI;generalize iI x.c0 b.c0 x.own m=y0 at *
 generalize iI x.c1 b.c1 x.own m=y1 at *
 generalize iI x.c2 b.c2 x.own m=y2 at *
 refine aD Tryz.func90 [.cell 6 37, .tmp 7] ?_;repeat' (first|refine ah ht ?_|refine ax ?_|refine an (fun K hK => ?_)|refine aa (hva) ?_|(refine aq hK ?_;try clear hK K))
 refine aH (X:=Int) (fun i=>aT [(2, .b (U m)),(3, .b (.c (.ptr 0 0))),(4, .b (.c (.ptr 1 0))),(6, .b (.c (.ptr 2 0))),(8, .b (.c (.ptr 3 0))),(23, .b (ag [PU x.c0,PU x.c1,PU x.c2])),(24, .b (I i))]
  [(0, .fix ((cO x).map CV.p)),(1, .fix ((aS b).map CV.p)),(2, .fix ((aS bQ).map CV.p)),(3, .fix [.p (PU (if 0<i then y0 else 0)), .p (PU (if 1<i then y1 else 0)), .p (PU (if 2<i then y2 else 0)), .p (PU x.own), .p (PU x.f)])] 4)
  (fun i=>0≤i∧i≤3) (fun i=>(3 - i).toNat) 0 ?_ ?_ ?_
 ·omega
 ·refine au [(1,some 1),(2,some 2),(3,some 3)] ?_ ?_;and_intros;all_goals try exact aj
 ·intro i hi;rcases yI hi with rfl|rfl|rfl|rfl
  ·repeat' (first|refine ah ht ?_|(((with_reducible refine iM (id:=7) [] (by decide +kernel) (by decide +kernel) ?_ (fun K hK => ?_));exact dK);(try simp (maxSteps:=999999)(disch:=omega) only [go_sem]);and_intros;(all_goals first|(refine hK _ bG ?_;clear hK K)|exact ai|skip))|refine bU ?_|((first|refine an (fun K hK => ?_)|refine aa (c0) ?_);and_intros;all_goals first|(refine hK _ ?_;clear hK K)|try exact ai))
   refine hK _ trivial ?_;clear hK;repeat' (refine aC ?_)
   rw [ae];refine ak 1 ?_ (by omega) (by decide);refine au [(1,some 1),(2,some 2),(3,some 3)] ?_ ?_;and_intros;all_goals try exact aj
  ·repeat' (first|refine ah ht ?_|(((with_reducible refine iM (id:=7) [] (by decide +kernel) (by decide +kernel) ?_ (fun K hK => ?_));exact dK);(try simp (maxSteps:=999999)(disch:=omega) only [go_sem]);and_intros;(all_goals first|(refine hK _ bG ?_;clear hK K)|exact ai|skip))|refine bU ?_|((first|refine an (fun K hK => ?_)|refine aa (c1) ?_);and_intros;all_goals first|(refine hK _ ?_;clear hK K)|try exact ai))
   refine hK _ trivial ?_;clear hK;repeat' (refine aC ?_)
   rw [ae];refine ak 2 ?_ (by omega) (by decide);refine au [(1,some 1),(2,some 2),(3,some 3)] ?_ ?_;and_intros;all_goals try exact aj
  ·repeat' (first|refine ah ht ?_|(((with_reducible refine iM (id:=7) [] (by decide +kernel) (by decide +kernel) ?_ (fun K hK => ?_));exact dK);(try simp (maxSteps:=999999)(disch:=omega) only [go_sem]);and_intros;(all_goals first|(refine hK _ bG ?_;clear hK K)|exact ai|skip))|refine bU ?_|((first|refine an (fun K hK => ?_)|refine aa (c2) ?_);and_intros;all_goals first|(refine hK _ ?_;clear hK K)|try exact ai))
   refine hK _ trivial ?_;clear hK;repeat' (refine aC ?_)
   rw [ae];refine ak 3 ?_ (by omega) (by decide);refine au [(1,some 1),(2,some 2),(3,some 3)] ?_ ?_;and_intros;all_goals try exact aj
  ·repeat' (first|refine ah ht ?_|refine aC ?_)
   rfl
theorem CN (mode m : Int) (s : Pixel) (x : Acc) (b : Pixel) (hm : Full m) (hmo : 1 ≤ mode ∧ mode ≤ 12) (hs : PixV s m) (hx : AccV x b m) :
  aA Sg 188 [I mode,U m,ag (aS s),ag (cO x),ag (aS b)] (fun r=>r = .tup [ag (cO (cT true 4 mode m s x b)),B true]):=by
 have hsh:=yQ 4 s.f x.f m hm ⟨by decide,by decide⟩ hs.f0 hs.fm hx.f0 hx.fm;obtain ⟨s1,s2,s3⟩:=hs.pre;obtain ⟨b1,b2,b3⟩:=hx.bk.pre;have htt:True:=trivial;have c1:=qz mode m s.c0 s.a s.f x.c0 b.c0 b.a hm hmo s1 b1 hs.af hs.fm hx.n0 (Int.le_trans hx.l0 hx.am);have c2:=qz mode m s.c1 s.a s.f x.c1 b.c1 b.a hm hmo s2 b2 hs.af hs.fm hx.n1 (Int.le_trans hx.l1 hx.am);have c3:=qz mode m s.c2 s.a s.f x.c2 b.c2 b.a hm hmo s3 b3 hs.af hs.fm hx.n2 (Int.le_trans hx.l2 hx.am);have a1:=vI m s.a s.f x.a b.a hm hs.a0 hs.af hs.fm hx.a0 hx.am hx.bk.a0 hx.bk.am;have a2:=Fa m s.a s.f x.own hm hs.a0 hs.af hs.fm hx.o0 hx.om;rw [show cT true 4 mode m s x b=⟨dE mode m s.c0 s.a s.f x.c0 b.c0 b.a,dE mode m s.c1 s.a s.f x.c1 b.c1 b.a,dE mode m s.c2 s.a s.f x.c2 b.c2 b.a,dA m s.a s.f x.a b.a,dA m s.a s.f x.own 0,fk 4 s.f x.f m⟩ from rfl];generalize dE mode m s.c0 s.a s.f x.c0 b.c0 b.a=y1 at *
 generalize dE mode m s.c1 s.a s.f x.c1 b.c1 b.a=y2 at *
 generalize dE mode m s.c2 s.a s.f x.c2 b.c2 b.a=y3 at *
 generalize dA m s.a s.f x.a b.a=y4 at *
 generalize dA m s.a s.f x.own 0=y5 at *
 generalize fk 4 s.f x.f m=y6 at *
 refine aD Tryz.func188 [.cell 10 147, .tmp 11] ?_;repeat' (refine aC ?_)
 refine aH (X:=Int) (fun i=>aT [(0, .b (I mode)),(1, .b (U m)),(7, .b (.c (.ptr 0 0))),(8, .b (.c (.ptr 1 0))),(9, .b (.c (.ptr 2 0))),(10, .b (.c (.ptr 3 0))),(12, .b (.c (.ptr 4 0))),(19, .b (ag [PU x.c0,PU x.c1,PU x.c2])),(20, .b (I i))]
  [(0, .fix ((aS s).map CV.p)),(1, .fix ((cO x).map CV.p)),(2, .fix ((aS b).map CV.p)),(3, .fix ((cO sy).map CV.p)),(4, .fix [.p (PU (if 0<i then y1 else x.c0)), .p (PU (if 1<i then y2 else x.c1)), .p (PU (if 2<i then y3 else x.c2)), .p (PU x.a), .p (PU x.own), .p (PU x.f)])] 5) (fun i=>0≤i∧i≤3) (fun i=>(3 - i).toNat) 0 ?_ ?_ ?_
 ·omega
 ·refine au [(1,some 1),(2,some 2),(3,some 3),(4,some 4)] ?_ ?_;and_intros;all_goals try exact aj
 ·intro i hi';rcases yI hi' with rfl|rfl|rfl|rfl
  ·repeat' (first|refine ah htt ?_|(((with_reducible refine bT (id:=5) [] (by decide +kernel) (by decide +kernel) ?_ (fun K hK => ?_));exact dK);(try simp (maxSteps:=999999)(disch:=omega) only [go_sem]);and_intros;(all_goals first|(refine hK _ bG ?_;clear hK K)|exact ai|skip))|refine bU ?_|((first|refine an (fun K hK => ?_)|refine aa (c1) ?_);and_intros;all_goals first|(refine hK _ ?_;clear hK K)|try exact ai))
   refine hK _ trivial ?_;clear hK;repeat' (first|refine ah htt ?_|refine aC ?_)
   rw [ae];refine ak 1 ?_ (by omega) (by decide);refine au [(1,some 1),(2,some 2),(3,some 3),(4,some 4)] ?_ ?_;and_intros;all_goals try exact aj
  ·repeat' (first|refine ah htt ?_|(((with_reducible refine bT (id:=5) [] (by decide +kernel) (by decide +kernel) ?_ (fun K hK => ?_));exact dK);(try simp (maxSteps:=999999)(disch:=omega) only [go_sem]);and_intros;(all_goals first|(refine hK _ bG ?_;clear hK K)|exact ai|skip))|refine bU ?_|((first|refine an (fun K hK => ?_)|refine aa (c2) ?_);and_intros;all_goals first|(refine hK _ ?_;clear hK K)|try exact ai))
   refine hK _ trivial ?_;clear hK;repeat' (first|refine ah htt ?_|refine aC ?_)
   rw [ae];refine ak 2 ?_ (by omega) (by decide);refine au [(1,some 1),(2,some 2),(3,some 3),(4,some 4)] ?_ ?_;and_intros;all_goals try exact aj
  ·repeat' (first|refine ah htt ?_|(((with_reducible refine bT (id:=5) [] (by decide +kernel) (by decide +kernel) ?_ (fun K hK => ?_));exact dK);(try simp (maxSteps:=999999)(disch:=omega) only [go_sem]);and_intros;(all_goals first|(refine hK _ bG ?_;clear hK K)|exact ai|skip))|refine bU ?_|((first|refine an (fun K hK => ?_)|refine aa (c3) ?_);and_intros;all_goals first|(refine hK _ ?_;clear hK K)|try exact ai))
   refine hK _ trivial ?_;clear hK;repeat' (first|refine ah htt ?_|refine aC ?_)
   rw [ae];refine ak 3 ?_ (by omega) (by decide);refine au [(1,some 1),(2,some 2),(3,some 3),(4,some 4)] ?_ ?_;and_intros;all_goals try exact aj
  ·repeat' (first|refine ah htt ?_|refine ax ?_|refine an (fun K hK => ?_)|refine aa (a1) ?_|refine aa (a2) ?_|refine aa (hsh) ?_|(refine aq hK ?_;try clear hK K))
   rfl
theorem Kr (ko : Bool) (op mode m : Int) (s : Pixel) (x : Acc) (b : Pixel) (hm : Full m) (ho : 1 ≤ op ∧ op ≤ 12) (hmo : 1 ≤ mode ∧ mode ≤ 12) (hs : PixV s m) (hx : AccV x b m) (hk : ko = true → op = 4) :
  aA Sg 171 [B ko,I op,I mode,U m,ag (aS s),ag (cO x),ag (aS b)] (fun r=>r = .tup [ag (cO (cT ko op mode m s x b)),B true]):=by
 have hva:=ze x b m hm hx;have hvp:=mQ s m;rw [jy hs] at hvp;have hsh:=yQ op s.f x.f m hm ho hs.f0 hs.fm hx.f0 hx.fm;obtain ⟨s1,s2,s3⟩:=hs.pre;obtain ⟨x1,x2,x3⟩:=hx.pre;have htt:True:=trivial;cases ko
 ·have c1:=sC op mode m s.c0 s.a x.c0 x.a hm ho hmo s1 x1;have c2:=sC op mode m s.c1 s.a x.c1 x.a hm ho hmo s2 x2;have c3:=sC op mode m s.c2 s.a x.c2 x.a hm ho hmo s3 x3;have a1:=yZ op s.a x.a m hm ho hs.a0 hs.am hx.a0 hx.am;have a2:=yZ op s.a x.own m hm ho hs.a0 hs.am hx.o0 hx.om;rw [show cT false op mode m s x b=⟨dN op mode m s.c0 s.a x.c0 x.a,dN op mode m s.c1 s.a x.c1 x.a,dN op mode m s.c2 s.a x.c2 x.a,dP op s.a x.a m,dP op s.a x.own m,fk op s.f x.f m⟩ from rfl];generalize dN op mode m s.c0 s.a x.c0 x.a=y1 at *
  generalize dN op mode m s.c1 s.a x.c1 x.a=y2 at *
  generalize dN op mode m s.c2 s.a x.c2 x.a=y3 at *
  generalize dP op s.a x.a m=y4 at *
  generalize dP op s.a x.own m=y5 at *
  generalize fk op s.f x.f m=y6 at *
  refine aD Tryz.func171 [.cell 14 147, .tmp 15] ?_;repeat' (first|refine ah htt ?_|refine ax ?_|refine an (fun K hK => ?_)|refine aa (hva) ?_|refine aw (fun hg=>hvp) ?_|(refine aq hK ?_;try clear hK K))
  refine aH (X:=Int) (fun i=>aT [(1, .b (I op)),(2, .b (I mode)),(3, .b (U m)),(11, .b (.c (.ptr 0 0))),(12, .b (.c (.ptr 1 0))),(13, .b (.c (.ptr 2 0))),(14, .b (.c (.ptr 3 0))),(16, .b (.c (.ptr 4 0))),(51, .b (ag [PU x.c0,PU x.c1,PU x.c2])),(52, .b (I i))]
   [(0, .fix ((aS s).map CV.p)),(1, .fix ((cO x).map CV.p)),(2, .fix ((aS b).map CV.p)),(3, .fix ((cO sy).map CV.p)),(4, .fix [.p (PU (if 0<i then y1 else x.c0)), .p (PU (if 1<i then y2 else x.c1)), .p (PU (if 2<i then y3 else x.c2)), .p (PU x.a), .p (PU x.own), .p (PU x.f)])] 5) (fun i=>0≤i∧i≤3) (fun i=>(3 - i).toNat) 0 ?_ ?_ ?_
  ·omega
  ·refine au [(1,some 1),(2,some 2),(3,some 3),(4,some 4)] ?_ ?_;and_intros;all_goals try exact aj
  ·intro i hi';rcases yI hi' with rfl|rfl|rfl|rfl
   ·repeat' (first|refine ah htt ?_|(((with_reducible refine bT (id:=9) [] (by decide +kernel) (by decide +kernel) ?_ (fun K hK => ?_));exact dK);(try simp (maxSteps:=999999)(disch:=omega) only [go_sem]);and_intros;(all_goals first|(refine hK _ bG ?_;clear hK K)|exact ai|skip))|refine bU ?_|((first|refine an (fun K hK => ?_)|refine aa (c1) ?_);and_intros;all_goals first|(refine hK _ ?_;clear hK K)|try exact ai))
    refine hK _ trivial ?_;clear hK;repeat' (first|refine ah htt ?_|refine aC ?_)
    rw [ae];refine ak 1 ?_ (by omega) (by decide);refine au [(1,some 1),(2,some 2),(3,some 3),(4,some 4)] ?_ ?_;and_intros;all_goals try exact aj
   ·repeat' (first|refine ah htt ?_|(((with_reducible refine bT (id:=9) [] (by decide +kernel) (by decide +kernel) ?_ (fun K hK => ?_));exact dK);(try simp (maxSteps:=999999)(disch:=omega) only [go_sem]);and_intros;(all_goals first|(refine hK _ bG ?_;clear hK K)|exact ai|skip))|refine bU ?_|((first|refine an (fun K hK => ?_)|refine aa (c2) ?_);and_intros;all_goals first|(refine hK _ ?_;clear hK K)|try exact ai))
    refine hK _ trivial ?_;clear hK;repeat' (first|refine ah htt ?_|refine aC ?_)
    rw [ae];refine ak 2 ?_ (by omega) (by decide);refine au [(1,some 1),(2,some 2),(3,some 3),(4,some 4)] ?_ ?_;and_intros;all_goals try exact aj
   ·repeat' (first|refine ah htt ?_|(((with_reducible refine bT (id:=9) [] (by decide +kernel) (by decide +kernel) ?_ (fun K hK => ?_));exact dK);(try simp (maxSteps:=999999)(disch:=omega) only [go_sem]);and_intros;(all_goals first|(refine hK _ bG ?_;clear hK K)|exact ai|skip))|refine bU ?_|((first|refine an (fun K hK => ?_)|refine aa (c3) ?_);and_intros;all_goals first|(refine hK _ ?_;clear hK K)|try exact ai))
    refine hK _ trivial ?_;clear hK;repeat' (first|refine ah htt ?_|refine aC ?_)
    rw [ae];refine ak 3 ?_ (by omega) (by decide);refine au [(1,some 1),(2,some 2),(3,some 3),(4,some 4)] ?_ ?_;and_intros;all_goals try exact aj
   ·repeat' (first|refine ah htt ?_|refine ax ?_|refine an (fun K hK => ?_)|refine aa (a1) ?_|refine aa (a2) ?_|refine aa (hsh) ?_|(refine aq hK ?_;try clear hK K))
    rfl
 ·obtain rfl:=hk rfl;have hr:=CN mode m s x b hm hmo hs hx;generalize cT true 4 mode m s x b=y at *
  refine aD Tryz.func171 [.cell 14 147, .tmp 15] ?_;repeat' (first|refine ah htt ?_|refine ax ?_|refine an (fun K hK => ?_)|refine aa (hva) ?_|refine aw (fun hg=>hvp) ?_|refine aa (hr) ?_|(refine aq hK ?_;try clear hK K))
  rfl
end
theorem zf (m:Image) (x y:Int) (hf:bd m=true) (hx:0≤x) (hxm:x<m.w) (hy:0≤y) (hym:y<m.h):aA Sg 110 [ag (aI m),I x,I y] (fun r=>r = .b (ag (aS (eZ m x y)))):=by
 unfold eZ;by_cases hs:m.solid=true
 ·rw [if_pos hs];refine aD Tryz.func110 [.cell 6 37] ?_;repeat' (first|refine ah hs ?_|refine aC ?_)
  rfl
 ·rw [if_neg hs];have hs':m.solid=false:=by simpa using hs
  unfold bd at hf;simp only [Bool.and_eq_true] at hf;obtain ⟨_,⟨⟨⟨⟨⟨f0,f1⟩,f2⟩,f3⟩,f4⟩,_⟩⟩:=hf;obtain ⟨a0,b0,c0,d0⟩:=ik hs' f0 hx hxm hy hym;obtain ⟨a1,b1,c1,_⟩:=ik hs' f1 hx hxm hy hym;obtain ⟨a2,b2,c2,_⟩:=ik hs' f2 hx hxm hy hym;obtain ⟨a3,b3,c3,_⟩:=ik hs' f3 hx hxm hy hym;obtain ⟨a4,b4,c4,_⟩:=ik hs' f4 hx hxm hy hym;refine aD Tryz.func110 [.cell 6 37] ?_;repeat' (first|(apply oc;(case hc=>exact bM);(case ht=>(simp only [Int.toNat_natCast,Int.reduceBEq,Int.reduceBNe,Int.reduceLT,Int.reduceLE,decide_true,decide_false,ss,hs'];done)))|refine aC ?_)
  refine aH (X:=Int) (fun k=>aT [(1, .b (I x)),(2, .b (I y)),(3, .b (.c (.ptr 0 0))),(6, .b (.c (.ptr 1 0))),(7, .b (.c (.ptr 2 0))),(15, .b (ag [PI m.p0.w,PI m.p0.h,PI m.p0.stride,lv m.p0.s,PI m.p1.w,PI m.p1.h,PI m.p1.stride,lv m.p1.s,PI m.p2.w,PI m.p2.h,PI m.p2.stride,lv m.p2.s,PI m.p3.w,PI m.p3.h,PI m.p3.stride,lv m.p3.s,PI m.p4.w,PI m.p4.h,PI m.p4.stride,lv m.p4.s])),(16, .b (I k))]
   [(0, .fix ((aI m).map CV.p)),(1, .fix ((aS bQ).map CV.p)),(2, .fix [.p (PU (if 0<k then m.p0.s.getD (y * m.p0.stride+x).toNat 0 else 0)), .p (PU (if 1<k then m.p1.s.getD (y * m.p1.stride+x).toNat 0 else 0)), .p (PU (if 2<k then m.p2.s.getD (y * m.p2.stride+x).toNat 0 else 0)), .p (PU (if 3<k then m.p3.s.getD (y * m.p3.stride+x).toNat 0 else 0)), .p (PU (if 4<k then m.p4.s.getD (y * m.p4.stride+x).toNat 0 else 0))])] 3) (fun k=>0≤k∧k≤5) (fun k=>(5 - k).toNat) 0 ?_ ?_ ?_
  ·omega
  ·refine au [(1,some 1),(2,some 2)] ?_ ?_;and_intros;all_goals try exact aj
  ·intro k hk;have hkv:k=0∨k=1∨k=2∨k=3∨k=4∨k=5:=by omega
   rcases hkv with rfl|rfl|rfl|rfl|rfl|rfl
   ·repeat' (first|(apply gw;(case hc=>exact bM);(case ht=>(simp only [Int.toNat_natCast,Int.reduceBEq,Int.reduceBNe,Int.reduceLT,Int.reduceLE,decide_true,decide_false,ss,hs'];done)))|refine aC ?_)
    rw [ae];refine ak 1 ?_ (by omega) (by decide);refine au [(1,some 1),(2,some 2)] ?_ ?_;and_intros;all_goals try exact aj
   ·repeat' (first|(apply gw;(case hc=>exact bM);(case ht=>(simp only [Int.toNat_natCast,Int.reduceBEq,Int.reduceBNe,Int.reduceLT,Int.reduceLE,decide_true,decide_false,ss,hs'];done)))|refine aC ?_)
    rw [ae];refine ak 2 ?_ (by omega) (by decide);refine au [(1,some 1),(2,some 2)] ?_ ?_;and_intros;all_goals try exact aj
   ·repeat' (first|(apply gw;(case hc=>exact bM);(case ht=>(simp only [Int.toNat_natCast,Int.reduceBEq,Int.reduceBNe,Int.reduceLT,Int.reduceLE,decide_true,decide_false,ss,hs'];done)))|refine aC ?_)
    rw [ae];refine ak 3 ?_ (by omega) (by decide);refine au [(1,some 1),(2,some 2)] ?_ ?_;and_intros;all_goals try exact aj
   ·repeat' (first|(apply gw;(case hc=>exact bM);(case ht=>(simp only [Int.toNat_natCast,Int.reduceBEq,Int.reduceBNe,Int.reduceLT,Int.reduceLE,decide_true,decide_false,ss,hs'];done)))|refine aC ?_)
    rw [ae];refine ak 4 ?_ (by omega) (by decide);refine au [(1,some 1),(2,some 2)] ?_ ?_;and_intros;all_goals try exact aj
   ·repeat' (first|(apply gw;(case hc=>exact bM);(case ht=>(simp only [Int.toNat_natCast,Int.reduceBEq,Int.reduceBNe,Int.reduceLT,Int.reduceLE,decide_true,decide_false,ss,hs'];done)))|refine aC ?_)
    rw [ae];refine ak 5 ?_ (by omega) (by decide);refine au [(1,some 1),(2,some 2)] ?_ ?_;and_intros;all_goals try exact aj
   ·repeat' (first|(apply oc;(case hc=>exact bM);(case ht=>(simp only [Int.toNat_natCast,Int.reduceBEq,Int.reduceBNe,Int.reduceLT,Int.reduceLE,decide_true,decide_false,ss,hs'];done)))|refine aC ?_)
    rfl
theorem Um (m:Image) (x y:Int):aA Sg 158 [ag (aI m),I x,I y] (fun r=>r = .b (ag (aS (cU m x y)))):=by
 have hF:=xx m;unfold cU;by_cases h:bd m=false∨x<0∨m.w≤x∨y<0∨m.h≤y
 ·rw [if_pos h];have g:(!bd m || decide (x<0) || decide (x≥m.w) || decide (y<0) || decide (y≥m.h))=true:=by
   simp only [Bool.or_eq_true,Bool.not_eq_true',decide_eq_true_eq];rcases h with h|h|h|h|h
   ·exact .inl (.inl (.inl (.inl h)))
   ·exact .inl (.inl (.inl (.inr h)))
   ·exact .inl (.inl (.inr h))
   ·exact .inl (.inr h)
   ·exact .inr h
  refine aD Tryz.func158 [.cell 6 37] ?_;repeat' (first|refine ah g ?_|refine ax ?_|refine an (fun K hK => ?_)|refine aa (hF) ?_|(refine aq hK ?_;try clear hK K))
  rfl
 ·rw [if_neg h];have hf:bd m=true:=by rw [← Bool.not_eq_false];exact fun q=>h (.inl q)
  have hp:=zf m x y hf (by omega) (by omega) (by omega) (by omega);rw [hf] at hF;have g1:decide (x<0)=false:=decide_eq_false (by omega);have g2:decide (x≥m.w)=false:=decide_eq_false (by omega);have g3:decide (y<0)=false:=decide_eq_false (by omega);have g4:decide (y≥m.h)=false:=decide_eq_false (by omega);generalize eZ m x y=p at *
  refine aD Tryz.func158 [.cell 6 37] ?_;repeat' (first|refine ah (And.intro g1 (And.intro g2 (And.intro g3 g4))) ?_|refine ax ?_|refine an (fun K hK => ?_)|refine aa (hF) ?_|refine aa (hp) ?_|(refine aq hK ?_;try clear hK K))
  rfl
theorem qo (m:Image):aA Sg 107 [ag (aI m)] (fun r=>r = .b (I (if cK m.w m.h=false then 6 else if bd m=false then 7 else 0))):=by
 have h1:=wA m.w m.h;have h2:=xx m;have ht:True:=trivial;cases hf:cK m.w m.h
 ·rw [hf] at h1;rw [if_pos rfl];refine aD Tryz.func107 [.tmp 2] ?_;repeat' (first|with_reducible exact bq|refine ah ht ?_|refine ax ?_|refine an (fun K hK => ?_)|refine aa (h1) ?_|(refine aq hK ?_;try clear hK K))
 ·rw [hf] at h1;rw [if_neg (by decide)];cases hg:bd m
  ·rw [hg] at h2;rw [if_pos rfl];refine aD Tryz.func107 [.tmp 2] ?_;repeat' (first|with_reducible exact bq|refine ah ht ?_|refine ax ?_|refine an (fun K hK => ?_)|refine aa (h1) ?_|refine aa (h2) ?_|(refine aq hK ?_;try clear hK K))
  ·rw [hg] at h2;rw [if_neg (by decide)];refine aD Tryz.func107 [.tmp 2] ?_;repeat' (first|with_reducible exact bq|refine ah ht ?_|refine ax ?_|refine an (fun K hK => ?_)|refine aa (h1) ?_|refine aa (h2) ?_|(refine aq hK ?_;try clear hK K))
end Go.Proofs.YtcbifofjjpfbcaaGreatDoor
