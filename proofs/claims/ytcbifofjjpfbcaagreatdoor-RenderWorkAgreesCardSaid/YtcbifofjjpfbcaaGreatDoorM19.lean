/- Part of the proof: T9, TA, D7, WI, WJ, WK, WL, V1. -/
import Derived.Test.YtcbifofjjpfbcaaGreatDoorM18
set_option linter.unusedSimpArgs false
set_option linter.unusedVariables false
set_option maxHeartbeats 1000000
namespace Go.Proofs.YtcbifofjjpfbcaaGreatDoor
structure Pt (s:Script) (m x y:Int):Prop where
 V:VOps s
 hm:Full m
 mx:bA s.bits=m
 im:na s
 op:∀ o ∈ s.ops,0≤o.opacity
 c:aU s.canvas=false
 xy:iO s.canvas x y
def dH (s:Script) (x y:Int):Pixel:=Xi (bA s.bits) (lD (bA s.bits) (cD s x y) s.ops [base])
section
variable {s:Script} {m x y:Int}
theorem Pt.z (C:Pt s m x y):SmpV m (cD s x y):=Uo C.hm C.mx C.im
structure At (s:Script) (m:Int) (i:Nat) (st:List Lv):Prop where
 v:FV m st
 o:st.map Lv.op=(bI s.ops i).map (aB s.ops) ++ [iR]
theorem Hs (C:Pt s m x y) (i:Nat) (hi:i≤s.ops.length):At s m i (jM m (cD s x y) s.ops i):=by
 obtain ⟨h1,h2⟩:=Ry C.hm C.z C.V C.mx C.op i hi
 exact ⟨h1,h2⟩
theorem Jd (C:Pt s m x y) {i j:Nat} {st:List Lv} (h:At s m i st) (hij:i≤j) (hj:j≤s.ops.length):At s m j (lD m (cD s x y) (mg s.ops i j) st):=by
 obtain ⟨h1,h2⟩:=Jr C.hm C.z C.V C.mx C.op h.v h.o (j - i) (by omega)
 rw [show i+(j - i)=j by omega] at h1 h2
 exact ⟨h1,h2⟩
theorem At.ne {i:Nat} {st:List Lv} (h:At s m i st):∃ t r,st=t :: r:=by
 cases st with
 | nil=>exact h.v.elim
 | cons t r=>exact ⟨t,r,rfl⟩
theorem At.fit (C:Pt s m x y) {i:Nat} {t:Lv} {r:List Lv} (h:At s m i (t :: r)) (hi:i<s.ops.length) (hk:(aB s.ops i).kind≠3):OpFit m t.op (aB s.ops i):=by
 have hn:=Er C.V C.mx C.op hi h.o
 refine hn.1 ?_
 rcases C.V.wf.kinds i hi with q|q|q
 ·exact .inl q
 ·exact .inr q
 ·exact absurd q hk
theorem At.frame {i:Nat} {t:Lv} {r:List Lv} (h:At s m i (t :: r)) (hk:(aB s.ops i).kind≠3):t.op.isolated=UP s i∧t.op.knockout=XK s i:=by
 have ho:=h.o
 unfold UP XK
 rw [JO,if_neg hk]
 cases hs:bI s.ops i with
 | nil =>
  rw [hs] at ho
  rw [FS hs,(List.cons.inj ho).1]
  exact ⟨rfl,rfl⟩
 | cons p q =>
  rw [hs] at ho
  rw [CO hs,(List.cons.inj ho).1,decide_eq_false (show ¬ ((p:Int)<0) by omega),Int.toNat_natCast]
  exact ⟨rfl,rfl⟩
theorem At.repl {i:Nat} {t t':Lv} {r:List Lv} (h:At s m i (t :: r)) (h1:LvV m t') (h2:t'.op=t.op):At s m i (t' :: r) :=
 ⟨h.v.repl h1 h2,by rw [← h.o,List.map_cons,List.map_cons,h2]⟩
theorem At.same {i j:Nat} {st:List Lv} (h:At s m i st) (hs:bI s.ops j=bI s.ops i):At s m j st:=⟨h.v,by rw [hs];exact h.o⟩
def GP (s:Script) (m x y:Int) (i:Nat) (ko:Bool) (a:Acc) (b:Pixel):Pixel :=
 if (aB s.ops i).kind=1 then (cD s x y (aB s.ops i)).1 else Lp m (cD s x y) (mg s.ops (i+1) (aR s.ops i)) (aB s.ops i).knockout (en (aB s.ops i).isolated ko a b)
theorem Kp (C : Pt s m x y) {i : Nat} (hi : i < s.ops.length) (hk : (aB s.ops i).kind ≠ 3) {ko : Bool} {a : Acc} {b : Pixel} :
  kH m (cD s x y) (mg s.ops i (aR s.ops i+1)) ko a b=dI ko (aB s.ops i).operator (aB s.ops i).mode m (aP m (aB s.ops i) (GP s m x y i ko a b) (cD s x y (aB s.ops i)).2) a b:=by
 have W:=C.V.wf
 unfold GP
 rcases W.kinds i hi with h|h|h
 ·rw [gn W hi h,sO hi,Ic h,if_pos h]
 ·rw [Nf W hi h,NY h (Rm W hi h) (xW W hi h).1,if_neg (by omega)]
 ·exact absurd h hk
theorem BK (C : Pt s m x y) {i : Nat} (hi : i < s.ops.length) (hk : (aB s.ops i).kind ≠ 3) (t : Lv) (r : List Lv) :
  lD m (cD s x y) (mg s.ops i (aR s.ops i+1)) (t :: r) = { t with acc:=kH m (cD s x y) (mg s.ops i (aR s.ops i+1)) t.op.knockout t.acc t.back } :: r:=yT (Il C.V.wf hi hk) t r
end
end Go.Proofs.YtcbifofjjpfbcaaGreatDoor
set_option maxHeartbeats 1000000
namespace Go.Proofs.YtcbifofjjpfbcaaGreatDoor
section
variable {s:Script} {m x y:Int}
theorem zx {o:Op} {k:Int} (hm:Full m):aP m o ba k=ba:=by
 unfold aP
 rw [kP hm,kP hm]
theorem AV {o:Op} {p:Pixel} (hm:Full m) (h:o.mask≠0):aP m o p 0=ba:=by
 unfold aP
 rw [if_neg h,tD hm,kP hm]
theorem Ca {o:Op} {p:Pixel} {k:Int} (hm:Full m) (h:o.opacity=0):aP m o p k=ba:=by
 unfold aP
 rw [h,tD hm]
theorem oG (C : Pt s m x y) {i : Nat} (hi : i < s.ops.length) (hk : (aB s.ops i).kind ≠ 3) :
  ((aB s.ops i).kind=1→0≤(aB s.ops i).image∧(aB s.ops i).image<s.images.length)∧0≤(aB s.ops i).mask∧(aB s.ops i).mask≤s.images.length ∧
   (-1048576≤(aB s.ops i).x∧(aB s.ops i).x≤1048576)∧(-1048576≤(aB s.ops i).y∧(aB s.ops i).y≤1048576)∧(-1048576≤(aB s.ops i).maskX∧(aB s.ops i).maskX≤1048576)∧(-1048576≤(aB s.ops i).maskY∧(aB s.ops i).maskY≤1048576):=by
 obtain ⟨_,_,_,g⟩:=dr.1 (C.V.ok i hi)
 obtain ⟨g1,g2,_⟩:=g hk
 simp only [bJ,List.all_cons,List.all_nil,Bool.and_true,Bool.and_eq_true,decide_eq_true_eq] at g2
 omega
theorem Oh (C : Pt s m x y) {i : Nat} (hi : i < s.ops.length) (hk : (aB s.ops i).kind ≠ 3) (h0 : (aB s.ops i).mask ≠ 0) :
  ((aU (bT s (aB s.ops i))=false∧iO (bT s (aB s.ops i)) x y)→(gQ s ((aB s.ops i).mask - 1)).solid=true→(cD s x y (aB s.ops i)).2=(gQ s ((aB s.ops i).mask - 1)).color.a) ∧
   (¬ (aU (bT s (aB s.ops i))=false∧iO (bT s (aB s.ops i)) x y)→(cD s x y (aB s.ops i)).2=0):=by
 obtain ⟨_,b1,b2,_,_,b5,b6⟩:=oG C hi hk
 have hI:=C.im ((aB s.ops i).mask - 1) (by omega) (by omega)
 have e:bT s (aB s.ops i)=dP s ((aB s.ops i).mask - 1) (aB s.ops i).maskX (aB s.ops i).maskY:=if_neg h0
 have hp:=xp (i:=(aB s.ops i).mask - 1) C.c C.xy (by omega) (by omega) hI.f b5 b6
 have e2:(cD s x y (aB s.ops i)).2=(iD (gQ s ((aB s.ops i).mask - 1)) x y (aB s.ops i).maskX (aB s.ops i).maskY).a:=if_pos (by omega)
 rw [e,e2,hp]
 refine ⟨fun h hs => ?_,fun h => ?_⟩
 ·rw [ER hI.f h,eF,if_pos hs]
 ·rw [Bq h];rfl
theorem HG (C : Pt s m x y) {i : Nat} (hi : i < s.ops.length) (hk : (aB s.ops i).kind = 1) :
  ((aU (bE s (aB s.ops i))=false∧iO (bE s (aB s.ops i)) x y)→(gQ s (aB s.ops i).image).solid=true→(cD s x y (aB s.ops i)).1=(gQ s (aB s.ops i).image).color) ∧
   (¬ (aU (bE s (aB s.ops i))=false∧iO (bE s (aB s.ops i)) x y)→(cD s x y (aB s.ops i)).1=ba):=by
 obtain ⟨b0,_,_,b3,b4,_⟩:=oG C hi (by omega)
 have b0:=b0 hk
 have hI:=C.im (aB s.ops i).image b0.1 b0.2
 have e:bE s (aB s.ops i)=dP s (aB s.ops i).image (aB s.ops i).x (aB s.ops i).y:=if_pos hk
 have hp:=xp (i:=(aB s.ops i).image) C.c C.xy b0.1 b0.2 hI.f b3 b4
 have e2:(cD s x y (aB s.ops i)).1=iD (gQ s (aB s.ops i).image) x y (aB s.ops i).x (aB s.ops i).y:=if_pos ⟨hk,b0⟩
 rw [e,e2,hp]
 refine ⟨fun h hs => ?_,fun h => ?_⟩
 ·rw [ER hI.f h,eF,if_pos hs]
 ·exact Bq h
theorem On {z:Op→Pixel × Int} {ko:Bool} {B:Pixel}:Lp m z [] ko B=ba:=by
 have e:∀ c,iM c c 0 m=0:=fun c=>by
  unfold iM
  rw [if_neg (by rw [Int.sub_zero];exact Int.lt_irrefl _)]
 show bB (sw B) B m=ba
 show (⟨iM B.c0 B.c0 0 m,iM B.c1 B.c1 0 m,iM B.c2 B.c2 0 m,0,0⟩:Pixel)=ba
 rw [e,e,e];rfl
theorem yh (C : Pt s m x y) {i : Nat} (hi : i < s.ops.length) (hk : (aB s.ops i).kind ≠ 3) (hn : cQ (aB s.ops i).operator = true) {t : Lv} {r : List Lv} (h : At s m i (t :: r))
  (hz:aP m (aB s.ops i) (GP s m x y i t.op.knockout t.acc t.back) (cD s x y (aB s.ops i)).2=ba):kH m (cD s x y) (mg s.ops i (aR s.ops i+1)) t.op.knockout t.acc t.back=t.acc:=by
 rw [Kp C hi hk,hz]
 refine xU C.hm h.v.head.v hn fun hko => ?_
 rcases (h.fit C hi hk).ctx with q|q
 ·exact q
 ·rw [hko] at q;cases q.2
end
end Go.Proofs.YtcbifofjjpfbcaaGreatDoor
set_option maxHeartbeats 2000000
set_option maxRecDepth 16000
namespace Go.Proofs.YtcbifofjjpfbcaaGreatDoor
open Go Go.SL
open Go.RowKit (wrap64)
attribute [local go_sem] Int.toNat_natCast
theorem tY {ops:List Op} (W:Wf ops) {k:Nat} (hk:k<ops.length):k≤aR ops k:=by
 rcases W.kinds k hk with h|h|h
 ·rw [gn W hk h];exact Nat.le_refl _
 ·exact Nat.le_of_lt (gY W hk h)
 ·rw [xb W hk h];exact Nat.le_refl _
end Go.Proofs.YtcbifofjjpfbcaaGreatDoor
set_option maxHeartbeats 4000000
set_option maxRecDepth 16000
namespace Go.Proofs.YtcbifofjjpfbcaaGreatDoor
open Go Go.SL
open Go.RowKit (wrap64)
attribute [local go_sem] qE oB
theorem oD (mode m cs sl fs c cb ab : Int) (hm : Full m) (hmo : 1 ≤ mode ∧ mode ≤ 12) (hs : Pre cs sl m) (hd : Pre cb ab m) (hf : sl ≤ fs) (hfm : fs ≤ m) (hc : 0 ≤ c) (hcm : c ≤ m) :
  aF Sg 196 [I mode,U m,U cs,U sl,U fs,U c,U cb,U ab] (fun r=>r = .tup [U (fi mode m cs sl fs c cb ab),B true]):=by
 have hok:=qp (mode:=mode) hm hs hd hf hfm hc hcm
 have hkl:=pU (mode:=mode) (acc:=m) hm hs hd hf hfm hc hcm (Int.le_refl _)
 have ht:=lA (mode:=mode) hm hs hd
 have hh:=sv _ hok
 have hn:=(nC hok).2.2
 obtain ⟨s0,sa,am⟩:=hs
 obtain ⟨d0,db,bm⟩:=hd
 have hle:=hm.le
 have hp:=hm.pos
 have hb:=xm mode cs sl cb ab hmo ⟨s0,sa,by omega,d0,db,by omega⟩
 have hu:=wE m
 rw [show decide (m=255∨m=65535)=true from decide_eq_true hm.h] at hu
 have g2:decide (sl>fs)=false:=decide_eq_false (by omega)
 have g3:decide (fs>m)=false:=decide_eq_false (by omega)
 have g5:decide (ab>m)=false:=decide_eq_false (by omega)
 have g6:decide (c>m)=false:=decide_eq_false (by omega)
 have hka:eo m sl fs m ab≤m:=(nF hm (by omega) hf hfm (by omega) (Int.le_refl _) (by omega) bm).2
 have hw:IntKind.u16.wrap (fi mode m cs sl fs c cb ab)=fi mode m cs sl fs c cb ab:=mD hn (by omega)
 obtain ⟨k1,k2,k3,k4,k5,k6,k7,k8,_⟩:=hok
 obtain ⟨t0,t1,t2,t3,t4,t5,t6,t7,_⟩:=ht
 unfold fi at *
 unfold eI at *
 dsimp only at k1 k2 k3 k4 k5 k6 k7 k8
 generalize aQ mode cs sl cb ab=T at *
 have e1:0≤(m - fs) * c∧(m - fs) * c≤65535 * 65535:=⟨az (by omega) (by omega),aJ (by omega) (by omega) (by omega) (by omega)⟩
 have e2:0≤(fs - sl) * cb∧(fs - sl) * cb≤65535 * 65535:=⟨az (by omega) (by omega),aJ (by omega) (by omega) (by omega) (by omega)⟩
 have e3:0≤(m - ab) * cs∧(m - ab) * cs≤65535 * 65535:=⟨az (by omega) (by omega),aJ (by omega) (by omega) (by omega) (by omega)⟩
 have hsu:=DU (m - fs) c (fs - sl) cb (m - ab) cs ⟨by omega,by omega⟩ ⟨hc,by omega⟩ ⟨by omega,by omega⟩ ⟨d0,by omega⟩ ⟨by omega,by omega⟩ ⟨s0,by omega⟩
 have w1:=jm ((m - fs) * c+(fs - sl) * cb+(m - ab) * cs) T.d ⟨by omega,by omega⟩ ⟨by omega,by omega⟩
 have w2:=qn (((m - fs) * c+(fs - sl) * cb+(m - ab) * cs) * T.d) T.p (az (by omega) (by omega)) t0 (by omega)
 rw [Int.add_comm _ T.p] at w2
 refine aI Tryz.func196 [.tmp 16, .tmp 17] ?_
 repeat' (first|refine ak (And.intro g2 (And.intro g3 (And.intro g5 g6))) ?_|refine an ?_|((first|refine aj (fun K hK => ?_)|refine ae (hb) ?_|refine aq (fun hg=>hu) ?_);and_intros;all_goals first|(refine hK _ ?_;clear hK K)|try exact aa))
 refine iN (id:=4) (.br 0 (.br 1 (.br 2 (.br 3 (.br 4 (.br 5 (.br 6 (.br 7 (.br 8 (.br 9 (.br 10 (.br 11 (.br 12 (.br 13 (.br 14 (.br 16 (.br 17 (.br 15 (.br 18 (.br 19 (.br 20 (.br 21 (.br 22 (.br 23 (.br 24 .leaf .nil) .nil) .nil) .nil) .nil) .nil) (.br 22 (.br 18 (.br 19 (.br 20 (.br 21 (.br 23 (.br 24 .leaf .nil) .nil) .nil) .nil) .nil) .nil) .nil)) (.br 22 (.br 15 (.br 18 (.br 19 (.br 20 (.br 21 (.br 23 (.br 24 .leaf .nil) .nil) .nil) .nil) .nil) .nil) .nil) .nil)) .nil) .nil) .nil) .nil) .nil) .nil) .nil) .nil) .nil) .nil) .nil) .nil) .nil) .nil) .nil) .nil) .nil) (by decide +kernel) (by (first|(refine And.intro (fun iw hiw => ?_) ?_;(focus ((try simp (maxSteps:=999999)(disch:=omega) only [go_sem] at hiw ⊢);(repeat (refine Eq.trans (if_neg ?_) ?_;(focus omega)));(first|exact hw iw (by omega)|rfl)));(focus (first|exact Nat.zero_le _|(simp (maxSteps:=999999)(disch:=omega) only [go_sem];done)|(simp (maxSteps:=999999)(disch:=omega) only [go_sem];omega))))|exact cS)) (fun K0 hW => ?_)
 refine (fun (tl:∀ st,Le st (bg [(1, .b (U m)),(18, .b (.c (.ptr 0 0))),(20, .b (.c (.ptr 1 0)))] [(0, .fix ((oB T).map CV.p)),(1, .fix ((qE (T.p+((m - fs) * c+(fs - sl) * cb+(m - ab) * cs) * T.d)).map CV.p))] 2)→K0 st) => ?_) (fun st hl=>hW st _ hl ?_)
 ·clear hW
  repeat' (first|exact cE|(refine dA (fun K' hK' => ?_) ?_)|(refine cj (tl _ ?_);clear tl)|((first|refine ae (hsu) ?_|refine ae (w1) ?_|refine ae (w2) ?_);(try simp (maxSteps:=999999)(disch:=omega) only [go_sem]);and_intros;(all_goals first|(refine hK' _ ?_;clear hK' K')|trivial|omega|exact Nat.le_of_ble_eq_true rfl|exact aa|skip))|(simp (maxSteps:=999999)(disch:=omega) only [go_sem];and_intros;(all_goals first|(refine hK' _ ?_;clear hK' K')|trivial|omega|exact Nat.le_of_ble_eq_true rfl|exact aa|skip)))
  all_goals
   refine aE [(1,some 1)] ?_ ?_
   and_intros
   all_goals first|exact aw|skip
 clear hW
 repeat' (first|with_reducible exact aK|((first|refine aj (fun K hK => ?_)|refine ae (hh) ?_);and_intros;all_goals first|(refine hK _ ?_;clear hK K)|try exact aa)|(refine ai ?_;(try clear hB KB);(try clear hK K)))
 all_goals skip
end Go.Proofs.YtcbifofjjpfbcaaGreatDoor
set_option maxHeartbeats 4000000
set_option maxRecDepth 16000
namespace Go.Proofs.YtcbifofjjpfbcaaGreatDoor
open Go Go.SL
open Go.RowKit (wrap64)
theorem jv (p:Pixel) (m:Int):aF Sg 108 [ag (aW p),U m] (fun r=>r = .b (B (kv p m))):=by
 have ht:True:=trivial
 have no:∀ {q:Prop},(¬ q)→(kv p m=true→q)→kv p m=false:=fun h1 h2=>by
  rw [← Bool.not_eq_true];exact fun h=>h1 (h2 h)
 have ok:kv p m=true↔p.c0≤p.a∧p.c1≤p.a∧p.c2≤p.a∧p.a≤p.f∧p.f≤m:=by unfold kv;rw [decide_eq_true_eq]
 refine aI Tryz.func108 [.tmp 4] ?_
 repeat' (first|refine an ?_|(refine aj (fun K hK => ?_);and_intros;all_goals first|(refine hK _ ?_;clear hK K)|try exact aa))
 refine aM (X:=Int) (fun k=>bg [(1, .b (U m)),(2, .b (.c (.ptr 0 0))),(8, .b (ag [PU p.c0,PU p.c1,PU p.c2])),(9, .b (I k))] [(0, .fix ((aW p).map CV.p))] 1) (fun k=>0≤k∧k≤3∧(0<k→p.c0≤p.a)∧(1<k→p.c1≤p.a)∧(2<k→p.c2≤p.a)) (fun k=>(3 - k).toNat) 0 ?_ ?_ ?_
 ·exact ⟨by decide,by decide,fun h=>absurd h (by decide),fun h=>absurd h (by decide),fun h=>absurd h (by decide)⟩
 ·refine aE [(0,some 0)] ?_ ?_
  and_intros
  all_goals first|exact aw|skip
 ·rintro k ⟨k0,k3,i0,i1,i2⟩
  have hv:k=0∨k=1∨k=2∨k=3:=by omega
  rcases hv with rfl|rfl|rfl|rfl
  ·repeat' (first|refine ak ht ?_|refine an ?_|(refine aj (fun K hK => ?_);and_intros;all_goals first|(refine hK _ ?_;clear hK K)|try exact aa)|(refine aH (fun hb => ?_) (fun hb => ?_);all_goals try exact ax)|(refine ai ?_;(try clear hB KB);(try clear hK K)))
   ·rw [no (q:=p.c0≤p.a) (by omega) (fun h=>(ok.1 h).1)]
   ·rw [ah]
    refine au 1 ?_ ⟨by decide,by decide,fun _=>by omega,fun h=>absurd h (by decide),fun h=>absurd h (by decide)⟩ (by decide)
    refine aE [(0,some 0)] ?_ ?_
    and_intros
    all_goals first|exact aw|skip
  ·repeat' (first|refine ak ht ?_|refine an ?_|(refine aj (fun K hK => ?_);and_intros;all_goals first|(refine hK _ ?_;clear hK K)|try exact aa)|(refine aH (fun hb => ?_) (fun hb => ?_);all_goals try exact ax)|(refine ai ?_;(try clear hB KB);(try clear hK K)))
   ·rw [no (q:=p.c1≤p.a) (by omega) (fun h=>(ok.1 h).2.1)]
   ·rw [ah]
    refine au 2 ?_ ⟨by decide,by decide,fun _=>i0 (by decide),fun _=>by omega,fun h=>absurd h (by decide)⟩ (by decide)
    refine aE [(0,some 0)] ?_ ?_
    and_intros
    all_goals first|exact aw|skip
  ·repeat' (first|refine ak ht ?_|refine an ?_|(refine aj (fun K hK => ?_);and_intros;all_goals first|(refine hK _ ?_;clear hK K)|try exact aa)|(refine aH (fun hb => ?_) (fun hb => ?_);all_goals try exact ax)|(refine ai ?_;(try clear hB KB);(try clear hK K)))
   ·rw [no (q:=p.c2≤p.a) (by omega) (fun h=>(ok.1 h).2.2.1)]
   ·rw [ah]
    refine au 3 ?_ ⟨by decide,by decide,fun _=>i0 (by decide),fun _=>i1 (by decide),fun _=>by omega⟩ (by decide)
    refine aE [(0,some 0)] ?_ ?_
    and_intros
    all_goals first|exact aw|skip
  ·have j0:=i0 (by decide)
   have j1:=i1 (by decide)
   have j2:=i2 (by decide)
   repeat' (first|refine ak ht ?_|refine an ?_|(refine aj (fun K hK => ?_);and_intros;all_goals first|(refine hK _ ?_;clear hK K)|try exact aa)|(refine ai ?_;(try clear hB KB);(try clear hK K)))
   refine congrArg (fun v=>SV.b (B v)) ?_
   rw [Bool.eq_iff_iff,ok]
   simp only [Bool.and_eq_true,decide_eq_true_eq]
   omega
end Go.Proofs.YtcbifofjjpfbcaaGreatDoor
set_option maxHeartbeats 4000000
set_option maxRecDepth 16000
namespace Go.Proofs.YtcbifofjjpfbcaaGreatDoor
open Go Go.SL
open Go.RowKit (wrap64)
theorem oY (c k own m:Int) (hm:Full m) (hc:0≤c) (hcm:c≤m) (hk:0≤k) (hkm:k≤m) (ho:0≤own) (hom:own≤m):aF Sg 128 [U c,U k,U own,U m] (fun r=>r = .b (U (iM c k own m))):=by
 have hle:=hm.le
 have hp:=hm.pos
 have e1:0≤m * c∧m * c≤65535 * 65535:=⟨az (by omega) hc,aJ hle (by omega) hc (by decide)⟩
 have e2:0≤(m - own) * k∧(m - own) * k≤65535 * 65535:=⟨az (by omega) hk,aJ (by omega) (by omega) hk (by decide)⟩
 unfold iM
 by_cases h:(m - own) * k<m * c
 ·have g1:decide (m * c≤(m - own) * k)=false:=decide_eq_false (by omega)
  have hh:=vw (m * c - (m - own) * k) m ⟨by omega,by omega⟩ ⟨by omega,by omega⟩
  have hn:=dC (n:=m * c - (m - own) * k) hp (by omega)
  have hl:=pd (n:=m * c - (m - own) * k) (k:=c) hp (by omega)
  rw [if_pos h]
  generalize cf (m * c - (m - own) * k) m=v at *
  refine aI Tryz.func128 [.tmp 8] ?_
  repeat' (first|refine ak g1 ?_|refine an ?_|((first|refine aj (fun K hK => ?_)|refine ae (hh) ?_);and_intros;all_goals first|(refine hK _ ?_;clear hK K)|try exact aa)|(refine ai ?_;(try clear hB KB);(try clear hK K)))
  refine congrArg (fun x=>SV.b (U x)) ?_
  first|(split <;> omega)|(rw [mD hn (by omega)];split <;> omega)
 ·have g1:decide (m * c≤(m - own) * k)=true:=decide_eq_true (by omega)
  rw [if_neg h]
  refine aI Tryz.func128 [.tmp 8] ?_
  repeat' (first|with_reducible exact aK|refine ak g1 ?_|refine an ?_|(refine aj (fun K hK => ?_);and_intros;all_goals first|(refine hK _ ?_;clear hK K)|try exact aa)|(refine ai ?_;(try clear hB KB);(try clear hK K)))
end Go.Proofs.YtcbifofjjpfbcaaGreatDoor
set_option maxHeartbeats 4000000
set_option maxRecDepth 16000
namespace Go.Proofs.YtcbifofjjpfbcaaGreatDoor
open Go Go.SL
open Go.RowKit (wrap64)
def VT (x:Acc):List PV:=[PU x.c0,PU x.c1,PU x.c2,PU x.a,PU x.own,PU x.f]
attribute [local go_sem] VT
theorem wD (i k:Bool) (x:Acc) (b:Pixel):aF Sg 126 [B i,B k,ag (VT x),ag (aW b)] (fun r=>r = .tup [ag (VT (sw (en i k x b))),ag (aW (en i k x b))]):=by
 have ht:True:=trivial
 cases i <;> cases k
 all_goals
  refine aI Tryz.func126 [.cell 8 147, .cell 9 37] ?_
  repeat' (first|refine ak ht ?_|(((with_reducible refine bC (id:=5) [(23,5),(25,5),(7,5),(8,6),(9,7)] (by decide +kernel) (by decide +kernel) ?_ (fun K hK => ?_));(first|(refine And.intro (fun iw hiw => ?_) ?_;(focus ((try simp (maxSteps:=999999)(disch:=omega) only [go_sem] at hiw ⊢);(repeat (refine Eq.trans (if_neg ?_) ?_;(focus omega)));(first|exact hw iw (by omega)|rfl)));(focus (first|exact Nat.zero_le _|(simp (maxSteps:=999999)(disch:=omega) only [go_sem];done)|(simp (maxSteps:=999999)(disch:=omega) only [go_sem];omega))))|exact cS));(try simp (maxSteps:=999999)(disch:=omega) only [go_sem]);and_intros;(all_goals first|(refine hK _ (by simp (maxSteps:=999999)(disch:=omega) only [go_sem]) ?_;clear hK K)|exact aa|skip))|refine an ?_|(refine aj (fun K hK => ?_);and_intros;all_goals first|(refine hK _ ?_;clear hK K)|try exact aa)|(refine ai ?_;(try clear hB KB);(try clear hK K)))
 all_goals rfl
end Go.Proofs.YtcbifofjjpfbcaaGreatDoor
set_option maxHeartbeats 2000000
set_option maxRecDepth 16000
namespace Go.Proofs.YtcbifofjjpfbcaaGreatDoor
open Go Go.SL
open Go.RowKit (wrap64)
theorem fN (p:Plane):aF Sg 77 [ag (jD p)] (fun r=>r = .b (B (de p))):=by
 have hf:=gN p.w p.h
 unfold de
 by_cases h:cl p.w p.h=true∧p.w≤p.stride∧p.stride≤16777216
 ·obtain ⟨h1,h2,h3⟩:=h
  obtain ⟨b1,b2,b3,b4,b5,b6⟩:=ed h1
  have e1:0≤(p.h - 1) * p.stride∧(p.h - 1) * p.stride≤16777216 * 16777216:=⟨az (by omega) (by omega),aJ (by omega) (by omega) (by omega) (by omega)⟩
  have g2:decide (p.stride≥p.w)=true:=decide_eq_true h2
  have g3:decide (p.stride≤16777216)=true:=decide_eq_true h3
  rw [h1] at hf ⊢
  refine aI Tryz.func77 [.tmp 2] ?_
  repeat' (first|((first|refine aj (fun K hK => ?_)|refine ae (hf) ?_);and_intros;all_goals first|(refine hK _ ?_;clear hK K)|try exact aa)|(refine ai ?_;(try clear hB KB);(try clear hK K)))
  rfl
 ·refine aI Tryz.func77 [.tmp 2] ?_
  repeat' (first|((first|refine aj (fun K hK => ?_)|refine ae (hf) ?_);and_intros;all_goals first|(refine hK _ ?_;clear hK K)|try exact aa)|(refine ai ?_;(try clear hB KB);(try clear hK K)))
  have hz:(cl p.w p.h && decide (p.stride≥p.w) && decide (p.stride≤16777216))=false:=by
   rw [← Bool.not_eq_true,Bool.and_eq_true,Bool.and_eq_true,decide_eq_true_eq,decide_eq_true_eq]
   exact fun q=>h ⟨q.1.1,q.1.2,q.2⟩
  rw [hz]
  rfl
theorem fM {m : Image} {p : Plane} {x y : Int} (hs : m.solid = false) (h : aO m p = true) (hx : 0 ≤ x) (hxm : x < m.w) (hy : 0 ≤ y) (hym : y < m.h) :
  (0≤y * p.stride∧y * p.stride≤16777216 * 16777216)∧0≤y * p.stride+x∧y * p.stride+x<p.s.length∧x≤16777216:=by
 unfold aO de at h
 rw [hs,if_neg (by decide)] at h
 simp only [Bool.and_eq_true,decide_eq_true_eq] at h
 obtain ⟨⟨⟨⟨⟨hf,h1⟩,h2⟩,h3⟩,h4⟩,h5⟩:=h
 obtain ⟨b1,b2,b3,b4,b5,b6⟩:=ed hf
 have e1:0≤y * p.stride∧y * p.stride≤16777216 * 16777216:=⟨az hy (by omega),aJ (by omega) h2 (by omega) (by omega)⟩
 have e2:y * p.stride≤(p.h - 1) * p.stride:=aJ (by omega) (Int.le_refl _) (by omega) (by omega)
 exact ⟨e1,by omega,by omega,by omega⟩
theorem BS (m:Image) (x y:Int) (hf:bp m=true) (hx:0≤x) (hxm:x<m.w) (hy:0≤y) (hym:y<m.h):aF Sg 48 [ag (bl m),I x,I y] (fun r=>r = .b (ag (aW (eF m x y)))):=by
 unfold eF
 by_cases hs:m.solid=true
 ·rw [if_pos hs]
  refine aI Tryz.func48 [.cell 6 37] ?_
  repeat' (first|refine ak hs ?_|refine an ?_|(refine aj (fun K hK => ?_);and_intros;all_goals first|(refine hK _ ?_;clear hK K)|try exact aa)|(refine ai ?_;(try clear hB KB);(try clear hK K)))
  rfl
 ·rw [if_neg hs]
  have hs':m.solid=false:=by simpa using hs
  unfold bp at hf
  simp only [Bool.and_eq_true] at hf
  obtain ⟨_,⟨⟨⟨⟨⟨f0,f1⟩,f2⟩,f3⟩,f4⟩,_⟩⟩:=hf
  obtain ⟨a0,b0,c0,d0⟩:=fM hs' f0 hx hxm hy hym
  obtain ⟨a1,b1,c1,_⟩:=fM hs' f1 hx hxm hy hym
  obtain ⟨a2,b2,c2,_⟩:=fM hs' f2 hx hxm hy hym
  obtain ⟨a3,b3,c3,_⟩:=fM hs' f3 hx hxm hy hym
  obtain ⟨a4,b4,c4,_⟩:=fM hs' f4 hx hxm hy hym
  refine aI Tryz.func48 [.cell 6 37] ?_
  repeat' (first|(apply gZ;(case hc=>exact aS);(case ht=>(simp only [Int.toNat_natCast,Int.reduceBEq,Int.reduceBNe,Int.reduceLT,Int.reduceLE,decide_true,decide_false,oZ,hs'];done)))|refine an ?_|(refine aj (fun K hK => ?_);and_intros;all_goals first|(refine hK _ ?_;clear hK K)|try exact aa))
  refine aM (X:=Int) (fun k=>bg [(1, .b (I x)),(2, .b (I y)),(3, .b (.c (.ptr 0 0))),(6, .b (.c (.ptr 1 0))),(7, .b (.c (.ptr 2 0))),(8, .b (I k))]
   [(0, .fix ((bl m).map CV.p)),(1, .fix ((aW ba).map CV.p)),(2, .fix [.p (PI (if 0<k then y * m.p0.stride+x else 0)), .p (PI (if 1<k then y * m.p1.stride+x else 0)), .p (PI (if 2<k then y * m.p2.stride+x else 0)), .p (PI (if 3<k then y * m.p3.stride+x else 0)), .p (PI (if 4<k then y * m.p4.stride+x else 0))])] 3) (fun k=>0≤k∧k≤5) (fun k=>(5 - k).toNat) 0 ?_ ?_ ?_
  ·omega
  ·refine aE [(1,some 1),(2,some 2)] ?_ ?_
   and_intros
   all_goals first|exact aw|skip
  ·intro k hk
   have hkv:k=0∨k=1∨k=2∨k=3∨k=4∨k=5:=by omega
   rcases hkv with rfl|rfl|rfl|rfl|rfl|rfl
   ·repeat' (first|(apply ft;(case hc=>exact aS);(case ht=>(simp only [Int.toNat_natCast,Int.reduceBEq,Int.reduceBNe,Int.reduceLT,Int.reduceLE,decide_true,decide_false,oZ,hs'];done)))|refine an ?_|(refine aj (fun K hK => ?_);and_intros;all_goals first|(refine hK _ ?_;clear hK K)|try exact aa))
    rw [ah]
    refine au 1 ?_ (by omega) (by decide)
    refine aE [(1,some 1),(2,some 2)] ?_ ?_
    and_intros
    all_goals first|exact aw|skip
   ·repeat' (first|(apply ft;(case hc=>exact aS);(case ht=>(simp only [Int.toNat_natCast,Int.reduceBEq,Int.reduceBNe,Int.reduceLT,Int.reduceLE,decide_true,decide_false,oZ,hs'];done)))|refine an ?_|(refine aj (fun K hK => ?_);and_intros;all_goals first|(refine hK _ ?_;clear hK K)|try exact aa))
    rw [ah]
    refine au 2 ?_ (by omega) (by decide)
    refine aE [(1,some 1),(2,some 2)] ?_ ?_
    and_intros
    all_goals first|exact aw|skip
   ·repeat' (first|(apply ft;(case hc=>exact aS);(case ht=>(simp only [Int.toNat_natCast,Int.reduceBEq,Int.reduceBNe,Int.reduceLT,Int.reduceLE,decide_true,decide_false,oZ,hs'];done)))|refine an ?_|(refine aj (fun K hK => ?_);and_intros;all_goals first|(refine hK _ ?_;clear hK K)|try exact aa))
    rw [ah]
    refine au 3 ?_ (by omega) (by decide)
    refine aE [(1,some 1),(2,some 2)] ?_ ?_
    and_intros
    all_goals first|exact aw|skip
   ·repeat' (first|(apply ft;(case hc=>exact aS);(case ht=>(simp only [Int.toNat_natCast,Int.reduceBEq,Int.reduceBNe,Int.reduceLT,Int.reduceLE,decide_true,decide_false,oZ,hs'];done)))|refine an ?_|(refine aj (fun K hK => ?_);and_intros;all_goals first|(refine hK _ ?_;clear hK K)|try exact aa))
    rw [ah]
    refine au 4 ?_ (by omega) (by decide)
    refine aE [(1,some 1),(2,some 2)] ?_ ?_
    and_intros
    all_goals first|exact aw|skip
   ·repeat' (first|(apply ft;(case hc=>exact aS);(case ht=>(simp only [Int.toNat_natCast,Int.reduceBEq,Int.reduceBNe,Int.reduceLT,Int.reduceLE,decide_true,decide_false,oZ,hs'];done)))|refine an ?_|(refine aj (fun K hK => ?_);and_intros;all_goals first|(refine hK _ ?_;clear hK K)|try exact aa))
    rw [ah]
    refine au 5 ?_ (by omega) (by decide)
    refine aE [(1,some 1),(2,some 2)] ?_ ?_
    and_intros
    all_goals first|exact aw|skip
   ·repeat' (first|(apply gZ;(case hc=>exact aS);(case ht=>(simp only [Int.toNat_natCast,Int.reduceBEq,Int.reduceBNe,Int.reduceLT,Int.reduceLE,decide_true,decide_false,oZ,hs'];done)))|refine an ?_|(refine aj (fun K hK => ?_);and_intros;all_goals first|(refine hK _ ?_;clear hK K)|try exact aa)|(refine ai ?_;(try clear hB KB);(try clear hK K)))
    rfl
theorem DB (m:Image) (x y:Int) (hF:aF Sg 54 [ag (bl m)] (fun r=>r = .b (B (bp m)))):aF Sg 28 [ag (bl m),I x,I y] (fun r=>r = .b (ag (aW (cu m x y)))):=by
 unfold cu
 by_cases h:bp m=false∨x<0∨m.w≤x∨y<0∨m.h≤y
 ·rw [if_pos h]
  have g:(!bp m || decide (x<0) || decide (x≥m.w) || decide (y<0) || decide (y≥m.h))=true:=by
   simp only [Bool.or_eq_true,Bool.not_eq_true',decide_eq_true_eq]
   rcases h with h|h|h|h|h
   ·exact .inl (.inl (.inl (.inl h)))
   ·exact .inl (.inl (.inl (.inr h)))
   ·exact .inl (.inl (.inr h))
   ·exact .inl (.inr h)
   ·exact .inr h
  refine aI Tryz.func28 [.cell 6 37] ?_
  repeat' (first|refine ak g ?_|refine an ?_|((first|refine aj (fun K hK => ?_)|refine ae (hF) ?_);and_intros;all_goals first|(refine hK _ ?_;clear hK K)|try exact aa)|(refine ai ?_;(try clear hB KB);(try clear hK K)))
  rfl
 ·rw [if_neg h]
  have hf:bp m=true:=by
   rw [← Bool.not_eq_false];exact fun q=>h (.inl q)
  have hp:=BS m x y hf (by omega) (by omega) (by omega) (by omega)
  rw [hf] at hF
  have g1:decide (x<0)=false:=decide_eq_false (by omega)
  have g2:decide (x≥m.w)=false:=decide_eq_false (by omega)
  have g3:decide (y<0)=false:=decide_eq_false (by omega)
  have g4:decide (y≥m.h)=false:=decide_eq_false (by omega)
  generalize eF m x y=p at *
  refine aI Tryz.func28 [.cell 6 37] ?_
  repeat' (first|refine ak (And.intro g1 (And.intro g2 (And.intro g3 g4))) ?_|refine an ?_|((first|refine aj (fun K hK => ?_)|refine ae (hF) ?_|refine ae (hp) ?_);and_intros;all_goals first|(refine hK _ ?_;clear hK K)|try exact aa)|(refine ai ?_;(try clear hB KB);(try clear hK K)))
  rfl
end Go.Proofs.YtcbifofjjpfbcaaGreatDoor
