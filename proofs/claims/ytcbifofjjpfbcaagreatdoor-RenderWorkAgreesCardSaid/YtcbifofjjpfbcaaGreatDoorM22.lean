/- Part of the proof: BrS, TC, DA, PN, WN, R4, P1. -/
import Derived.Test.YtcbifofjjpfbcaaGreatDoorM20
import Derived.Test.YtcbifofjjpfbcaaGreatDoorM21
set_option maxRecDepth 8000
namespace Go.Proofs.YtcbifofjjpfbcaaGreatDoor
open Go Go.SL
theorem PP {n:Int} (h:(Lit.int .i64 n).wf=true):i64 n:=bounds_i64 h
theorem uz {α:Type} [Inhabited α] {p:α→Prop} {l:List α} (h:∀ x ∈ l,p x) (i:Nat) (hi:i<l.length):p (l.getD i default):=by
 rw [List.getD_eq_getElem?_getD,List.getElem?_eq_getElem hi]
 exact h _ (List.getElem_mem _)
theorem yP {n b:Nat} (hb:0<b) (h:n * b≤reachBytes):n≤4611686018427387904:=by
 have:n≤n * b:=Nat.le_mul_of_pos_right _ hb
 have e:reachBytes=140737488351232:=rfl
 omega
theorem ef:qK Sg.P 3 (fun n=>[PI n]) i64:=(MQ (k := .i64) (by kernel_rfl)).to id (fun _=>rfl) (fun _ h=>PP h)
theorem Hx:qK Sg.P 22 (fun l=>[eZ l]) (fun l=>l.length≤4611686018427387904∧∀ x ∈ l,i64 x) :=
 (nS (sz:=1) (by8:=8) (by kernel_rfl) (by kernel_rfl) (by decide) (by kernel_rfl) ef).to id (fun _=>rfl) (fun _ h=>⟨yP (by decide) h.1,h.2⟩)
theorem Vs:qK Sg.P 88 OG RawOk:=by
 refine qK.to (jQ ?_ ?_ (bd ef rfl (bd ef rfl (bd ef rfl (bd ef rfl (bd ef rfl (bd ef rfl (bd ef rfl (bd ef rfl (bd ef rfl (bd ef rfl (bd ef rfl mI))))))))))))
  (fun (a,b,c,d,e,f,g,h,i,j,k,_)=>(⟨a,b,c,d,e,f,g,h,i,j,k⟩:Raw)) (fun _=>rfl) ?_
 ·kernel_rfl
 ·kernel_rfl
 ·rintro _ ⟨h1,h2,h3,h4,h5,h6,h7,h8,h9,h10,h11,_⟩
  exact ⟨h1,h2,h3,h4,h5,h6,h7,h8,h9,h10,h11⟩
theorem Xv:qK Sg.P 132 VM N5ok:=by
 refine qK.to (jQ ?_ ?_ (bd ef rfl (bd ef rfl (bd ef rfl (bd ef rfl (bd ef rfl mI)))))) (fun (a,b,c,d,e,_)=>(⟨a,b,c,d,e⟩:N5)) (fun _=>rfl) ?_
 ·kernel_rfl
 ·kernel_rfl
 ·rintro _ ⟨h1,h2,h3,h4,h5,_⟩
  exact ⟨h1,h2,h3,h4,h5⟩
theorem VA:qK Sg.P 81 (fun l=>[VI l]) (fun l=>l.length≤4611686018427387904∧∀ x ∈ l,N5ok x) :=
 (nS (sz:=5) (by8:=40) (by kernel_rfl) (by kernel_rfl) (by decide) (by kernel_rfl) Xv).to id (fun _=>rfl) (fun _ h=>⟨yP (by decide) h.1,h.2⟩)
theorem VF:qK Sg.P 83 Mz RowOk:=by
 refine qK.to (jQ ?_ ?_ (bd ef rfl (bd VA rfl mI))) (fun (a,b,_)=>(⟨a,b⟩:Row)) (fun _=>rfl) ?_
 ·kernel_rfl
 ·kernel_rfl
 ·rintro _ ⟨h1,h2,_⟩
  exact ⟨h1,uz h2.2,h2.1⟩
theorem Vj:qK Sg.P 85 KL PicOk:=by
 refine qK.to (jQ ?_ ?_ (bd ef rfl (bd ef rfl (bd ef rfl (bd VF rfl mI))))) (fun (a,b,c,d,_)=>(⟨a,b,c,d⟩:Pic)) (fun _=>rfl) ?_
 ·kernel_rfl
 ·kernel_rfl
 ·rintro _ ⟨h1,h2,h3,h4,_⟩
  exact ⟨h1,h2,h3,h4⟩
theorem Ta:qK Sg.P 23 (fun l=>[RZ l]) (fun l=>l.length≤4611686018427387904∧∀ x ∈ l,PicOk x) :=
 (nS (sz:=5) (by8:=56) (by kernel_rfl) (by kernel_rfl) (by decide) (by kernel_rfl) Vj).to id (fun _=>rfl) (fun _ h=>⟨yP (by decide) h.1,h.2⟩)
theorem SN:qK Sg.P 24 (fun l=>[QM l]) (fun l=>l.length≤4611686018427387904∧∀ x ∈ l,RawOk x) :=
 (nS (sz:=11) (by8:=88) (by kernel_rfl) (by kernel_rfl) (by decide) (by kernel_rfl) Vs).to id (fun _=>rfl) (fun _ h=>⟨yP (by decide) h.1,h.2⟩)
theorem xZ:qK Sg.P 26 gI SceneOk:=by
 refine qK.to (jQ ?_ ?_ (bd ef rfl (bd ef rfl (bd ef rfl (bd ef rfl (bd ef rfl (bd ef rfl (bd ef rfl (bd Hx rfl (bd Ta rfl (bd SN rfl mI)))))))))))
  (fun (a,b,c,d,e,f,g,h,i,j,_)=>(⟨a,b,c,d,e,f,g,h,i,j⟩:Scene)) (fun _=>rfl) ?_
 ·kernel_rfl
 ·kernel_rfl
 ·rintro _ ⟨h1,h2,h3,h4,h5,h6,h7,h8,h9,h10,_⟩
  exact ⟨h1,h2,h3,h4,h5,h6,h7,h8.1,h9.1,h10.1,uz h9.2,uz h10.2⟩
end Go.Proofs.YtcbifofjjpfbcaaGreatDoor
set_option linter.unusedSimpArgs false
set_option linter.unusedVariables false
set_option maxHeartbeats 1000000
namespace Go.Proofs.YtcbifofjjpfbcaaGreatDoor
def BY (r:Rect) (x y:Int):Prop:=aU r=false∧iO r x y
theorem Gb {r q:Rect} {x y:Int} (h:¬ BY (eS r q) x y):¬ BY r x y∨¬ BY q x y:=by
 by_cases h1:BY r x y
 ·by_cases h2:BY q x y
  ·exact absurd ((pX h1.1 h2.1).2 ⟨h1.2,h2.2⟩) h
  ·exact .inr h2
 ·exact .inl h1
theorem JL {l:List Rect} {x y:Int} (h:¬ BY (dd l) x y):∀ r ∈ l,¬ BY r x y:=fun r hr ⟨h1,h2⟩=>by
 obtain ⟨a,b,c,d,e⟩:=Mf hr h1
 refine h ⟨a, ?_⟩
 unfold iO at *
 omega
theorem KF {e:Nat→Nat} {b:Nat}:∀ {l:List Nat} {a:Nat},KV e a b l→(∀ k ∈ l,k≤e k)→a≤b
 | [],a,h,_=>Nat.le_of_eq h
 | k :: l,a,⟨h1,h2⟩,h3=>by
  have:=KF h2 fun j hj=>h3 j (List.mem_cons_of_mem _ hj)
  have:=h3 k (List.mem_cons_self ..)
  omega
section
variable {s:Script} {m x y:Int}
theorem zF (C : Pt s m x y) {b : Nat} (hb : b ≤ s.ops.length) : ∀ (l : List Nat) (a : Nat), KV (aR s.ops) a b l →
  (∀ k ∈ l,k<b∧(aB s.ops k).kind≠3∧∀ t r,At s m k (t :: r)→kH m (cD s x y) (mg s.ops k (aR s.ops k+1)) t.op.knockout t.acc t.back=t.acc) →
  ∀ t r,At s m a (t :: r)→kH m (cD s x y) (mg s.ops a b) t.op.knockout t.acc t.back=t.acc
 | [],a,h,_,t,r,_=>by
  obtain rfl:a=b:=h
  rw [yk];rfl
 | k :: l,a,⟨h1,h2⟩,h3,t,r,ha=>by
  subst h1
  obtain ⟨q1,q2,q3⟩:=h3 a (List.mem_cons_self ..)
  have W:=C.V.wf
  have hle:=KF h2 fun j hj=>sT W (Nat.lt_of_lt_of_le (h3 j (List.mem_cons_of_mem _ hj)).1 hb)
  have hge:=sT W (Nat.lt_of_lt_of_le q1 hb)
  have h4:=Jd C ha (show a≤aR s.ops a+1 by omega) (by omega)
  rw [BK C (by omega) q2,q3 t r ha] at h4
  have:=zF C hb l _ h2 (fun j hj=>h3 j (List.mem_cons_of_mem _ hj)) t r h4
  rw [pw (show a≤aR s.ops a+1 by omega) hle,Np (Il W (by omega) q2),q3 t r ha]
  exact this
theorem DW (C : Pt s m x y) {i : Nat} (hi : i < s.ops.length) (hk : (aB s.ops i).kind ≠ 3) {R : Rect} (hb : ¬ BY (fK s (aB s.ops i) R) x y) {t : Lv} {r : List Lv} (h : At s m i (t :: r))
  (hR:¬ BY R x y→GP s m x y i t.op.knockout t.acc t.back=ba):kH m (cD s x y) (mg s.ops i (aR s.ops i+1)) t.op.knockout t.acc t.back=t.acc:=by
 unfold fK at hb
 cases hn:cQ (aB s.ops i).operator with
 | false =>
  rw [hn,if_pos rfl] at hb
  exact absurd ⟨C.c,C.xy⟩ hb
 | true =>
  refine yh C hi hk hn h ?_
  rw [hn,if_neg (by decide)] at hb
  by_cases h0:(aB s.ops i).opacity=0
  ·exact Ca C.hm h0
  rw [if_neg h0] at hb
  rcases Gb hb with q|q
  ·rw [hR q];exact zx C.hm
  ·by_cases hm0:(aB s.ops i).mask=0
   ·rw [bT,if_pos hm0] at q
    exact absurd ((pX C.c C.c).2 ⟨C.xy,C.xy⟩) q
   ·rw [(Oh C hi hk hm0).2 q];exact AV C.hm hm0
theorem DJ (C : Pt s m x y) : ∀ (d i : Nat), s.ops.length - i ≤ d → i < s.ops.length → (aB s.ops i).kind ≠ 3 → ¬ BY (bn s i) x y → ∀ t r, At s m i (t :: r) →
  kH m (cD s x y) (mg s.ops i (aR s.ops i+1)) t.op.knockout t.acc t.back=t.acc
 | 0,i,hd,hi,_,_,_,_,_=>absurd hi (by omega)
 | d+1,i,hd,hi,hk,hb,t,r,h=>by
  have W:=C.V.wf
  rcases W.kinds i hi with h1|h2|h3
  ·rw [vi W hi h1] at hb
   refine DW C hi hk hb h fun q => ?_
   rw [GP,if_pos h1]
   exact (HG C hi h1).2 q
  ·obtain ⟨l,q1,q2,q3⟩:=Ao W hi h2
   rw [q3] at hb
   refine DW C hi hk hb h fun q => ?_
   rw [GP,if_neg (by omega)]
   have hel:=fT W hi
   have ho:=JL q
   have hin:=Ty C hi h2 h
   have key:∀ k ∈ l,k<aR s.ops i∧(aB s.ops k).kind≠3∧∀ t r,At s m k (t :: r)→kH m (cD s x y) (mg s.ops k (aR s.ops k+1)) t.op.knockout t.acc t.back=t.acc:=fun k hk=>by
    obtain ⟨⟨k1,k2⟩,k3⟩:=q2 k hk
    exact ⟨k2,k3,DJ C d k (by omega) (by omega) k3 (ho _ (List.mem_map_of_mem hk))⟩
   have:=zF C (Nat.le_of_lt hel) l _ q1 key _ _ hin
   have e:kH m (cD s x y) (mg s.ops (i+1) (aR s.ops i)) (aB s.ops i).knockout (sw (en (aB s.ops i).isolated t.op.knockout t.acc t.back)) (en (aB s.ops i).isolated t.op.knockout t.acc t.back)=sw (en (aB s.ops i).isolated t.op.knockout t.acc t.back):=this
   rw [Lp,e]
   exact On (z:=cD s x y) (ko:=false)
  ·exact absurd h3 hk
theorem NT (C:Pt s m x y) {i:Nat} (hi:i<s.ops.length) (hk:(aB s.ops i).kind≠3) (hb:¬ BY (bn s i) x y):jM m (cD s x y) s.ops (aR s.ops i+1)=jM m (cD s x y) s.ops i:=by
 obtain ⟨t,r,e⟩:=(Hs C i (by omega)).ne
 have ha:=Hs C i (by omega)
 rw [e] at ha
 have hge:=sT C.V.wf hi
 have h1:jM m (cD s x y) s.ops (aR s.ops i+1)=lD m (cD s x y) (mg s.ops i (aR s.ops i+1)) (jM m (cD s x y) s.ops i):=by
  unfold jM
  rw [← nw]
  congr 1
  have:=pw (ops:=s.ops) (show 0≤i by omega) (show i≤aR s.ops i+1 by omega)
  exact this
 rw [h1,e,BK C hi hk,DJ C _ i (Nat.le_refl _) hi hk hb t r ha]
open Classical in
end
structure Twin (s t:Script):Prop where
 im:s.images=t.images
 c:s.canvas=t.canvas
theorem Twin.box {s t:Script} (T:Twin s t) (o:Op) (r:Rect):fK s o r=fK t o r:=by
 unfold fK bT dP
 rw [T.im,T.c]
section
variable {s t:Script} {x y:Int} {p q:Nat}
structure Ends (s t:Script) (x y:Int) (p q:Nat):Prop where
 T:Twin s t
 W:Wf s.ops
 U:Wf t.ops
 ls:p+q≤s.ops.length
 lt:p+q≤t.ops.length
 pre:∀ i,i<p→aB s.ops i=aB t.ops i
 suf:∀ k,k<q→aB s.ops (s.ops.length - q+k)=aB t.ops (t.ops.length - q+k)
 os:∀ g,(p≤g∧g<s.ops.length - q∨g ∈ bI s.ops p)→¬ BY (bn s g) x y
 ot:∀ g,(p≤g∧g<t.ops.length - q∨g ∈ bI t.ops p)→¬ BY (bn t g) x y
theorem Ends.symm (E:Ends s t x y p q):Ends t s x y p q:=⟨⟨E.T.im.symm,E.T.c.symm⟩,E.U,E.W,E.lt,E.ls,fun i h=>(E.pre i h).symm,fun k h=>(E.suf k h).symm,E.ot,E.os⟩
end
end Go.Proofs.YtcbifofjjpfbcaaGreatDoor
set_option maxRecDepth 8000
set_option maxHeartbeats 4000000
namespace Go.Proofs.YtcbifofjjpfbcaaGreatDoor
open Go Go.SL
open Go.RowKit (wrap64)
attribute [local go_sem] Int.toNat_natCast
def zS:List CV:=[CV.p (PI 0),CV.p (PI 0),CV.p (PI 0),CV.p (PI 0),CV.p (PI 0),CV.p (PI 0),CV.p (PI 0),CV.p Ls,CV.p Ls,CV.p Ls]
def tS (s:Script) (m:Nat):List CV:=[CV.p (PI s.bits),CV.p (PI s.canvas.x0),CV.p (PI s.canvas.y0),CV.p (PI s.canvas.x1),CV.p (PI s.canvas.y1),CV.p (PI s.tileW),CV.p (PI s.tileH),CV.p (eZ s.order),CV.p (vL s.images),CV.own 3 m]
attribute [local go_sem] zS tS
end Go.Proofs.YtcbifofjjpfbcaaGreatDoor
namespace Go.Proofs.YtcbifofjjpfbcaaGreatDoor
theorem yE (m:Image) (x y dx dy:Int):iD m x y dx dy=cu m (x - dx) (y - dy):=by
 unfold iD
 split
 ·rename_i h
  unfold cu
  cases hf:bp m with
  | false=>rw [if_pos (.inl rfl)]
  | true =>
   obtain ⟨a,b,c,d⟩:=hP hf
   rw [if_pos (by omega)]
 ·rfl
end Go.Proofs.YtcbifofjjpfbcaaGreatDoor
set_option maxHeartbeats 4000000
set_option maxRecDepth 16000
namespace Go.Proofs.YtcbifofjjpfbcaaGreatDoor
open Go Go.SL
open Go.RowKit (wrap64)
attribute [local go_sem] cH
theorem xL (x:Acc) (b:Pixel) (m:Int) (hm:Full m) (h:AccV x b m):aF Sg 127 [ag (cH x),ag (aW b),U m] (fun r=>r = .b (B true)):=by
 have hvs:=jv b m
 rw [jZ h.bk] at hvs
 have d0:decide (x.c0>x.a)=false:=decide_eq_false (by have:=h.l0;omega)
 have d1:decide (x.c1>x.a)=false:=decide_eq_false (by have:=h.l1;omega)
 have d2:decide (x.c2>x.a)=false:=decide_eq_false (by have:=h.l2;omega)
 have e0:(m == 255 || m == 65535)=true:=by rcases hm.h with q|q <;> rw [q] <;> rfl
 have e1:decide (x.own≤x.a)=true:=decide_eq_true h.oa
 have e2:decide (x.own≤x.f)=true:=decide_eq_true h.of
 have e3:decide (x.a≤m)=true:=decide_eq_true h.am
 have e4:decide (x.f≤m)=true:=decide_eq_true h.fm
 have e5:(b.f == b.a)=true:=beq_iff_eq.2 h.bf
 have ht:True:=trivial
 refine aI Tryz.func127 [.tmp 6] ?_
 repeat' (first|refine an ?_|(refine aj (fun K hK => ?_);and_intros;all_goals first|(refine hK _ ?_;clear hK K)|try exact aa))
 refine aM (X:=Int) (fun i=>bg [(2, .b (U m)),(3, .b (.c (.ptr 0 0))),(4, .b (.c (.ptr 1 0))),(10, .b (ag [PU x.c0,PU x.c1,PU x.c2])),(11, .b (I i))] [(0, .fix ((cH x).map CV.p)),(1, .fix ((aW b).map CV.p))] 2) (fun i=>0≤i∧i≤3) (fun i=>(3 - i).toNat) 0 ?_ ?_ ?_
 ·omega
 ·refine aE [(1,some 1)] ?_ ?_
  and_intros
  all_goals first|exact aw|skip
 ·intro i hi
  rcases DP hi with rfl|rfl|rfl|rfl
  ·repeat' (first|refine ak d0 ?_|refine an ?_|(refine aj (fun K hK => ?_);and_intros;all_goals first|(refine hK _ ?_;clear hK K)|try exact aa))
   rw [ah]
   refine au 1 ?_ (by omega) (by decide)
   refine aE [(1,some 1)] ?_ ?_
   and_intros
   all_goals first|exact aw|skip
  ·repeat' (first|refine ak d1 ?_|refine an ?_|(refine aj (fun K hK => ?_);and_intros;all_goals first|(refine hK _ ?_;clear hK K)|try exact aa))
   rw [ah]
   refine au 2 ?_ (by omega) (by decide)
   refine aE [(1,some 1)] ?_ ?_
   and_intros
   all_goals first|exact aw|skip
  ·repeat' (first|refine ak d2 ?_|refine an ?_|(refine aj (fun K hK => ?_);and_intros;all_goals first|(refine hK _ ?_;clear hK K)|try exact aa))
   rw [ah]
   refine au 3 ?_ (by omega) (by decide)
   refine aE [(1,some 1)] ?_ ?_
   and_intros
   all_goals first|exact aw|skip
  ·repeat' (first|refine ak ht ?_|refine an ?_|((first|refine aj (fun K hK => ?_)|refine aq (fun hg=>hvs) ?_);and_intros;all_goals first|(refine hK _ ?_;clear hK K)|try exact aa)|(refine ai ?_;(try clear hB KB);(try clear hK K)))
   simp only [e0,e1,e2,e3,e4,e5]
   first|rfl|trivial
theorem lY (x:Acc) (b:Pixel) (m:Int) (hm:Full m) (h:AccV x b m):aF Sg 90 [ag (cH x),ag (aW b),U m] (fun r=>r = .tup [ag (aW (bB x b m)),B true]):=by
 have hva:=xL x b m hm h
 have c0:=oY x.c0 b.c0 x.own m hm h.n0 (Int.le_trans h.l0 h.am) h.bk.n0 (Int.le_trans h.bk.l0 h.bk.am) h.o0 h.om
 have c1:=oY x.c1 b.c1 x.own m hm h.n1 (Int.le_trans h.l1 h.am) h.bk.n1 (Int.le_trans h.bk.l1 h.bk.am) h.o0 h.om
 have c2:=oY x.c2 b.c2 x.own m hm h.n2 (Int.le_trans h.l2 h.am) h.bk.n2 (Int.le_trans h.bk.l2 h.bk.am) h.o0 h.om
 have ht:True:=trivial
 unfold bB
 generalize iM x.c0 b.c0 x.own m=y0 at *
 generalize iM x.c1 b.c1 x.own m=y1 at *
 generalize iM x.c2 b.c2 x.own m=y2 at *
 refine aI Tryz.func90 [.cell 6 37, .tmp 7] ?_
 repeat' (first|refine ak ht ?_|refine an ?_|((first|refine aj (fun K hK => ?_)|refine ae (hva) ?_);and_intros;all_goals first|(refine hK _ ?_;clear hK K)|try exact aa))
 refine aM (X:=Int) (fun i=>bg [(2, .b (U m)),(3, .b (.c (.ptr 0 0))),(4, .b (.c (.ptr 1 0))),(6, .b (.c (.ptr 2 0))),(8, .b (.c (.ptr 3 0))),(23, .b (ag [PU x.c0,PU x.c1,PU x.c2])),(24, .b (I i))]
  [(0, .fix ((cH x).map CV.p)),(1, .fix ((aW b).map CV.p)),(2, .fix ((aW ba).map CV.p)),(3, .fix [.p (PU (if 0<i then y0 else 0)), .p (PU (if 1<i then y1 else 0)), .p (PU (if 2<i then y2 else 0)), .p (PU x.own), .p (PU x.f)])] 4)
  (fun i=>0≤i∧i≤3) (fun i=>(3 - i).toNat) 0 ?_ ?_ ?_
 ·omega
 ·refine aE [(1,some 1),(2,some 2),(3,some 3)] ?_ ?_
  and_intros
  all_goals first|exact aw|skip
 ·intro i hi
  rcases DP hi with rfl|rfl|rfl|rfl
  ·repeat' (first|refine ak ht ?_|(((with_reducible refine ch (id:=7) [] (by decide +kernel) (by decide +kernel) ?_ (fun K hK => ?_));(first|(refine And.intro (fun iw hiw => ?_) ?_;(focus ((try simp (maxSteps:=999999)(disch:=omega) only [go_sem] at hiw ⊢);(repeat (refine Eq.trans (if_neg ?_) ?_;(focus omega)));(first|exact hw iw (by omega)|rfl)));(focus (first|exact Nat.zero_le _|(simp (maxSteps:=999999)(disch:=omega) only [go_sem];done)|(simp (maxSteps:=999999)(disch:=omega) only [go_sem];omega))))|exact cS));(try simp (maxSteps:=999999)(disch:=omega) only [go_sem]);and_intros;(all_goals first|(refine hK _ (by simp (maxSteps:=999999)(disch:=omega) only [go_sem]) ?_;clear hK K)|exact aa|skip))|refine an ?_|((first|refine aj (fun K hK => ?_)|refine ae (c0) ?_);and_intros;all_goals first|(refine hK _ ?_;clear hK K)|try exact aa))
   refine hK _ trivial ?_
   clear hK
   repeat' (first|refine an ?_|(refine aj (fun K hK => ?_);and_intros;all_goals first|(refine hK _ ?_;clear hK K)|try exact aa))
   rw [ah]
   refine au 1 ?_ (by omega) (by decide)
   refine aE [(1,some 1),(2,some 2),(3,some 3)] ?_ ?_
   and_intros
   all_goals first|exact aw|skip
  ·repeat' (first|refine ak ht ?_|(((with_reducible refine ch (id:=7) [] (by decide +kernel) (by decide +kernel) ?_ (fun K hK => ?_));(first|(refine And.intro (fun iw hiw => ?_) ?_;(focus ((try simp (maxSteps:=999999)(disch:=omega) only [go_sem] at hiw ⊢);(repeat (refine Eq.trans (if_neg ?_) ?_;(focus omega)));(first|exact hw iw (by omega)|rfl)));(focus (first|exact Nat.zero_le _|(simp (maxSteps:=999999)(disch:=omega) only [go_sem];done)|(simp (maxSteps:=999999)(disch:=omega) only [go_sem];omega))))|exact cS));(try simp (maxSteps:=999999)(disch:=omega) only [go_sem]);and_intros;(all_goals first|(refine hK _ (by simp (maxSteps:=999999)(disch:=omega) only [go_sem]) ?_;clear hK K)|exact aa|skip))|refine an ?_|((first|refine aj (fun K hK => ?_)|refine ae (c1) ?_);and_intros;all_goals first|(refine hK _ ?_;clear hK K)|try exact aa))
   refine hK _ trivial ?_
   clear hK
   repeat' (first|refine an ?_|(refine aj (fun K hK => ?_);and_intros;all_goals first|(refine hK _ ?_;clear hK K)|try exact aa))
   rw [ah]
   refine au 2 ?_ (by omega) (by decide)
   refine aE [(1,some 1),(2,some 2),(3,some 3)] ?_ ?_
   and_intros
   all_goals first|exact aw|skip
  ·repeat' (first|refine ak ht ?_|(((with_reducible refine ch (id:=7) [] (by decide +kernel) (by decide +kernel) ?_ (fun K hK => ?_));(first|(refine And.intro (fun iw hiw => ?_) ?_;(focus ((try simp (maxSteps:=999999)(disch:=omega) only [go_sem] at hiw ⊢);(repeat (refine Eq.trans (if_neg ?_) ?_;(focus omega)));(first|exact hw iw (by omega)|rfl)));(focus (first|exact Nat.zero_le _|(simp (maxSteps:=999999)(disch:=omega) only [go_sem];done)|(simp (maxSteps:=999999)(disch:=omega) only [go_sem];omega))))|exact cS));(try simp (maxSteps:=999999)(disch:=omega) only [go_sem]);and_intros;(all_goals first|(refine hK _ (by simp (maxSteps:=999999)(disch:=omega) only [go_sem]) ?_;clear hK K)|exact aa|skip))|refine an ?_|((first|refine aj (fun K hK => ?_)|refine ae (c2) ?_);and_intros;all_goals first|(refine hK _ ?_;clear hK K)|try exact aa))
   refine hK _ trivial ?_
   clear hK
   repeat' (first|refine an ?_|(refine aj (fun K hK => ?_);and_intros;all_goals first|(refine hK _ ?_;clear hK K)|try exact aa))
   rw [ah]
   refine au 3 ?_ (by omega) (by decide)
   refine aE [(1,some 1),(2,some 2),(3,some 3)] ?_ ?_
   and_intros
   all_goals first|exact aw|skip
  ·repeat' (first|refine ak ht ?_|refine an ?_|(refine aj (fun K hK => ?_);and_intros;all_goals first|(refine hK _ ?_;clear hK K)|try exact aa)|(refine ai ?_;(try clear hB KB);(try clear hK K)))
   rfl
theorem AF (mode m : Int) (s : Pixel) (x : Acc) (b : Pixel) (hm : Full m) (hmo : 1 ≤ mode ∧ mode ≤ 12) (hs : PixV s m) (hx : AccV x b m) :
  aF Sg 188 [I mode,U m,ag (aW s),ag (cH x),ag (aW b)] (fun r=>r = .tup [ag (cH (dI true 4 mode m s x b)),B true]):=by
 have hsh:=xt 4 s.f x.f m hm ⟨by decide,by decide⟩ hs.f0 hs.fm hx.f0 hx.fm
 obtain ⟨s1,s2,s3⟩:=hs.pre
 obtain ⟨b1,b2,b3⟩:=hx.bk.pre
 have htt:True:=trivial
 have c1:=oD mode m s.c0 s.a s.f x.c0 b.c0 b.a hm hmo s1 b1 hs.af hs.fm hx.n0 (Int.le_trans hx.l0 hx.am)
 have c2:=oD mode m s.c1 s.a s.f x.c1 b.c1 b.a hm hmo s2 b2 hs.af hs.fm hx.n1 (Int.le_trans hx.l1 hx.am)
 have c3:=oD mode m s.c2 s.a s.f x.c2 b.c2 b.a hm hmo s3 b3 hs.af hs.fm hx.n2 (Int.le_trans hx.l2 hx.am)
 have a1:=tH m s.a s.f x.a b.a hm hs.a0 hs.af hs.fm hx.a0 hx.am hx.bk.a0 hx.bk.am
 have a2:=CJ m s.a s.f x.own hm hs.a0 hs.af hs.fm hx.o0 hx.om
 rw [show dI true 4 mode m s x b=⟨fi mode m s.c0 s.a s.f x.c0 b.c0 b.a,fi mode m s.c1 s.a s.f x.c1 b.c1 b.a,fi mode m s.c2 s.a s.f x.c2 b.c2 b.a,eo m s.a s.f x.a b.a,eo m s.a s.f x.own 0,fL 4 s.f x.f m⟩ from rfl]
 generalize fi mode m s.c0 s.a s.f x.c0 b.c0 b.a=y1 at *
 generalize fi mode m s.c1 s.a s.f x.c1 b.c1 b.a=y2 at *
 generalize fi mode m s.c2 s.a s.f x.c2 b.c2 b.a=y3 at *
 generalize eo m s.a s.f x.a b.a=y4 at *
 generalize eo m s.a s.f x.own 0=y5 at *
 generalize fL 4 s.f x.f m=y6 at *
 refine aI Tryz.func188 [.cell 10 147, .tmp 11] ?_
 repeat' (first|refine an ?_|(refine aj (fun K hK => ?_);and_intros;all_goals first|(refine hK _ ?_;clear hK K)|try exact aa))
 refine aM (X:=Int) (fun i=>bg [(0, .b (I mode)),(1, .b (U m)),(7, .b (.c (.ptr 0 0))),(8, .b (.c (.ptr 1 0))),(9, .b (.c (.ptr 2 0))),(10, .b (.c (.ptr 3 0))),(12, .b (.c (.ptr 4 0))),(19, .b (ag [PU x.c0,PU x.c1,PU x.c2])),(20, .b (I i))]
  [(0, .fix ((aW s).map CV.p)),(1, .fix ((cH x).map CV.p)),(2, .fix ((aW b).map CV.p)),(3, .fix ((cH tN).map CV.p)),(4, .fix [.p (PU (if 0<i then y1 else x.c0)), .p (PU (if 1<i then y2 else x.c1)), .p (PU (if 2<i then y3 else x.c2)), .p (PU x.a), .p (PU x.own), .p (PU x.f)])] 5) (fun i=>0≤i∧i≤3) (fun i=>(3 - i).toNat) 0 ?_ ?_ ?_
 ·omega
 ·refine aE [(1,some 1),(2,some 2),(3,some 3),(4,some 4)] ?_ ?_
  and_intros
  all_goals first|exact aw|skip
 ·intro i hi'
  rcases DP hi' with rfl|rfl|rfl|rfl
  ·repeat' (first|refine ak htt ?_|(((with_reducible refine bC (id:=5) [] (by decide +kernel) (by decide +kernel) ?_ (fun K hK => ?_));(first|(refine And.intro (fun iw hiw => ?_) ?_;(focus ((try simp (maxSteps:=999999)(disch:=omega) only [go_sem] at hiw ⊢);(repeat (refine Eq.trans (if_neg ?_) ?_;(focus omega)));(first|exact hw iw (by omega)|rfl)));(focus (first|exact Nat.zero_le _|(simp (maxSteps:=999999)(disch:=omega) only [go_sem];done)|(simp (maxSteps:=999999)(disch:=omega) only [go_sem];omega))))|exact cS));(try simp (maxSteps:=999999)(disch:=omega) only [go_sem]);and_intros;(all_goals first|(refine hK _ (by simp (maxSteps:=999999)(disch:=omega) only [go_sem]) ?_;clear hK K)|exact aa|skip))|refine an ?_|((first|refine aj (fun K hK => ?_)|refine ae (c1) ?_);and_intros;all_goals first|(refine hK _ ?_;clear hK K)|try exact aa))
   refine hK _ trivial ?_
   clear hK
   repeat' (first|refine ak htt ?_|refine an ?_|(refine aj (fun K hK => ?_);and_intros;all_goals first|(refine hK _ ?_;clear hK K)|try exact aa))
   rw [ah]
   refine au 1 ?_ (by omega) (by decide)
   refine aE [(1,some 1),(2,some 2),(3,some 3),(4,some 4)] ?_ ?_
   and_intros
   all_goals first|exact aw|skip
  ·repeat' (first|refine ak htt ?_|(((with_reducible refine bC (id:=5) [] (by decide +kernel) (by decide +kernel) ?_ (fun K hK => ?_));(first|(refine And.intro (fun iw hiw => ?_) ?_;(focus ((try simp (maxSteps:=999999)(disch:=omega) only [go_sem] at hiw ⊢);(repeat (refine Eq.trans (if_neg ?_) ?_;(focus omega)));(first|exact hw iw (by omega)|rfl)));(focus (first|exact Nat.zero_le _|(simp (maxSteps:=999999)(disch:=omega) only [go_sem];done)|(simp (maxSteps:=999999)(disch:=omega) only [go_sem];omega))))|exact cS));(try simp (maxSteps:=999999)(disch:=omega) only [go_sem]);and_intros;(all_goals first|(refine hK _ (by simp (maxSteps:=999999)(disch:=omega) only [go_sem]) ?_;clear hK K)|exact aa|skip))|refine an ?_|((first|refine aj (fun K hK => ?_)|refine ae (c2) ?_);and_intros;all_goals first|(refine hK _ ?_;clear hK K)|try exact aa))
   refine hK _ trivial ?_
   clear hK
   repeat' (first|refine ak htt ?_|refine an ?_|(refine aj (fun K hK => ?_);and_intros;all_goals first|(refine hK _ ?_;clear hK K)|try exact aa))
   rw [ah]
   refine au 2 ?_ (by omega) (by decide)
   refine aE [(1,some 1),(2,some 2),(3,some 3),(4,some 4)] ?_ ?_
   and_intros
   all_goals first|exact aw|skip
  ·repeat' (first|refine ak htt ?_|(((with_reducible refine bC (id:=5) [] (by decide +kernel) (by decide +kernel) ?_ (fun K hK => ?_));(first|(refine And.intro (fun iw hiw => ?_) ?_;(focus ((try simp (maxSteps:=999999)(disch:=omega) only [go_sem] at hiw ⊢);(repeat (refine Eq.trans (if_neg ?_) ?_;(focus omega)));(first|exact hw iw (by omega)|rfl)));(focus (first|exact Nat.zero_le _|(simp (maxSteps:=999999)(disch:=omega) only [go_sem];done)|(simp (maxSteps:=999999)(disch:=omega) only [go_sem];omega))))|exact cS));(try simp (maxSteps:=999999)(disch:=omega) only [go_sem]);and_intros;(all_goals first|(refine hK _ (by simp (maxSteps:=999999)(disch:=omega) only [go_sem]) ?_;clear hK K)|exact aa|skip))|refine an ?_|((first|refine aj (fun K hK => ?_)|refine ae (c3) ?_);and_intros;all_goals first|(refine hK _ ?_;clear hK K)|try exact aa))
   refine hK _ trivial ?_
   clear hK
   repeat' (first|refine ak htt ?_|refine an ?_|(refine aj (fun K hK => ?_);and_intros;all_goals first|(refine hK _ ?_;clear hK K)|try exact aa))
   rw [ah]
   refine au 3 ?_ (by omega) (by decide)
   refine aE [(1,some 1),(2,some 2),(3,some 3),(4,some 4)] ?_ ?_
   and_intros
   all_goals first|exact aw|skip
  ·repeat' (first|refine ak htt ?_|refine an ?_|((first|refine aj (fun K hK => ?_)|refine ae (a1) ?_|refine ae (a2) ?_|refine ae (hsh) ?_);and_intros;all_goals first|(refine hK _ ?_;clear hK K)|try exact aa)|(refine ai ?_;(try clear hB KB);(try clear hK K)))
   rfl
theorem As (ko : Bool) (op mode m : Int) (s : Pixel) (x : Acc) (b : Pixel) (hm : Full m) (ho : 1 ≤ op ∧ op ≤ 12) (hmo : 1 ≤ mode ∧ mode ≤ 12) (hs : PixV s m) (hx : AccV x b m) (hk : ko = true → op = 4) :
  aF Sg 171 [B ko,I op,I mode,U m,ag (aW s),ag (cH x),ag (aW b)] (fun r=>r = .tup [ag (cH (dI ko op mode m s x b)),B true]):=by
 have hva:=xL x b m hm hx
 have hvp:=jv s m
 rw [jZ hs] at hvp
 have hsh:=xt op s.f x.f m hm ho hs.f0 hs.fm hx.f0 hx.fm
 obtain ⟨s1,s2,s3⟩:=hs.pre
 obtain ⟨x1,x2,x3⟩:=hx.pre
 have htt:True:=trivial
 cases ko
 ·have c1:=qX op mode m s.c0 s.a x.c0 x.a hm ho hmo s1 x1
  have c2:=qX op mode m s.c1 s.a x.c1 x.a hm ho hmo s2 x2
  have c3:=qX op mode m s.c2 s.a x.c2 x.a hm ho hmo s3 x3
  have a1:=xH op s.a x.a m hm ho hs.a0 hs.am hx.a0 hx.am
  have a2:=xH op s.a x.own m hm ho hs.a0 hs.am hx.o0 hx.om
  rw [show dI false op mode m s x b=⟨fB op mode m s.c0 s.a x.c0 x.a,fB op mode m s.c1 s.a x.c1 x.a,fB op mode m s.c2 s.a x.c2 x.a,ec op s.a x.a m,ec op s.a x.own m,fL op s.f x.f m⟩ from rfl]
  generalize fB op mode m s.c0 s.a x.c0 x.a=y1 at *
  generalize fB op mode m s.c1 s.a x.c1 x.a=y2 at *
  generalize fB op mode m s.c2 s.a x.c2 x.a=y3 at *
  generalize ec op s.a x.a m=y4 at *
  generalize ec op s.a x.own m=y5 at *
  generalize fL op s.f x.f m=y6 at *
  refine aI Tryz.func171 [.cell 14 147, .tmp 15] ?_
  repeat' (first|refine ak htt ?_|refine an ?_|((first|refine aj (fun K hK => ?_)|refine ae (hva) ?_|refine aq (fun hg=>hvp) ?_);and_intros;all_goals first|(refine hK _ ?_;clear hK K)|try exact aa))
  refine aM (X:=Int) (fun i=>bg [(1, .b (I op)),(2, .b (I mode)),(3, .b (U m)),(11, .b (.c (.ptr 0 0))),(12, .b (.c (.ptr 1 0))),(13, .b (.c (.ptr 2 0))),(14, .b (.c (.ptr 3 0))),(16, .b (.c (.ptr 4 0))),(51, .b (ag [PU x.c0,PU x.c1,PU x.c2])),(52, .b (I i))]
   [(0, .fix ((aW s).map CV.p)),(1, .fix ((cH x).map CV.p)),(2, .fix ((aW b).map CV.p)),(3, .fix ((cH tN).map CV.p)),(4, .fix [.p (PU (if 0<i then y1 else x.c0)), .p (PU (if 1<i then y2 else x.c1)), .p (PU (if 2<i then y3 else x.c2)), .p (PU x.a), .p (PU x.own), .p (PU x.f)])] 5) (fun i=>0≤i∧i≤3) (fun i=>(3 - i).toNat) 0 ?_ ?_ ?_
  ·omega
  ·refine aE [(1,some 1),(2,some 2),(3,some 3),(4,some 4)] ?_ ?_
   and_intros
   all_goals first|exact aw|skip
  ·intro i hi'
   rcases DP hi' with rfl|rfl|rfl|rfl
   ·repeat' (first|refine ak htt ?_|(((with_reducible refine bC (id:=9) [] (by decide +kernel) (by decide +kernel) ?_ (fun K hK => ?_));(first|(refine And.intro (fun iw hiw => ?_) ?_;(focus ((try simp (maxSteps:=999999)(disch:=omega) only [go_sem] at hiw ⊢);(repeat (refine Eq.trans (if_neg ?_) ?_;(focus omega)));(first|exact hw iw (by omega)|rfl)));(focus (first|exact Nat.zero_le _|(simp (maxSteps:=999999)(disch:=omega) only [go_sem];done)|(simp (maxSteps:=999999)(disch:=omega) only [go_sem];omega))))|exact cS));(try simp (maxSteps:=999999)(disch:=omega) only [go_sem]);and_intros;(all_goals first|(refine hK _ (by simp (maxSteps:=999999)(disch:=omega) only [go_sem]) ?_;clear hK K)|exact aa|skip))|refine an ?_|((first|refine aj (fun K hK => ?_)|refine ae (c1) ?_);and_intros;all_goals first|(refine hK _ ?_;clear hK K)|try exact aa))
    refine hK _ trivial ?_
    clear hK
    repeat' (first|refine ak htt ?_|refine an ?_|(refine aj (fun K hK => ?_);and_intros;all_goals first|(refine hK _ ?_;clear hK K)|try exact aa))
    rw [ah]
    refine au 1 ?_ (by omega) (by decide)
    refine aE [(1,some 1),(2,some 2),(3,some 3),(4,some 4)] ?_ ?_
    and_intros
    all_goals first|exact aw|skip
   ·repeat' (first|refine ak htt ?_|(((with_reducible refine bC (id:=9) [] (by decide +kernel) (by decide +kernel) ?_ (fun K hK => ?_));(first|(refine And.intro (fun iw hiw => ?_) ?_;(focus ((try simp (maxSteps:=999999)(disch:=omega) only [go_sem] at hiw ⊢);(repeat (refine Eq.trans (if_neg ?_) ?_;(focus omega)));(first|exact hw iw (by omega)|rfl)));(focus (first|exact Nat.zero_le _|(simp (maxSteps:=999999)(disch:=omega) only [go_sem];done)|(simp (maxSteps:=999999)(disch:=omega) only [go_sem];omega))))|exact cS));(try simp (maxSteps:=999999)(disch:=omega) only [go_sem]);and_intros;(all_goals first|(refine hK _ (by simp (maxSteps:=999999)(disch:=omega) only [go_sem]) ?_;clear hK K)|exact aa|skip))|refine an ?_|((first|refine aj (fun K hK => ?_)|refine ae (c2) ?_);and_intros;all_goals first|(refine hK _ ?_;clear hK K)|try exact aa))
    refine hK _ trivial ?_
    clear hK
    repeat' (first|refine ak htt ?_|refine an ?_|(refine aj (fun K hK => ?_);and_intros;all_goals first|(refine hK _ ?_;clear hK K)|try exact aa))
    rw [ah]
    refine au 2 ?_ (by omega) (by decide)
    refine aE [(1,some 1),(2,some 2),(3,some 3),(4,some 4)] ?_ ?_
    and_intros
    all_goals first|exact aw|skip
   ·repeat' (first|refine ak htt ?_|(((with_reducible refine bC (id:=9) [] (by decide +kernel) (by decide +kernel) ?_ (fun K hK => ?_));(first|(refine And.intro (fun iw hiw => ?_) ?_;(focus ((try simp (maxSteps:=999999)(disch:=omega) only [go_sem] at hiw ⊢);(repeat (refine Eq.trans (if_neg ?_) ?_;(focus omega)));(first|exact hw iw (by omega)|rfl)));(focus (first|exact Nat.zero_le _|(simp (maxSteps:=999999)(disch:=omega) only [go_sem];done)|(simp (maxSteps:=999999)(disch:=omega) only [go_sem];omega))))|exact cS));(try simp (maxSteps:=999999)(disch:=omega) only [go_sem]);and_intros;(all_goals first|(refine hK _ (by simp (maxSteps:=999999)(disch:=omega) only [go_sem]) ?_;clear hK K)|exact aa|skip))|refine an ?_|((first|refine aj (fun K hK => ?_)|refine ae (c3) ?_);and_intros;all_goals first|(refine hK _ ?_;clear hK K)|try exact aa))
    refine hK _ trivial ?_
    clear hK
    repeat' (first|refine ak htt ?_|refine an ?_|(refine aj (fun K hK => ?_);and_intros;all_goals first|(refine hK _ ?_;clear hK K)|try exact aa))
    rw [ah]
    refine au 3 ?_ (by omega) (by decide)
    refine aE [(1,some 1),(2,some 2),(3,some 3),(4,some 4)] ?_ ?_
    and_intros
    all_goals first|exact aw|skip
   ·repeat' (first|refine ak htt ?_|refine an ?_|((first|refine aj (fun K hK => ?_)|refine ae (a1) ?_|refine ae (a2) ?_|refine ae (hsh) ?_);and_intros;all_goals first|(refine hK _ ?_;clear hK K)|try exact aa)|(refine ai ?_;(try clear hB KB);(try clear hK K)))
    rfl
 ·obtain rfl:=hk rfl
  have hr:=AF mode m s x b hm hmo hs hx
  generalize dI true 4 mode m s x b=y at *
  refine aI Tryz.func171 [.cell 14 147, .tmp 15] ?_
  repeat' (first|refine ak htt ?_|refine an ?_|((first|refine aj (fun K hK => ?_)|refine ae (hva) ?_|refine aq (fun hg=>hvp) ?_|refine ae (hr) ?_);and_intros;all_goals first|(refine hK _ ?_;clear hK K)|try exact aa)|(refine ai ?_;(try clear hB KB);(try clear hK K)))
  rfl
end Go.Proofs.YtcbifofjjpfbcaaGreatDoor
set_option maxHeartbeats 4000000
set_option maxRecDepth 16000
namespace Go.Proofs.YtcbifofjjpfbcaaGreatDoor
open Go Go.SL
open Go.RowKit (wrap64)
attribute [local go_sem] Int.toNat_natCast
def mr (r:Rect) (w h nx i:Int):Rect:=⟨r.x0+i % nx * w,r.y0+i / nx * h,if r.x1<r.x0+i % nx * w+w then r.x1 else r.x0+i % nx * w+w,if r.y1<r.y0+i / nx * h+h then r.y1 else r.y0+i / nx * h+h⟩
structure TileOk (r:Rect) (w h:Int):Prop where
 w:1≤w∧w≤r.x1 - r.x0
 h:1≤h∧h≤r.y1 - r.y0
theorem lj {r:Rect} {w h:Int} (hc:Small r) (ho:TileOk r w h):bP r w h=true:=by
 obtain ⟨x0,x1,y0,y1,hw,hh⟩:=hc
 obtain ⟨h1,h2⟩:=ho
 have he:aU r=false:=by
  simp only [aU,kI,Bool.or_eq_false_iff,Bool.not_eq_false',decide_eq_true_eq,decide_eq_false_iff_not]
  omega
 unfold bP
 rw [he]
 simp only [Bool.not_false,Bool.true_and,decide_eq_true_eq]
 omega
theorem Em {W w:Int} {n:Int} (h:1≤W∧W≤n) (hw:1≤w):1≤(W - 1) / w+1∧(W - 1) / w+1≤n:=by
 have b1:0≤(W - 1) / w:=Int.ediv_nonneg (by omega) (by omega)
 have b2:(W - 1) / w≤W - 1:=Int.ediv_le_self _ (by omega)
 omega
theorem nM {r:Rect} {w h:Int} (hc:Small r) (ho:TileOk r w h):(1≤aX r w h∧aX r w h≤5)∧1≤bz r w h∧bz r w h≤4:=by
 have hok:=lj hc ho
 unfold aX bz
 rw [if_pos hok,if_pos hok]
 exact ⟨Em hc.w ho.w.1,Em hc.h ho.h.1⟩
theorem vN {nx ny i w h : Int} (hx : 1 ≤ nx ∧ nx ≤ 5) (hy : 1 ≤ ny ∧ ny ≤ 4) (hi : 0 ≤ i ∧ i < nx * ny) (hw : 1 ≤ w ∧ w ≤ 5) (hh : 1 ≤ h ∧ h ≤ 4) :
  (0≤i / nx∧i / nx<ny)∧(0≤i % nx∧i % nx<nx)∧(0≤i % nx * w∧i % nx * w≤25)∧0≤i / nx * h∧i / nx * h≤16:=by
 have b1:0≤i / nx:=Int.ediv_nonneg (by omega) (by omega)
 have b2:i / nx<ny:=Int.ediv_lt_of_lt_mul (by omega) (by rw [Int.mul_comm];exact hi.2)
 have b3:=Int.emod_nonneg i (show nx≠0 by omega)
 have b4:=Int.emod_lt_of_pos i (show 0<nx by omega)
 have b5:i % nx * w≤5 * 5:=Int.mul_le_mul (by omega) (by omega) (by omega) (by omega)
 have b6:i / nx * h≤4 * 4:=Int.mul_le_mul (by omega) (by omega) (by omega) (by omega)
 exact ⟨⟨b1,b2⟩,⟨b3,b4⟩,⟨Int.mul_nonneg b3 (by omega),by omega⟩,Int.mul_nonneg b1 (by omega),by omega⟩
theorem Mw (r : Rect) (w h i : Int) (hc : Small r) (ho : TileOk r w h) (hi : 0 ≤ i ∧ i < aX r w h * bz r w h) :
  aF Sg 74 [ag (bc r),I w,I h,I i] (fun x=>x = .tup [ag (bc (mr r w h (aX r w h) i)),B true]):=by
 have hct:=lV r w h
 have hok:=lj hc ho
 obtain ⟨htx,hty⟩:=nM hc ho
 obtain ⟨x0,x1,y0,y1,hW,hH⟩:=hc
 obtain ⟨hw,hh⟩:=ho
 rw [hok] at hct
 generalize aX r w h=nx at *
 generalize bz r w h=ny at *
 obtain ⟨⟨b1,b2⟩,⟨b3,b4⟩,⟨b5,b6⟩,b7,b8⟩:=vN (w:=w) (h:=h) htx hty hi (by omega) (by omega)
 unfold mr
 refine aI Tryz.func74 [.cell 8 28, .tmp 9] ?_
 repeat' (first|with_reducible exact aK|refine ak hok ?_|((first|((with_reducible refine bC (id:=4) [] (by decide +kernel) (by decide +kernel) ?_ (fun K hK => ?_));(first|(refine And.intro (fun iw hiw => ?_) ?_;(focus ((try simp (maxSteps:=999999)(disch:=omega) only [go_sem] at hiw ⊢);(repeat (refine Eq.trans (if_neg ?_) ?_;(focus omega)));(first|exact hw iw (by omega)|rfl)));(focus (first|exact Nat.zero_le _|(simp (maxSteps:=999999)(disch:=omega) only [go_sem];done)|(simp (maxSteps:=999999)(disch:=omega) only [go_sem];omega))))|exact cS))|((with_reducible refine ch (id:=4) [] (by decide +kernel) (by decide +kernel) ?_ (fun K hK => ?_));(first|(refine And.intro (fun iw hiw => ?_) ?_;(focus ((try simp (maxSteps:=999999)(disch:=omega) only [go_sem] at hiw ⊢);(repeat (refine Eq.trans (if_neg ?_) ?_;(focus omega)));(first|exact hw iw (by omega)|rfl)));(focus (first|exact Nat.zero_le _|(simp (maxSteps:=999999)(disch:=omega) only [go_sem];done)|(simp (maxSteps:=999999)(disch:=omega) only [go_sem];omega))))|exact cS)));(try simp (maxSteps:=999999)(disch:=omega) only [go_sem]);and_intros;(all_goals first|(refine hK _ (by simp (maxSteps:=999999)(disch:=omega) only [go_sem]) ?_;clear hK K)|exact aa|skip))|refine an ?_|((first|refine aj (fun K hK => ?_)|refine aY ?_|refine ae (hct) ?_|refine aq (fun hg=>hct) ?_);and_intros;all_goals first|(refine hK _ ?_;clear hK K)|try exact aa)|((first|apply aC|apply ay);(case hf=>rfl);(case hc=>exact aS);(all_goals first|(intro hb;(try simp only [bZ] at hb))|skip))|exact ao|(refine aH (fun hb => ?_) (fun hb => ?_);all_goals try exact ax)|refine ar (fun KB hB => ?_)|(refine hB _ ?_;clear hB KB)|refine aA (S:=Sg) (by assumption) ?_|(refine ai ?_;(try clear hB KB);(try clear hK K)))
 ·exfalso
  simp only [Bool.false_eq_true,false_or] at hb
  omega
 ·rfl
end Go.Proofs.YtcbifofjjpfbcaaGreatDoor
set_option maxHeartbeats 1000000
namespace Go.Proofs.YtcbifofjjpfbcaaGreatDoor
structure Mic where
 op:Int
 kind:Int
 inp:Pixel
 back:Pixel
 k:Int
 out:Pixel
 deriving DecidableEq,Inhabited
section
variable {s:Script} {m x y:Int}
end
end Go.Proofs.YtcbifofjjpfbcaaGreatDoor
