/- Part of the proof: Q1, Q2, Z7, Q4, L1. -/
import Derived.Test.YtmfblbbemekkoaaGreatDoorM35
set_option linter.unusedSimpArgs false
set_option linter.unusedVariables false
set_option maxHeartbeats 4000000
set_option maxRecDepth 16000
namespace Go.Proofs.YtmfblbbemekkoaaGreatDoor
open Go Go.SL
open Go.RowKit (wrap64)
attribute [local go_sem] cN Int.toNat_natCast cM
theorem yi (bx : Nat → Option Bx) (nx id n : Nat) (g : Nat → Nat → PV) (i : Nat) (m ms : Int) (L : List Mic) (hL : L.length = n) (hg : fp g L) (o : Op) (p : Pixel) (hid : bx id = some (.arr 120 18 n g)) (hlt : id < nx) (hn : n ≤ 100000)
  (hm:Full m) (hmk:o.mask=0) (hop:0≤o.opacity∧o.opacity≤m) (hp:PixV p m) (hw:∀ i,nx≤i→bx i=none) :
  ∃ G:Nat→Nat→PV,fp G (L ++ cc m i o p ms)∧iV Sg bx nx 92 [.c (.own id n),I i,ag (cT o),ag (aF p),U ms,U m] (.tup [.c (.own (nx+5) (n+1)),ag (aF (ax m o p ms))])
   (aB (nx+5) (.arr 120 18 (n+1) G) (cY id bx)) (nx+6):=by
 have h1:=iN p o.opacity m hm hp hop.1 hop.2
 have e:bx=aB id (.arr 120 18 n g) bx:=bg hid
 have e2:ax m o p ms=aL p o.opacity m:=by
  unfold ax
  rw [if_pos hmk,gr hm]
 have es:cc m i o p ms=[⟨i,3,p,aI,o.opacity,aL p o.opacity m⟩]:=by
  unfold cc oS
  rw [if_pos hmk,if_pos hmk,e2];rfl
 rw [e2,es]
 have gg:(o.mask != 0)=false:=by rw [bne_eq_false_iff_eq];exact hmk
 generalize aL p o.opacity m=q at *
 refine ⟨?G, ?hG, ?hI⟩
 case hI =>
  refine dO Tryz.func92 rfl (rs:=[.tmp 12, .cell 13 41]) rfl rfl dK (by decide +kernel) (Nat.le_of_ble_eq_true rfl) ?_ (fun kf => ?_)
  ·intro v hv
   simp only [List.mem_cons,List.not_mem_nil,or_false] at hv
   rcases hv with rfl|rfl|rfl|rfl|rfl|rfl
   ·exact hlt
   ·trivial
   ·exact fun c hc=>by (obtain ⟨x,_,rfl⟩:=List.mem_map.1 hc;trivial)
   ·exact fun c hc=>by (obtain ⟨x,_,rfl⟩:=List.mem_map.1 hc;trivial)
   ·trivial
   ·trivial
  rw [e]
  repeat' (first|refine aj gg ?_|refine an ?_|((first|refine ai (fun K hK => ?_)|refine ae (h1) ?_);and_intros;(all_goals first|(refine hK _ ?_;clear hK K)|exact aa|skip)))
  refine fc (id:=6) (.br 0 (.br 1 (.br 2 (.br 3 (.br 4 (.br 5 (.br 6 (.br 7 (.br 8 (.br 9 (.br 10 (.br 11 .leaf .nil) .nil) .nil) (.br 9 (.br 8 (.br 10 (.br 11 .leaf .nil) .nil) .nil) .nil)) (.br 9 (.br 7 (.br 8 (.br 10 (.br 11 .leaf .nil) .nil) .nil) .nil) .nil)) .nil) .nil) .nil) .nil) .nil) .nil) .nil) (by decide +kernel) ?_ (fun K0 hW => ?_)
  ·(first|(refine And.intro (fun iw hiw => ?_) ?_;(focus ((try simp (maxSteps:=999999)(disch:=omega) only [go_sem] at hiw ⊢);(repeat (refine Eq.trans (if_neg ?_) ?_;(focus omega)));exact hw iw (by omega)));(focus (first|exact Nat.zero_le _|(simp (maxSteps:=999999)(disch:=omega) only [go_sem];done)|(simp (maxSteps:=999999)(disch:=omega) only [go_sem];omega))))|exact cR)
  replace hW:=ep hW
  repeat' (first|exact ba|(refine bq (fun K' hK' => ?_) ?_)|(refine aV (hW _ ?_);clear hW)|(simp (maxSteps:=999999)(disch:=omega) only [go_sem];and_intros;(all_goals first|(refine hK' _ ?_;clear hK' K')|trivial|omega|exact Nat.le_of_ble_eq_true rfl|exact aa|skip)))
  all_goals
   refine dg ?_
   repeat' (refine ak ?_;(try clear hB KB);(try clear hK K))
   refine ⟨rfl,sy (bx:=aB id (.arr 120 18 n g) bx) (nx:=nx) ?_ ?_ (fun i hi h1 h2 => ?_), ?_⟩
   ·rw [← e];exact hw
   ·(first|(simp (maxSteps:=999999)(disch:=omega) only [go_sem];done)|(simp (maxSteps:=999999)(disch:=omega) only [go_sem];rfl))
   ·simp (maxSteps:=999999)(disch:=omega) only [go_sem]
   ·omega
 ·show fp (fX n g _) _
  refine gN hL hg fun j hj => ?_
  have hivl:j=0∨j=1∨j=2∨j=3∨j=4∨j=5∨j=6∨j=7∨j=8∨j=9∨j=10∨j=11∨j=12∨j=13∨j=14∨j=15∨j=16∨j=17:=by omega
  rcases hivl with rfl|rfl|rfl|rfl|rfl|rfl|rfl|rfl|rfl|rfl|rfl|rfl|rfl|rfl|rfl|rfl|rfl|rfl <;> rfl
theorem yx (bx : Nat → Option Bx) (nx id n : Nat) (g : Nat → Nat → PV) (i : Nat) (m ms : Int) (L : List Mic) (hL : L.length = n) (hg : fp g L) (o : Op) (p : Pixel) (hid : bx id = some (.arr 120 18 n g)) (hlt : id < nx) (hn : n ≤ 100000)
  (hm:Full m) (hmk:o.mask≠0) (hop:0≤o.opacity∧o.opacity≤m) (hp:PixV p m) (hms:0≤ms∧ms≤m) (hw:∀ i,nx≤i→bx i=none) :
  ∃ G:Nat→Nat→PV,fp G (L ++ cc m i o p ms)∧iV Sg bx nx 92 [.c (.own id n),I i,ag (cT o),ag (aF p),U ms,U m] (.tup [.c (.own (nx+8) (n+2)),ag (aF (ax m o p ms))])
   (aB (nx+8) (.arr 120 18 (n+2) G) (cY id bx)) (nx+9):=by
 have h1:=iN p ms m hm hp hms.1 hms.2
 have h2:=iN (aL p ms m) o.opacity m hm (gP hm hp hms.1 hms.2) hop.1 hop.2
 have e:bx=aB id (.arr 120 18 n g) bx:=bg hid
 have e2:ax m o p ms=aL (aL p ms m) o.opacity m:=by
  unfold ax
  rw [if_neg hmk]
 have es:cc m i o p ms=[⟨i,2,p,aI,ms,aL p ms m⟩,⟨i,3,aL p ms m,aI,o.opacity,aL (aL p ms m) o.opacity m⟩]:=by
  unfold cc oS
  rw [if_neg hmk,if_neg hmk,e2];rfl
 rw [e2,es]
 have gg:(o.mask != 0)=true:=by rw [bne_iff_ne];exact hmk
 generalize aL (aL p ms m) o.opacity m=q at *
 generalize aL p ms m=q1 at *
 refine ⟨?G, ?hG, ?hI⟩
 case hI =>
  refine dO Tryz.func92 rfl (rs:=[.tmp 12, .cell 13 41]) rfl rfl dK (by decide +kernel) (Nat.le_of_ble_eq_true rfl) ?_ (fun kf => ?_)
  ·intro v hv
   simp only [List.mem_cons,List.not_mem_nil,or_false] at hv
   rcases hv with rfl|rfl|rfl|rfl|rfl|rfl
   ·exact hlt
   ·trivial
   ·exact fun c hc=>by (obtain ⟨x,_,rfl⟩:=List.mem_map.1 hc;trivial)
   ·exact fun c hc=>by (obtain ⟨x,_,rfl⟩:=List.mem_map.1 hc;trivial)
   ·trivial
   ·trivial
  rw [e]
  repeat' (first|refine aj gg ?_|refine an ?_|((first|refine ai (fun K hK => ?_)|refine ae (h1) ?_|refine ae (h2) ?_);and_intros;(all_goals first|(refine hK _ ?_;clear hK K)|exact aa|skip)))
  refine fc (id:=6) (.br 0 (.br 1 (.br 2 (.br 3 (.br 4 (.br 5 (.br 6 (.br 7 (.br 8 (.br 9 (.br 10 (.br 11 .leaf .nil) .nil) .nil) (.br 9 (.br 8 (.br 10 (.br 11 .leaf .nil) .nil) .nil) .nil)) (.br 9 (.br 7 (.br 8 (.br 10 (.br 11 .leaf .nil) .nil) .nil) .nil) .nil)) .nil) .nil) .nil) .nil) .nil) .nil) .nil) (by decide +kernel) ?_ (fun K0 hW => ?_)
  ·(first|(refine And.intro (fun iw hiw => ?_) ?_;(focus ((try simp (maxSteps:=999999)(disch:=omega) only [go_sem] at hiw ⊢);(repeat (refine Eq.trans (if_neg ?_) ?_;(focus omega)));exact hw iw (by omega)));(focus (first|exact Nat.zero_le _|(simp (maxSteps:=999999)(disch:=omega) only [go_sem];done)|(simp (maxSteps:=999999)(disch:=omega) only [go_sem];omega))))|exact cR)
  replace hW:=ep hW
  repeat' (first|exact ba|(refine bq (fun K' hK' => ?_) ?_)|(refine aV (hW _ ?_);clear hW)|(simp (maxSteps:=999999)(disch:=omega) only [go_sem];and_intros;(all_goals first|(refine hK' _ ?_;clear hK' K')|trivial|omega|exact Nat.le_of_ble_eq_true rfl|exact aa|skip)))
  all_goals
   refine dg ?_
   repeat' (refine ak ?_;(try clear hB KB);(try clear hK K))
   refine ⟨rfl,sy (bx:=aB id (.arr 120 18 n g) bx) (nx:=nx) ?_ ?_ (fun i hi h1 h2 => ?_), ?_⟩
   ·rw [← e];exact hw
   ·(first|(simp (maxSteps:=999999)(disch:=omega) only [go_sem];done)|(simp (maxSteps:=999999)(disch:=omega) only [go_sem];rfl))
   ·simp (maxSteps:=999999)(disch:=omega) only [go_sem]
   ·omega
 ·rw [show ∀ a b:Mic,L ++ [a,b]=(L ++ [a]) ++ [b] from fun a b=>by simp]
  show fp (fX (n+1) (fX n g _) _) _
  refine gN (by rw [List.length_append,hL];rfl) (gN hL hg fun j hj => ?_) fun j hj => ?_
  ·have hivl:j=0∨j=1∨j=2∨j=3∨j=4∨j=5∨j=6∨j=7∨j=8∨j=9∨j=10∨j=11∨j=12∨j=13∨j=14∨j=15∨j=16∨j=17:=by omega
   rcases hivl with rfl|rfl|rfl|rfl|rfl|rfl|rfl|rfl|rfl|rfl|rfl|rfl|rfl|rfl|rfl|rfl|rfl|rfl <;> rfl
  ·have hivl:j=0∨j=1∨j=2∨j=3∨j=4∨j=5∨j=6∨j=7∨j=8∨j=9∨j=10∨j=11∨j=12∨j=13∨j=14∨j=15∨j=16∨j=17:=by omega
   rcases hivl with rfl|rfl|rfl|rfl|rfl|rfl|rfl|rfl|rfl|rfl|rfl|rfl|rfl|rfl|rfl|rfl|rfl|rfl <;> rfl
end Go.Proofs.YtmfblbbemekkoaaGreatDoor
set_option maxHeartbeats 8000000
set_option maxRecDepth 16000
namespace Go.Proofs.YtmfblbbemekkoaaGreatDoor
open Go Go.SL
open Go.RowKit (wrap64)
attribute [local go_sem] cN pE cA Int.toNat_natCast
theorem oO {st : St} {K : SV → St → Prop} {g : Nat → Nat → PV} (id n i : Nat) (m ms : Int) (L : List Mic) (hL : L.length = n) (o : Op) (p : Pixel) (hid : st.bx id = some (.arr 120 18 n g)) (hg : fp g L) (hlt : id < st.nx) (hn : n ≤ 100000)
  (hm:Full m) (hop:0≤o.opacity∧o.opacity≤m) (hp:PixV p m) (hms:0≤ms∧ms≤m) (hw:∀ i,st.nx≤i→st.bx i=none)
  (hK0:o.mask=0→∀ G:Nat→Nat→PV,fp G (L ++ cc m i o p ms)→K (.tup [.c (.own (st.nx+5) (n+1)),ag (aF (ax m o p ms))]) (st.turn (aB (st.nx+5) (.arr 120 18 (n+1) G) (cY id st.bx)) (st.nx+6)))
  (hK1:o.mask≠0→∀ G:Nat→Nat→PV,fp G (L ++ cc m i o p ms)→K (.tup [.c (.own (st.nx+8) (n+2)),ag (aF (ax m o p ms))]) (st.turn (aB (st.nx+8) (.arr 120 18 (n+2) G) (cY id st.bx)) (st.nx+9))) :
  du Sg st 92 [.c (.own id n),I i,ag (cT o),ag (aF p),U ms,U m] (Sl.of K):=by
 by_cases h:o.mask=0
 ·obtain ⟨G,hG,hI⟩:=yi st.bx st.nx id n g i m ms L hL hg o p hid hlt hn hm h hop hp hw
  refine cf hI rfl (fun i hi => ?_) (by omega) (hK0 h G hG)
  unfold aB cY
  rw [if_neg (by omega),if_neg (by omega)]
  exact hw i (by omega)
 ·obtain ⟨G,hG,hI⟩:=yx st.bx st.nx id n g i m ms L hL hg o p hid hlt hn hm h hop hp hms hw
  refine cf hI rfl (fun i hi => ?_) (by omega) (hK1 h G hG)
  unfold aB cY
  rw [if_neg (by omega),if_neg (by omega)]
  exact hw i (by omega)
theorem Kl (s : Script) (x y m : Int) (C : Pt s m x y) (hs : ScriptLen s) (hx : i64 x) (hy : i64 y) :
  aC Sg 59 [ag (aE s),I x,I y] (fun r=>r = .tup [.c (.p (pM (cn m (bd s x y) s.ops s.ops.length))),uD m ((fI m (bd s x y) s.ops s.ops.length).headD cz)]):=by
 have V:=C.V
 have W:=V.wf
 have hm:=C.hm
 have hmx:aC Sg 25 [I s.bits] (fun x=>x = .tup [U m,B (decide (s.bits=8∨s.bits=16))]):=by
  have:=fy s.bits
  rw [show (if s.bits=8 then (255:Int) else if s.bits=16 then 65535 else 0)=bo s.bits from rfl,C.mx] at this
  exact this
 have hcnt:=V.cnt
 have ht:True:=trivial
 refine ix ?_
 refine pG Tryz.func59 rfl (rs:=[.tmp 6, .tmp 7]) rfl rfl dK (by decide +kernel) (Nat.le_of_ble_eq_true rfl) (ch (by simp (maxSteps:=999999)(disch:=omega) only [go_sem])) ?_
 repeat' ((first|refine ai (fun K hK => ?_)|refine ae (hmx) ?_);and_intros;(all_goals first|(refine hK _ ?_;clear hK K)|exact aa|skip))
 refine yR m hm ?_ (fun F0 hF0 => ?_)
 ·intro iw hiw
  simp (maxSteps:=999999)(disch:=omega) only [go_sem] at hiw ⊢
  refine Eq.trans (if_neg ?_) rfl
  omega
 simp (maxSteps:=999999)(disch:=omega) only [go_sem]
 refine hK _ ?_
 clear hK
 repeat' (first|refine an ?_|(refine ai (fun K hK => ?_);and_intros;(all_goals first|(refine hK _ ?_;clear hK K)|exact aa|skip)))
 have e0:fI m (bd s x y) s.ops 0=[cz]:=by
  unfold fI jR
  rw [List.take_zero,List.foldl_nil]
 refine aO (X:=Nat × (Nat→Nat→PV)) (fun z=>aQ [(1, .b (I x)),(2, .b (I y)),(3, .b (.c (.ptr 0 0))),(8, .b (U m)),(10, .b (.c (.ptr 1 0))),(12, .b (.c (.own 3 (cn m (bd s x y) s.ops z.1).length))),(13, .b (I z.1))]
  [(0, .fix ((aE s).map CV.p)),(1, .fix [.p (PU m), .own 2 ((bD s.ops z.1).length+1)]),(2, .arr 162 23 ((bD s.ops z.1).length+1) z.2),(3, .arr 120 18 (cn m (bd s x y) s.ops z.1).length (bj cP (cn m (bd s x y) s.ops z.1)))] 4)
  (fun z=>z.1≤s.ops.length∧uz z.2 (fI m (bd s x y) s.ops z.1)) (fun z=>s.ops.length - z.1) (0,F0) ?_ ?_ ?_
 ·refine ⟨Nat.zero_le _, ?_⟩
  rw [e0]
  exact ⟨hF0,trivial⟩
 ·refine az [(1,some 2),(2,some 1),(3,none)] ?_ ?_
  and_intros
  all_goals first|exact ao|skip
 rintro ⟨i,f⟩ ⟨hi,hh⟩
 dsimp only at hi hh ⊢
 have hnl:=nr (m:=m) (z:=bd s x y) (ops:=s.ops) i
 have htr:cn m (bd s x y) s.ops (i+1)=cn m (bd s x y) s.ops i ++ qs m (bd s x y) i (fI m (bd s x y) s.ops i) (aR s.ops i):=rfl
 obtain ⟨gl,hgl⟩:∃ L,cn m (bd s x y) s.ops i=L:=⟨_,rfl⟩
 obtain ⟨nl,hln⟩:∃ n,gl.length=n:=⟨_,rfl⟩
 have hfin:cn m (bd s x y) s.ops i=gl:=hgl
 rw [hgl] at hnl htr ⊢
 rw [hln] at hnl ⊢
 have ha:=BW C i hi
 obtain ⟨t,r,e⟩:=ha.ne
 rw [e] at ha hh
 have hlen:(bD s.ops i).length=r.length:=by
  have:=congrArg List.length ha.o
  simp only [List.length_map,List.length_cons,List.length_append,List.length_nil] at this
  omega
 have hf:cQ (f (bD s.ops i).length) t:=by rw [hlen];exact hh.1
 have hst:=xp V hi
 rcases Nat.lt_or_ge i s.ops.length with hlt|hge
 ·rcases W.kinds i hlt with hk|hk|hk
  ·have hk2:(s.ops.getD i default).kind=1:=hk
   have hfit:=ha.fit C hlt (by omega)
   obtain ⟨b0,b1,b2,⟨b3,b3'⟩,⟨b4,b4'⟩,⟨b5,b5'⟩,b6,b6'⟩:=kC C hlt (by omega)
   have hz:=C.z
   obtain ⟨q1,q2,q3,q4⟩:=bP.1 (V.ok i hlt)
   obtain ⟨_,_,_,q5,q6,_⟩:=q4 (by omega)
   simp only [fV,decide_eq_true_eq] at q5 q6
   have hsm:=ir s (aR s.ops i) x y hs hx hy ⟨by omega,by omega⟩ ⟨by omega,by omega⟩ ⟨by omega,by omega⟩ ⟨by omega,by omega⟩
   have hp:=hz.p (aR s.ops i)
   have hk0:=hz.k0 (aR s.ops i)
   have hkm:=hz.km (aR s.ops i)
   have hko:t.op.knockout=true→(s.ops.getD i default).operator=4:=fun h=>hfit.ctx.elim id fun q=>by rw [h] at q;cases q.2
   have hac:=qT m (bD s.ops i).length f t (by omega) hf
   have hco:=fw t.acc
   have hnx:=dS (m:=m) (z:=bd s x y) hlt
   rw [e,lP hk] at hnx
   rw [e,tk hk] at htr
   have hsl:=oN (m:=m) (i:=i) (o:=aR s.ops i) (p:=(bd s x y (aR s.ops i)).1) (k:=(bd s x y (aR s.ops i)).2)
   generalize hz1:bd s x y (aR s.ops i)=zz at *
   obtain ⟨p,ms⟩:=zz
   dsimp only at *
   unfold aR at *
   have htr2:cn m (bd s x y) s.ops (i+1)=((gl ++ [(⟨(i:Int),1,aI,aI,0,p⟩:Mic)]) ++ cc m i (s.ops.getD i default) p ms) ++ [(⟨(i:Int),4,ax m (s.ops.getD i default) p ms,dP t.acc,0,dP (bJ m (s.ops.getD i default) (ax m (s.ops.getD i default) p ms) t).acc⟩:Mic)]:=by rw [htr];simp
   repeat' (first|refine aj hk2 ?_|refine an ?_|((with_reducible refine aT (id:=13) (fun K hW => ?_));(try simp (maxSteps:=999999)(disch:=omega) only [go_sem]);and_intros;(all_goals first|(refine hK _ ?_;clear hK K)|exact aa|skip))|((first|refine ai (fun K hK => ?_)|refine ae (hsm) ?_);and_intros;(all_goals first|(refine hK _ ?_;clear hK K)|exact aa|skip))|(refine aW (fun hb => ?_) (fun hb => ?_);all_goals try exact aG))
   refine (fun (tl:∀ (n':Nat) (L2:List Mic) (st:St),n'≤nl+3→L2.length=n'→L2=(gl ++ [(⟨(i:Int),1,aI,aI,0,p⟩:Mic)]) ++ cc m i (s.ops.getD i default) p ms→Le st (aQ [(1, .b (I x)),(2, .b (I y)),(3, .b (.c (.ptr 0 0))),(8, .b (U m)),(10, .b (.c (.ptr 1 0))),(12, .b (.c (.own 3 n'))),(13, .b (I i)),(14, .b (.c (.ptr 4 0))),(15, .b (.c (.ptr 5 0))),(16, .b (U ms)),(17, .b (.c (.ptr 6 0)))]
    [(0, .fix ((aE s).map CV.p)),(1, .fix [.p (PU m), .own 2 ((bD s.ops i).length+1)]),(2, .arr 162 23 ((bD s.ops i).length+1) f),(3, .arr 120 18 n' (bj cP L2)),(4, .fix ((cT (s.ops.getD i default)).map CV.p)),(5, .fix ((aF p).map CV.p)),(6, .fix ((aF (ax m (s.ops.getD i default) p ms)).map CV.p))] 7)→K st) => ?_) (fun n' L2 st hn' hn2 hL2 hl=>hW st _ hl ?_)
   ·clear hW
    refine oO (g := ?g) 7 (nl+1) i m ms (gl ++ [(⟨(i:Int),1,aI,aI,0,p⟩:Mic)]) (by rw [List.length_append,hln];rfl) (s.ops.getD i default) p ?hid ?hg ?hlt (by omega) hm ⟨hfit.op0,hfit.opm⟩ hp ⟨hk0,hkm⟩ ?hw (fun hmk G hG => ?hK0) (fun hmk G hG => ?hK1)
    case hid=>(first|(simp (maxSteps:=999999)(disch:=omega) only [go_sem];done)|(simp (maxSteps:=999999)(disch:=omega) only [go_sem];rfl))
    case hg=>exact gN hln (kJ gl) (fun j hj=>by (have hivl:j=0∨j=1∨j=2∨j=3∨j=4∨j=5∨j=6∨j=7∨j=8∨j=9∨j=10∨j=11∨j=12∨j=13∨j=14∨j=15∨j=16∨j=17:=by omega);rcases hivl with rfl|rfl|rfl|rfl|rfl|rfl|rfl|rfl|rfl|rfl|rfl|rfl|rfl|rfl|rfl|rfl|rfl|rfl <;> rfl)
    case hlt=>simp (maxSteps:=999999)(disch:=omega) only [go_sem]
    case hw =>
     intro iw hiw
     (try simp (maxSteps:=999999)(disch:=omega) only [go_sem] at hiw ⊢)
     (repeat (refine Eq.trans (if_neg ?_) ?_;(focus omega)))
     (try rfl)
    case hK0 =>
     simp (maxSteps:=999999)(disch:=omega) only [go_sem]
     have hlen2:((gl ++ [(⟨(i:Int),1,aI,aI,0,p⟩:Mic)]) ++ cc m i (s.ops.getD i default) p ms).length=nl+2:=by
      rw [List.length_append,List.length_append,hln,oX hmk];rfl
     refine tl (nl+2) _ _ (by omega) hlen2 rfl ?_
     refine az [(1,some 1),(2,some 2),(3,some 14),(4,some 4),(5,some 5),(6,some 8)] ?_ ?_
     and_intros
     all_goals first|exact ao|skip
     all_goals exact .inr fun a ha j hj=>gV hG a (by omega) j hj
    case hK1 =>
     simp (maxSteps:=999999)(disch:=omega) only [go_sem]
     have hlen2:((gl ++ [(⟨(i:Int),1,aI,aI,0,p⟩:Mic)]) ++ cc m i (s.ops.getD i default) p ms).length=nl+3:=by
      rw [List.length_append,List.length_append,hln,pP hmk];rfl
     refine tl (nl+3) _ _ (by omega) hlen2 rfl ?_
     refine az [(1,some 1),(2,some 2),(3,some 17),(4,some 4),(5,some 5),(6,some 8)] ?_ ?_
     and_intros
     all_goals first|exact ao|skip
     all_goals exact .inr fun a ha j hj=>gV hG a (by omega) j hj
   clear hW hl
   have hf2:=qM (q:=dH t.op.knockout (s.ops.getD i default).operator (s.ops.getD i default).mode m (ax m (s.ops.getD i default) p ms) t.acc t.back) hf
   have hac2:=qT m (bD s.ops i).length _ _ (by omega) hf2
   have hco2:=fw (dH t.op.knockout (s.ops.getD i default).operator (s.ops.getD i default).mode m (ax m (s.ops.getD i default) p ms) t.acc t.back)
   repeat' ((first|refine ai (fun K hK => ?_)|refine fk (k:=2) hac (eZ _) ?_|refine ae (hco) ?_);and_intros;(all_goals first|(refine hK _ ?_;clear hK K)|exact aa|skip))
   refine wI 1 2 (bD s.ops i).length f m (s.ops.getD i default) p ms t ?_ ?_ ?_ ?_ (by decide) (by omega) hf hm hk2 q5 q6 ⟨hfit.op0,hfit.opm⟩ hp ⟨hk0,hkm⟩ ha.v.head.v hko ?_ ?_
   ·simp (maxSteps:=999999)(disch:=omega) only [go_sem]
   ·simp (maxSteps:=999999)(disch:=omega) only [go_sem]
   ·simp (maxSteps:=999999)(disch:=omega) only [go_sem]
   ·simp (maxSteps:=999999)(disch:=omega) only [go_sem]
   ·intro iw hiw
    (try simp (maxSteps:=999999)(disch:=omega) only [go_sem] at hiw ⊢)
    (repeat (refine Eq.trans (if_neg ?_) ?_;(focus omega)))
    (try rfl)
   simp (maxSteps:=999999)(disch:=omega) only [go_sem]
   refine hK _ ?_
   clear hK
   refine iP (id:=16) (.br 0 (.br 1 (.br 2 (.br 3 (.br 4 (.br 5 (.br 6 (.br 7 (.br 8 (.br 9 (.br 10 .leaf .nil) .nil) .nil) .nil) .nil) .nil) .nil) .nil) .nil) .nil) .nil) (by decide +kernel) ?_ (fun K0 hW => ?_)
   ·refine ⟨?_,Nat.zero_le _⟩
    intro iw hiw
    (try simp (maxSteps:=999999)(disch:=omega) only [go_sem] at hiw ⊢)
    (repeat (refine Eq.trans (if_neg ?_) ?_;(focus omega)))
    (try rfl)
   replace hW:=ep hW
   repeat' (first|exact ba|(refine bq (fun K' hK' => ?_) ?_)|(refine aV (hW _ ?_);clear hW)|((first|refine fk (k:=2) hac2 (eZ _) ?_|refine ae (hco2) ?_);(try simp (maxSteps:=999999)(disch:=omega) only [go_sem]);and_intros;(all_goals first|(refine hK' _ ?_;clear hK' K')|trivial|omega|exact Nat.le_of_ble_eq_true rfl|exact aa|skip))|(simp (maxSteps:=999999)(disch:=omega) only [go_sem];and_intros;(all_goals first|(refine hK' _ ?_;clear hK' K')|trivial|omega|exact Nat.le_of_ble_eq_true rfl|exact aa|skip)))
   refine dg ?_
   refine .inl ⟨aQ [(1, .b (I x)),(2, .b (I y)),(3, .b (.c (.ptr 0 0))),(8, .b (U m)),(10, .b (.c (.ptr 1 0))),(12, .b (.c (.own 3 (n'+1)))),(13, .b (I i))] [(0, .fix ((aE s).map CV.p)),(1, .fix [.p (PU m), .own 2 ((bD s.ops i).length+1)]),(2, .arr 162 23 ((bD s.ops i).length+1) (jM (bD s.ops i).length f (dH t.op.knockout (s.ops.getD i default).operator (s.ops.getD i default).mode m (ax m (s.ops.getD i default) p ms) t.acc t.back))),(3, .arr 120 18 (n'+1) (bj cP (L2 ++ [(⟨(i:Int),4,ax m (s.ops.getD i default) p ms,dP t.acc,0,dP (bJ m (s.ops.getD i default) (ax m (s.ops.getD i default) p ms) t).acc⟩:Mic)])))] 4, ?_, ?_⟩
   ·refine az [(1,some 1),(2,some 2),(3,some 16)] ?_ ?_
    and_intros
    all_goals first|exact ao|skip
    all_goals exact .inr fun a ha j hj=>gV (gN hn2 (kJ L2) (fun j hj=>by (have hivl:j=0∨j=1∨j=2∨j=3∨j=4∨j=5∨j=6∨j=7∨j=8∨j=9∨j=10∨j=11∨j=12∨j=13∨j=14∨j=15∨j=16∨j=17:=by omega);rcases hivl with rfl|rfl|rfl|rfl|rfl|rfl|rfl|rfl|rfl|rfl|rfl|rfl|rfl|rfl|rfl|rfl|rfl|rfl <;> rfl)) a (by rw [List.length_append,hn2];exact ha) j hj
   repeat' (refine ai (fun K hK => ?_);and_intros;(all_goals first|(refine hK _ ?_;clear hK K)|exact aa|skip))
   rw [ah]
   refine aw (i+1,(jM (bD s.ops i).length f (dH t.op.knockout (s.ops.getD i default).operator (s.ops.getD i default).mode m (ax m (s.ops.getD i default) p ms) t.acc t.back))) ?_ ⟨by dsimp only;omega, ?_⟩ (by dsimp only;omega)
   ·dsimp only
    have hl3:(L2 ++ [(⟨(i:Int),4,ax m (s.ops.getD i default) p ms,dP t.acc,0,dP (bJ m (s.ops.getD i default) (ax m (s.ops.getD i default) p ms) t).acc⟩:Mic)]).length=n'+1:=by rw [List.length_append,hn2];rfl
    rw [fv hk,htr2,← hL2,hl3]
    refine az [(1,some 1),(2,some 2),(3,some 3)] ?_ ?_
    and_intros
    all_goals first|exact ao|skip
   ·dsimp only
    rw [hnx]
    refine ⟨by rw [hlen] at hf2 ⊢;exact hf2,cB (fun a ha j=>qo (by omega)) hh.2⟩
  ·have hk2:(s.ops.getD i default).kind=2:=hk
   obtain ⟨_,_,_,q4⟩:=bP.1 (V.ok i hlt)
   obtain ⟨_,_,_,_,_,_,q7⟩:=q4 (by omega)
   have hd:=q7 hk
   rw [List.length_map,List.length_reverse] at hd
   have hnx:=dS (m:=m) (z:=bd s x y) hlt
   rw [e,lp hk] at hnx
   rw [e,qv hk] at htr
   repeat' (first|refine aj hk2 ?_|refine an ?_|(refine ai (fun K hK => ?_);and_intros;(all_goals first|(refine hK _ ?_;clear hK K)|exact aa|skip))|(refine aW (fun hb => ?_) (fun hb => ?_);all_goals try exact aG))
   refine wF 1 2 (bD s.ops i).length f m (s.ops.getD i default) t ?_ ?_ ?_ ?_ (by decide) hd hf hk2 ?_ (fun F hF1 hF2 => ?_)
   ·simp (maxSteps:=999999)(disch:=omega) only [go_sem]
   ·simp (maxSteps:=999999)(disch:=omega) only [go_sem]
   ·simp (maxSteps:=999999)(disch:=omega) only [go_sem]
   ·simp (maxSteps:=999999)(disch:=omega) only [go_sem]
   ·intro iw hiw
    (try simp (maxSteps:=999999)(disch:=omega) only [go_sem] at hiw ⊢)
    (repeat (refine Eq.trans (if_neg ?_) ?_;(focus omega)))
    (try rfl)
   simp (maxSteps:=999999)(disch:=omega) only [go_sem]
   refine hK _ ?_
   clear hK
   have hbk:=Co m ((bD s.ops i).length+1) F (fi (s.ops.getD i default) t) (by omega) hF1
   repeat' (first|refine an ?_|((first|refine ai (fun K hK => ?_)|refine fk (k:=11) hbk (fT _) ?_);and_intros;(all_goals first|(refine hK _ ?_;clear hK K)|exact aa|skip)))
   rw [ah]
   refine aw (i+1,F) ?_ ⟨by dsimp only;omega, ?_⟩ (by dsimp only;omega)
   ·dsimp only
    have hl3:(gl ++ [(⟨(i:Int),5,aI,aI,0,(fi (aR s.ops i) t).back⟩:Mic)]).length=nl+1:=by rw [List.length_append,hln];rfl
    rw [fx hk,List.length_cons,htr,hl3]
    refine az [(1,some 1),(2,some 11),(3,some 13)] ?_ ?_
    and_intros
    all_goals first|exact ao|skip
    all_goals exact .inr fun a ha j hj=>gV (gN hln (kJ gl) (fun j hj=>by (have hivl:j=0∨j=1∨j=2∨j=3∨j=4∨j=5∨j=6∨j=7∨j=8∨j=9∨j=10∨j=11∨j=12∨j=13∨j=14∨j=15∨j=16∨j=17:=by omega);rcases hivl with rfl|rfl|rfl|rfl|rfl|rfl|rfl|rfl|rfl|rfl|rfl|rfl|rfl|rfl|rfl|rfl|rfl|rfl <;> rfl)) a (by rw [List.length_append,hln];exact ha) j hj
   ·dsimp only
    rw [hnx]
    refine ⟨by rw [hlen] at hF1;exact hF1,cB (fun a ha j=>hF2 a (by rw [hlen];exact ha) j) hh⟩
  ·have hk2:(s.ops.getD i default).kind=3:=hk
   have hnx:=dS (m:=m) (z:=bd s x y) hlt
   obtain ⟨g,sk,hsk⟩:∃ g sk,bD s.ops i=g :: sk:=by
    cases hq:bD s.ops i with
    | nil=>exact absurd hq (W.pops i hlt hk)
    | cons g sk=>exact ⟨g,sk,rfl⟩
   cases r with
   | nil=>rw [hsk] at hlen;cases hlen
   | cons u r =>
   rw [e,nb hk] at hnx
   rw [e,xi hk] at htr
   have hsl:=oN (m:=m) (i:=i) (o:=t.op) (p:=aU t.acc t.back m) (k:=(bd s x y t.op).2)
   obtain ⟨vt,vf,vs⟩:=ha.v
   have ho:=ha.o
   rw [hsk] at ho
   have eg:t.op=aR s.ops g:=(List.cons.inj ho).1
   have hgl:g<i:=qu (ops:=s.ops) (by rw [hsk];exact List.mem_cons_self ..)
   have hgk:(aR s.ops g).kind=2:=iG (i:=i) (by rw [hsk];exact List.mem_cons_self ..)
   obtain ⟨b0,b1,b2,⟨b3,b3'⟩,⟨b4,b4'⟩,⟨b5,b5'⟩,b6,b6'⟩:=kC C (show g<s.ops.length by omega) (by omega)
   obtain ⟨_,_,_,q4⟩:=bP.1 (V.ok g (by omega))
   obtain ⟨_,_,_,q5,q6,_⟩:=q4 (by omega)
   rw [← eg] at b0 b1 b2 b3 b3' b4 b4' b5 b5' b6 b6' q5 q6
   simp only [fV,decide_eq_true_eq] at q5 q6
   have hlk:(bD s.ops i).length=r.length+1:=by rw [hlen];rfl
   have hls:(bD s.ops (i+1)).length=r.length:=by rw [lC hk,List.length_tail,hlk];rfl
   have hu:cQ (f r.length) u:=hh.2.1
   rw [hlk] at hf hst ⊢
   have hz:=C.z
   have hsm:=ir s t.op x y hs hx hy ⟨by omega,by omega⟩ ⟨by omega,by omega⟩ ⟨by omega,by omega⟩ ⟨by omega,by omega⟩
   have hk0:=hz.k0 t.op
   have hkm:=hz.km t.op
   have htp:=mh m (r.length+1) f (by omega)
   have hre:=nB t.acc t.back m hm vt.v
   have hrv:=fW hm vt.v
   have hco:aC Sg 93 [ag [f r.length 12,f r.length 13,f r.length 14,f r.length 15,f r.length 16,f r.length 17]] (fun r=>r = .b (ag (aF ⟨u.acc.c0,u.acc.c1,u.acc.c2,u.acc.a,u.acc.f⟩))):=by
    obtain ⟨e0,e1,e2,e3,e4,e5,e6,e7,e8,e9,e10,e11,e12,e13,e14,e15,e16,e17,e18,e19,e20,e21,e22⟩:=Dr hu
    rw [e12,e13,e14,e15,e16,e17]
    exact fw u.acc
   have hko:u.op.knockout=true→t.op.operator=4:=fun h=>vf.ctx.elim id fun q=>by rw [h] at q;cases q.2
   generalize hz1:bd s x y t.op=zz at *
   obtain ⟨p,ms⟩:=zz
   dsimp only at hsm hk0 hkm hnx htr hsl
   generalize hres:aU t.acc t.back m=res at *
   have htr2:cn m (bd s x y) s.ops (i+1)=((gl ++ [(⟨(i:Int),6,aI,aI,0,res⟩:Mic)]) ++ cc m i t.op res ms) ++ [(⟨(i:Int),4,ax m t.op res ms,dP u.acc,0,dP (bJ m t.op (ax m t.op res ms) u).acc⟩:Mic)]:=by rw [htr];simp
   repeat' (first|refine aj hk2 ?_|refine an ?_|(refine ai (fun K hK => ?_);and_intros;(all_goals first|(refine hK _ ?_;clear hK K)|exact aa|skip))|(refine aW (fun hb => ?_) (fun hb => ?_);all_goals try exact aG))
   refine dN (id:=21) (.br 0 (.br 1 (.br 2 (.br 3 (.br 4 (.br 5 (.br 6 (.br 7 (.br 8 (.br 9 .leaf .nil) .nil) .nil) .nil) (.br 8 (.br 5 (.br 6 (.br 7 (.br 9 .leaf .nil) .nil) .nil) .nil) .nil)) .nil) .nil) .nil) .nil) .nil) (by decide +kernel) (by (first|(refine And.intro (fun iw hiw => ?_) ?_;(focus ((try simp (maxSteps:=999999)(disch:=omega) only [go_sem] at hiw ⊢);(repeat (refine Eq.trans (if_neg ?_) ?_;(focus omega)));exact hw iw (by omega)));(focus (first|exact Nat.zero_le _|(simp (maxSteps:=999999)(disch:=omega) only [go_sem];done)|(simp (maxSteps:=999999)(disch:=omega) only [go_sem];omega))))|exact cR)) (fun K0 hW => ?_)
   refine (fun (tl:∀ st:St,Le st (aQ [(1, .b (I x)),(2, .b (I y)),(3, .b (.c (.ptr 0 0))),(8, .b (U m)),(10, .b (.c (.ptr 1 0))),(12, .b (.c (.own 3 nl))),(13, .b (I i)),(19, .b (.c (.ptr 4 0)))] [(0, .fix ((aE s).map CV.p)),(1, .fix [.p (PU m), .own 2 (r.length+1+1)]),(2, .arr 162 23 (r.length+1+1) f),(3, .arr 120 18 nl (bj cP gl)),(4, .fix ((pE t).map CV.p))] 5)→K0 st) => ?_) (fun st hl=>hW st _ hl ?_)
   ·clear hW
    obtain ⟨e0,e1,e2,e3,e4,e5,e6,e7,e8,e9,e10,e11,e12,e13,e14,e15,e16,e17,e18,e19,e20,e21,e22⟩:=Dr hf
    repeat' (first|exact ba|(refine bq (fun K' hK' => ?_) ?_)|(refine aV (tl _ ?_);clear tl)|(refine fk (k:=2) htp trivial ?_;(try simp (maxSteps:=999999)(disch:=omega) only [go_sem]);and_intros;(all_goals first|(refine hK' _ ?_;clear hK' K')|trivial|omega|exact Nat.le_of_ble_eq_true rfl|exact aa|skip))|(simp (maxSteps:=999999)(disch:=omega) only [go_sem];and_intros;(all_goals first|(refine hK' _ ?_;clear hK' K')|trivial|omega|exact Nat.le_of_ble_eq_true rfl|exact aa|skip)))
    all_goals
     refine az [(1,some 1),(2,some 2),(3,some 3),(4,some 5)] ?_ ?_
     and_intros
     all_goals first|exact ao|skip
     all_goals first|exact .inl (by assumption)|skip
   clear hW hl
   repeat' (first|((with_reducible refine aT (id:=26) (fun K hW => ?_));(try simp (maxSteps:=999999)(disch:=omega) only [go_sem]);and_intros;(all_goals first|(refine hK _ ?_;clear hK K)|exact aa|skip))|((first|refine ai (fun K hK => ?_)|refine ae (hsm) ?_|refine ae (hre) ?_);and_intros;(all_goals first|(refine hK _ ?_;clear hK K)|exact aa|skip)))
   refine (fun (tl:∀ (n':Nat) (L2:List Mic) (st:St),n'≤nl+3→L2.length=n'→L2=(gl ++ [(⟨(i:Int),6,aI,aI,0,res⟩:Mic)]) ++ cc m i t.op res ms→Le st (aQ [(1, .b (I x)),(2, .b (I y)),(3, .b (.c (.ptr 0 0))),(8, .b (U m)),(10, .b (.c (.ptr 1 0))),(12, .b (.c (.own 3 n'))),(13, .b (I i)),(21, .b (U ms)),(24, .b (.c (.ptr 4 0)))] [(0, .fix ((aE s).map CV.p)),(1, .fix [.p (PU m), .own 2 (r.length+1+1)]),(2, .arr 162 23 (r.length+1+1) f),(3, .arr 120 18 n' (bj cP L2)),(4, .fix ((aF (ax m t.op res ms)).map CV.p))] 5)→K st) => ?_) (fun n' L2 st hn' hn2 hL2 hl=>hW st _ hl ?_)
   ·clear hW
    refine oO (g := ?g2) 8 (nl+1) i m ms (gl ++ [(⟨(i:Int),6,aI,aI,0,res⟩:Mic)]) (by rw [List.length_append,hln];rfl) t.op res ?hid2 ?hg2 ?hlt2 (by omega) hm ⟨vf.op0,vf.opm⟩ hrv ⟨hk0,hkm⟩ ?hw2 (fun hmk G hG => ?hK02) (fun hmk G hG => ?hK12)
    case hid2=>(first|(simp (maxSteps:=999999)(disch:=omega) only [go_sem];done)|(simp (maxSteps:=999999)(disch:=omega) only [go_sem];rfl))
    case hg2=>exact gN hln (kJ gl) (fun j hj=>by (have hivl:j=0∨j=1∨j=2∨j=3∨j=4∨j=5∨j=6∨j=7∨j=8∨j=9∨j=10∨j=11∨j=12∨j=13∨j=14∨j=15∨j=16∨j=17:=by omega);rcases hivl with rfl|rfl|rfl|rfl|rfl|rfl|rfl|rfl|rfl|rfl|rfl|rfl|rfl|rfl|rfl|rfl|rfl|rfl <;> rfl)
    case hlt2=>simp (maxSteps:=999999)(disch:=omega) only [go_sem]
    case hw2 =>
     refine (?_:dW 0 _).1
     repeat' (first|exact sT rfl|refine dW.set ?_ _ _|refine dW.newBox ?_ _|refine dW.delBox ?_ _|refine lu (by (first|(simp (maxSteps:=999999)(disch:=omega) only [go_sem];done)|(simp (maxSteps:=999999)(disch:=omega) only [go_sem];omega))) ?_)
    case hK02 =>
     simp (maxSteps:=999999)(disch:=omega) only [go_sem]
     have hlen2:((gl ++ [(⟨(i:Int),6,aI,aI,0,res⟩:Mic)]) ++ cc m i t.op res ms).length=nl+2:=by
      rw [List.length_append,List.length_append,hln,oX hmk];rfl
     refine tl (nl+2) _ _ (by omega) hlen2 rfl ?_
     refine az [(1,some 1),(2,some 2),(3,some 15),(4,some 9)] ?_ ?_
     and_intros
     all_goals first|exact ao|skip
     all_goals exact .inr fun a ha j hj=>gV hG a (by omega) j hj
    case hK12 =>
     simp (maxSteps:=999999)(disch:=omega) only [go_sem]
     have hlen2:((gl ++ [(⟨(i:Int),6,aI,aI,0,res⟩:Mic)]) ++ cc m i t.op res ms).length=nl+3:=by
      rw [List.length_append,List.length_append,hln,pP hmk];rfl
     refine tl (nl+3) _ _ (by omega) hlen2 rfl ?_
     refine az [(1,some 1),(2,some 2),(3,some 18),(4,some 9)] ?_ ?_
     and_intros
     all_goals first|exact ao|skip
     all_goals exact .inr fun a ha j hj=>gV hG a (by omega) j hj
   clear hW hl
   refine dN (id:=27) (.br 0 (.br 1 (.br 2 (.br 3 (.br 4 (.br 5 (.br 6 (.br 7 (.br 8 (.br 9 (.br 10 (.br 11 (.br 12 .leaf .nil) .nil) .nil) .nil) .nil) .nil) .nil) (.br 11 (.br 5 (.br 6 (.br 7 (.br 8 (.br 9 (.br 10 (.br 12 .leaf .nil) .nil) .nil) .nil) .nil) .nil) .nil) .nil)) .nil) .nil) .nil) .nil) .nil) (by decide +kernel) (by (first|(refine And.intro (fun iw hiw => ?_) ?_;(focus ((try simp (maxSteps:=999999)(disch:=omega) only [go_sem] at hiw ⊢);(repeat (refine Eq.trans (if_neg ?_) ?_;(focus omega)));exact hw iw (by omega)));(focus (first|exact Nat.zero_le _|(simp (maxSteps:=999999)(disch:=omega) only [go_sem];done)|(simp (maxSteps:=999999)(disch:=omega) only [go_sem];omega))))|exact cR)) (fun K0 hW => ?_)
   refine (fun (tl:∀ st:St,Le st (aQ [(1, .b (I x)),(2, .b (I y)),(3, .b (.c (.ptr 0 0))),(8, .b (U m)),(10, .b (.c (.ptr 1 0))),(12, .b (.c (.own 3 n'))),(13, .b (I i)),(21, .b (U ms)),(24, .b (.c (.ptr 4 0))),(25, .b (.c (.ptr 5 0)))] [(0, .fix ((aE s).map CV.p)),(1, .fix [.p (PU m), .own 2 (r.length+1+1)]),(2, .arr 162 23 (r.length+1+1) f),(3, .arr 120 18 n' (bj cP L2)),(4, .fix ((aF (ax m t.op res ms)).map CV.p)),(5, .fix ((aF ⟨u.acc.c0,u.acc.c1,u.acc.c2,u.acc.a,u.acc.f⟩).map CV.p))] 6)→K0 st) => ?_) (fun st hl=>hW st _ hl ?_)
   ·clear hW
    repeat' (first|exact ba|(refine bq (fun K' hK' => ?_) ?_)|(refine aV (tl _ ?_);clear tl)|((first|refine fk (k:=2) htp trivial ?_|refine ae (hco) ?_);(try simp (maxSteps:=999999)(disch:=omega) only [go_sem]);and_intros;(all_goals first|(refine hK' _ ?_;clear hK' K')|trivial|omega|exact Nat.le_of_ble_eq_true rfl|exact aa|skip))|(simp (maxSteps:=999999)(disch:=omega) only [go_sem];and_intros;(all_goals first|(refine hK' _ ?_;clear hK' K')|trivial|omega|exact Nat.le_of_ble_eq_true rfl|exact aa|skip)))
    all_goals
     refine az [(1,some 1),(2,some 2),(3,some 3),(4,some 4),(5,some 5)] ?_ ?_
     and_intros
     all_goals first|exact ao|skip
   clear hW hl
   repeat' (refine ai (fun K hK => ?_);and_intros;(all_goals first|(refine hK _ ?_;clear hK K)|exact aa|skip))
   refine Ah 1 2 r.length f m ms t u ?_ ?_ ?_ ?_ (by decide) (by omega) hf hu hm q5 q6 ⟨vf.op0,vf.opm⟩ ⟨hk0,hkm⟩ vt.v vs.head.v hko ?_ (fun F hF1 hF2 => ?_)
   ·simp (maxSteps:=999999)(disch:=omega) only [go_sem]
   ·simp (maxSteps:=999999)(disch:=omega) only [go_sem]
   ·simp (maxSteps:=999999)(disch:=omega) only [go_sem]
   ·simp (maxSteps:=999999)(disch:=omega) only [go_sem]
   ·intro iw hiw
    (try simp (maxSteps:=999999)(disch:=omega) only [go_sem] at hiw ⊢)
    (repeat (refine Eq.trans (if_neg ?_) ?_;(focus omega)))
    (try rfl)
   rw [hres] at hF1 ⊢
   have hac2:=qT m r.length F _ (by omega) hF1
   have hco2:=fw (bJ m t.op (ax m t.op res ms) u).acc
   simp (maxSteps:=999999)(disch:=omega) only [go_sem]
   refine hK _ ?_
   clear hK
   refine iP (id:=29) (.br 0 (.br 1 (.br 2 (.br 3 (.br 4 (.br 5 (.br 6 (.br 7 (.br 8 (.br 9 (.br 10 .leaf .nil) .nil) .nil) .nil) .nil) .nil) .nil) .nil) .nil) .nil) .nil) (by decide +kernel) ?_ (fun K0 hW => ?_)
   ·refine ⟨?_,Nat.zero_le _⟩
    intro iw hiw
    (try simp (maxSteps:=999999)(disch:=omega) only [go_sem] at hiw ⊢)
    (repeat (refine Eq.trans (if_neg ?_) ?_;(focus omega)))
    (try rfl)
   replace hW:=ep hW
   repeat' (first|exact ba|(refine bq (fun K' hK' => ?_) ?_)|(refine aV (hW _ ?_);clear hW)|((first|refine fk (k:=10) hac2 (eZ _) ?_|refine ae (hco2) ?_);(try simp (maxSteps:=999999)(disch:=omega) only [go_sem]);and_intros;(all_goals first|(refine hK' _ ?_;clear hK' K')|trivial|omega|exact Nat.le_of_ble_eq_true rfl|exact aa|skip))|(simp (maxSteps:=999999)(disch:=omega) only [go_sem];and_intros;(all_goals first|(refine hK' _ ?_;clear hK' K')|trivial|omega|exact Nat.le_of_ble_eq_true rfl|exact aa|skip)))
   refine dg ?_
   refine .inl ⟨aQ [(1, .b (I x)),(2, .b (I y)),(3, .b (.c (.ptr 0 0))),(8, .b (U m)),(10, .b (.c (.ptr 1 0))),(12, .b (.c (.own 3 (n'+1)))),(13, .b (I i))] [(0, .fix ((aE s).map CV.p)),(1, .fix [.p (PU m), .own 2 (r.length+1)]),(2, .arr 162 23 (r.length+1) F),(3, .arr 120 18 (n'+1) (bj cP (L2 ++ [(⟨(i:Int),4,ax m t.op res ms,dP u.acc,0,dP (bJ m t.op (ax m t.op res ms) u).acc⟩:Mic)])))] 4, ?_, ?_⟩
   ·refine az [(1,some 1),(2,some 10),(3,some 16)] ?_ ?_
    and_intros
    all_goals first|exact ao|skip
    all_goals exact .inr fun a ha j hj=>gV (gN hn2 (kJ L2) (fun j hj=>by (have hivl:j=0∨j=1∨j=2∨j=3∨j=4∨j=5∨j=6∨j=7∨j=8∨j=9∨j=10∨j=11∨j=12∨j=13∨j=14∨j=15∨j=16∨j=17:=by omega);rcases hivl with rfl|rfl|rfl|rfl|rfl|rfl|rfl|rfl|rfl|rfl|rfl|rfl|rfl|rfl|rfl|rfl|rfl|rfl <;> rfl)) a (by rw [List.length_append,hn2];exact ha) j hj
   repeat' (refine ai (fun K hK => ?_);and_intros;(all_goals first|(refine hK _ ?_;clear hK K)|exact aa|skip))
   rw [ah]
   refine aw (i+1,F) ?_ ⟨by dsimp only;omega, ?_⟩ (by dsimp only;omega)
   ·dsimp only
    have hl3:(L2 ++ [(⟨(i:Int),4,ax m t.op res ms,dP u.acc,0,dP (bJ m t.op (ax m t.op res ms) u).acc⟩:Mic)]).length=n'+1:=by rw [List.length_append,hn2];rfl
    rw [hls,htr2,← hL2,hl3]
    refine az [(1,some 1),(2,some 2),(3,some 3)] ?_ ?_
    and_intros
    all_goals first|exact ao|skip
   ·dsimp only
    rw [hnx]
    exact ⟨hF1,cB (fun a ha j=>hF2 a ha j) hh.2.2⟩
 ·have hi2:i=s.ops.length:=by omega
  subst hi2
  have hg:decide (((s.ops.length:Nat):Int)<s.ops.length)=false:=decide_eq_false (by omega)
  have hr0:r=[]:=List.eq_nil_of_length_eq_zero (by rw [← hlen,W.fin];rfl)
  have hl1:(bD s.ops s.ops.length).length+1=1:=by rw [W.fin];rfl
  have e1:(fI m (bd s x y) s.ops s.ops.length).headD cz=t:=by rw [e];rfl
  have h0:cQ (f 0) t:=by rw [W.fin] at hf;exact hf
  rw [e1]
  unfold uD nv
  generalize (bD s.ops s.ops.length).length+1=n1 at *
  subst hl1
  repeat' (first|refine aj hg ?_|refine an ?_|(refine ai (fun K hK => ?_);and_intros;(all_goals first|(refine hK _ ?_;clear hK K)|exact aa|skip))|(refine ak ?_;(try clear hB KB);(try clear hK K)))
  rw [hgl,show pM gl = .lst 18 nl (bj cP gl) by unfold pM;rw [hln]]
  refine gh ⟨kj (PV.le_refl _),Cz fun j hj => ?_,trivial⟩
  have hj2:j=0∨j=1:=by omega
  rcases hj2 with rfl|rfl
  ·exact PV.le_refl _
  ·show PV.le (.lst 23 1 f) (.lst 23 1 fun _ j=>(pE t).getD j .any)
   refine lA fun a h1 b h2 => ?_
   have:a=0:=by omega
   subst this
   rw [h0 b h2]
end Go.Proofs.YtmfblbbemekkoaaGreatDoor
set_option maxHeartbeats 8000000
set_option maxRecDepth 16000
namespace Go.Proofs.YtmfblbbemekkoaaGreatDoor
open Go Go.SL
open Go.RowKit (wrap64)
attribute [local go_sem] cP Int.toNat_natCast cA
theorem Ls (L:List Mic) (hl:L.length≤100000):aC Sg 30 [.c (.p (pM L)), .c (.p (pM L))] (fun r=>r = .b (B true)):=by
 have e:∀ n:Int,(n != n)=false:=fun n=>by simp
 have e2:∀ n:Int,(n == n)=true:=fun n=>by simp
 refine aA Tryz.func30 [.tmp 4] ?_
 repeat' (first|refine aj e ?_|refine an ?_|(refine ai (fun K hK => ?_);and_intros;(all_goals first|(refine hK _ ?_;clear hK K)|exact aa|skip)))
 refine aO (X:=Nat) (fun i=>aQ [(0, .b (.c (.p (pM L)))),(1, .b (.c (.p (pM L)))),(5, .b (I i))] [] 1) (fun i=>i≤L.length) (fun i=>L.length - i) 0 ?_ ?_ ?_
 ·omega
 ·refine az [] ?_ ?_
  and_intros
  all_goals first|exact ao|skip
 ·intro i hi
  rcases Nat.lt_or_ge i L.length with h|h
  ·repeat' (first|refine aj (And.intro e2 e) ?_|refine an ?_|(refine ai (fun K hK => ?_);and_intros;(all_goals first|(refine hK _ ?_;clear hK K)|exact aa|skip))|(refine aW (fun hb => ?_) (fun hb => ?_);all_goals try exact aG))
   rw [ah]
   refine aw (i+1) ?_ (by omega) (by omega)
   refine az [] ?_ ?_
   and_intros
   all_goals first|exact ao|skip
  ·repeat' (first|with_reducible exact ca|refine an ?_|(refine ai (fun K hK => ?_);and_intros;(all_goals first|(refine hK _ ?_;clear hK K)|exact aa|skip))|(refine aW (fun hb => ?_) (fun hb => ?_);all_goals try exact aG)|(refine ak ?_;(try clear hB KB);(try clear hK K)))
end Go.Proofs.YtmfblbbemekkoaaGreatDoor
set_option maxHeartbeats 4000000
set_option maxRecDepth 16000
namespace Go.Proofs.YtmfblbbemekkoaaGreatDoor
open Go Go.SL
open Go.RowKit (wrap64)
theorem Do (s:Script) (x y:Int) (E:EvOk s) (hx:i64 x) (hy:i64 y):aC Sg 29 [ag (aE s),I x,I y] (fun r=>r = .tup [.c (.p (if dd s x y=0 then pM (cm s x y) else .val (.slice none 0 0))),I (dd s x y)]):=by
 have ht:True:=trivial
 have h1:=mI s x y E hx hy
 by_cases h0:dd s x y=0
 ·rw [if_pos h0]
  have C:=E.pt h0
  have h2:=Kl s x y _ C E.len hx hy
  have e:cm s x y=cn (bo s.bits) (bd s x y) s.ops s.ops.length:=by unfold cm;rw [if_pos h0]
  rw [e]
  rw [h0] at h1 ⊢
  generalize uD (bo s.bits) _=q at h2
  refine aA Tryz.func29 [.tmp 6, .tmp 7] ?_
  repeat' (first|with_reducible exact ca|refine aj ht ?_|refine an ?_|((first|refine ai (fun K hK => ?_)|refine ae (h1) ?_|refine ae (h2) ?_);and_intros;(all_goals first|(refine hK _ ?_;clear hK K)|exact aa|skip))|(refine ak ?_;(try clear hB KB);(try clear hK K)))
 ·rw [if_neg h0]
  have g0:(dd s x y != 0)=true:=by rw [bne_iff_ne];exact h0
  refine aA Tryz.func29 [.tmp 6, .tmp 7] ?_
  repeat' (first|with_reducible exact ca|refine aj g0 ?_|refine an ?_|((first|refine ai (fun K hK => ?_)|refine ae (h1) ?_);and_intros;(all_goals first|(refine hK _ ?_;clear hK K)|exact aa|skip))|(refine ak ?_;(try clear hB KB);(try clear hK K)))
end Go.Proofs.YtmfblbbemekkoaaGreatDoor
set_option maxHeartbeats 4000000
set_option maxRecDepth 16000
namespace Go.Proofs.YtmfblbbemekkoaaGreatDoor
open Go Go.SL
open Go.RowKit (wrap64)
attribute [local go_sem] Int.toNat_natCast
theorem BF (c:Scene) (hc:SceneOk c) (x y:Int):aC Sg 6 [ag (dk c),I x,I y] (fun r=>r = .b (B true)):=by
 have ht:True:=trivial
 have hg:=lF c hc
 have hO:=Gt c
 have E:=hO.ev
 have hsm:Small (au c).canvas:=bK c
 have hin:=CB hsm x y
 have hp:=pd (au c).canvas x y hsm
 have hi:=BU hsm x y
 have C:=hO.pt (x:=Ei (au c).canvas x) (y:=Ez (au c).canvas y) hin
 generalize Ei (au c).canvas x=u at *
 generalize Ez (au c).canvas y=v at *
 have e0:=(oR C).1
 have eT:=(oR C).2.2
 have h1:=qi (au c) u v E hi.1 hi.2
 have h2:=Do (au c) u v E hi.1 hi.2
 have h3:aC Sg 25 [I (au c).bits] (fun x=>x = .tup [U (bO c.bits),B (decide ((au c).bits=8∨(au c).bits=16))]):=by
  have:=fy (au c).bits
  rw [show (if (au c).bits=8 then (255:Int) else if (au c).bits=16 then 65535 else 0)=bo (au c).bits from rfl,C.mx] at this
  exact this
 have hl:(cm (au c) u v).length≤100000:=by
  rw [eT]
  have:=nr (m:=bO c.bits) (z:=bd (au c) u v) (ops:=(au c).ops) (au c).ops.length
  have:=C.V.cnt
  omega
 have hS:gT (bO c.bits) none (cm (au c) u v):=by
  rw [eT]
  exact mQ C _ (Nat.le_refl _)
 have h4:=Ls (cm (au c) u v) hl
 have h5:=vU (bO c.bits) (cm (au c) u v) C.hm hl hS
 have haw:=mn
 rw [e0,if_pos rfl] at h1 h2
 generalize cm (au c) u v=L at *
 generalize au c=s at *
 refine aA Tryz.func6 [.tmp 6] ?_
 repeat' (first|((first|refine ai (fun K hK => ?_)|refine ae (hg) ?_|refine ae (hp) ?_|refine ae (h1) ?_|refine ae (h2) ?_|refine ae (h3) ?_|refine ae (haw) ?_|refine aD (fun hg=>h4) ?_|refine aD (fun hg=>h5) ?_);and_intros;(all_goals first|(refine hK _ ?_;clear hK K)|exact aa|skip))|(refine ak ?_;(try clear hB KB);(try clear hK K)))
 all_goals (try rfl)
end Go.Proofs.YtmfblbbemekkoaaGreatDoor
