/- Part of the proof: BrT, VB, VK, RK, N3. -/
import Derived.Test.YtcbifofjjpfbcaaGreatDoorM35
set_option linter.unusedSimpArgs false
set_option linter.unusedVariables false
namespace Go.SL
open Go Go.ChangeShapes Go.WideShapes Go.ChangeAt Go.RowKit
section
variable {P:Program} {H:Type} {enc:TypeId × Value→H}
theorem FZ {α : Type} {t e : TypeId} {E : α → List PV} {Ok : α → Prop} (C : qK P t E Ok) (ht : P.underlying t = some (.slice e)) (h1 : ∀ a, (E a).length = 1) {W : World} {r : Reach} {b0 : Nat} {v : Value} {d : DataW H} {ps : List MemPlace} {sp : Nat → Bool} {held : Bool}
  (hval:Value.okWide P W r b0 t v) (hd:DataW.Trod enc P W 0 sp held t v d ps) (hw:(DataW.weights P t d).all (· ≤ reachBytes)=true):∃ a,Ok a∧bR bM (· < W.heap.size) W (.c (.p ((E a).getD 0 .any))) v:=by
 obtain ⟨fuel,hf⟩:=hd
 obtain ⟨a,ha,hc⟩:=C H enc W sp held fuel _ _ hf hw
 have hcell:v.cells = #[v]:=by
  unfold Value.okWide at hval
  rw [ht] at hval
  cases v <;> first|rfl|(simp [Cell.okWide,Cell.ok,ht] at hval)
 rw [hcell] at hc
 refine ⟨a,ha, ?_⟩
 have:=hc.den 0 (by simp)
 show bt _ _ _ _
 simpa using this
end
end Go.SL
set_option maxHeartbeats 2000000
set_option maxRecDepth 16000
namespace Go.Proofs.YtcbifofjjpfbcaaGreatDoor
open Go Go.SL
open Go.RowKit (wrap64)
theorem gG (p:Plane) (hl:p.s.length≤4611686018427387904):aF Sg 44 [ag (jD p),ag (jD p)] (fun r=>r = .b (B true)):=by
 have e:∀ n:Int,(n != n)=false:=fun n=>by simp
 refine aI Tryz.func44 [.tmp 4] ?_
 repeat' (first|refine ak e ?_|refine an ?_|(refine aj (fun K hK => ?_);and_intros;all_goals first|(refine hK _ ?_;clear hK K)|try exact aa))
 refine aM (X:=Nat) (fun i=>bg [(2, .b (.c (.ptr 0 0))),(3, .b (.c (.ptr 1 0))),(5, .b (I i))] [(0, .fix ((jD p).map CV.p)),(1, .fix ((jD p).map CV.p))] 2) (fun i=>i≤p.s.length) (fun i=>p.s.length - i) 0 ?_ ?_ ?_
 ·omega
 ·refine aE [(1,some 1)] ?_ ?_
  and_intros
  all_goals first|exact aw|skip
 ·intro i hi
  have e2:(p.s.getD i default != p.s.getD i default)=false:=by simp
  rcases Nat.lt_or_ge i p.s.length with h|h
  ·repeat' (first|refine ak (And.intro e2 e) ?_|refine an ?_|(refine aj (fun K hK => ?_);and_intros;all_goals first|(refine hK _ ?_;clear hK K)|try exact aa)|(refine aH (fun hb => ?_) (fun hb => ?_);all_goals try exact ax))
   rw [ah]
   refine au (i+1) ?_ (by omega) (by omega)
   refine aE [(1,some 1)] ?_ ?_
   and_intros
   all_goals first|exact aw|skip
  ·repeat' (first|with_reducible exact aK|refine an ?_|(refine aj (fun K hK => ?_);and_intros;all_goals first|(refine hK _ ?_;clear hK K)|try exact aa)|(refine aH (fun hb => ?_) (fun hb => ?_);all_goals try exact ax)|(refine ai ?_;(try clear hB KB);(try clear hK K)))
structure ImgLen (m:Image):Prop where
 l0:m.p0.s.length≤4611686018427387904
 l1:m.p1.s.length≤4611686018427387904
 l2:m.p2.s.length≤4611686018427387904
 l3:m.p3.s.length≤4611686018427387904
 l4:m.p4.s.length≤4611686018427387904
theorem yu (m:Image) (hl:ImgLen m):aF Sg 16 [ag (bl m),ag (bl m)] (fun r=>r = .b (B true)):=by
 have ht:True:=trivial
 have v0:=gG m.p0 hl.l0
 have v1:=gG m.p1 hl.l1
 have v2:=gG m.p2 hl.l2
 have v3:=gG m.p3 hl.l3
 have v4:=gG m.p4 hl.l4
 refine aI Tryz.func16 [.tmp 4] ?_
 repeat' (first|refine an ?_|(refine aj (fun K hK => ?_);and_intros;all_goals first|(refine hK _ ?_;clear hK K)|try exact aa))
 refine aM (X:=Int) (fun k=>bg [(2, .b (.c (.ptr 0 0))),(3, .b (.c (.ptr 1 0))),(5, .b (I k))] [(0, .fix ((bl m).map CV.p)),(1, .fix ((bl m).map CV.p))] 2) (fun k=>0≤k∧k≤5) (fun k=>(5 - k).toNat) 0 ?_ ?_ ?_
 ·omega
 ·refine aE [(1,some 1)] ?_ ?_
  and_intros
  all_goals first|exact aw|skip
 ·intro k hk
  have hkv:k=0∨k=1∨k=2∨k=3∨k=4∨k=5:=by omega
  rcases hkv with rfl|rfl|rfl|rfl|rfl|rfl
  ·repeat' (first|refine ak ht ?_|refine an ?_|((first|refine aj (fun K hK => ?_)|refine ae (v0) ?_);and_intros;all_goals first|(refine hK _ ?_;clear hK K)|try exact aa))
   rw [ah]
   refine au 1 ?_ (by omega) (by decide)
   refine aE [(1,some 1)] ?_ ?_
   and_intros
   all_goals first|exact aw|skip
  ·repeat' (first|refine ak ht ?_|refine an ?_|((first|refine aj (fun K hK => ?_)|refine ae (v1) ?_);and_intros;all_goals first|(refine hK _ ?_;clear hK K)|try exact aa))
   rw [ah]
   refine au 2 ?_ (by omega) (by decide)
   refine aE [(1,some 1)] ?_ ?_
   and_intros
   all_goals first|exact aw|skip
  ·repeat' (first|refine ak ht ?_|refine an ?_|((first|refine aj (fun K hK => ?_)|refine ae (v2) ?_);and_intros;all_goals first|(refine hK _ ?_;clear hK K)|try exact aa))
   rw [ah]
   refine au 3 ?_ (by omega) (by decide)
   refine aE [(1,some 1)] ?_ ?_
   and_intros
   all_goals first|exact aw|skip
  ·repeat' (first|refine ak ht ?_|refine an ?_|((first|refine aj (fun K hK => ?_)|refine ae (v3) ?_);and_intros;all_goals first|(refine hK _ ?_;clear hK K)|try exact aa))
   rw [ah]
   refine au 4 ?_ (by omega) (by decide)
   refine aE [(1,some 1)] ?_ ?_
   and_intros
   all_goals first|exact aw|skip
  ·repeat' (first|refine ak ht ?_|refine an ?_|((first|refine aj (fun K hK => ?_)|refine ae (v4) ?_);and_intros;all_goals first|(refine hK _ ?_;clear hK K)|try exact aa))
   rw [ah]
   refine au 5 ?_ (by omega) (by decide)
   refine aE [(1,some 1)] ?_ ?_
   and_intros
   all_goals first|exact aw|skip
  ·repeat' (first|refine ak ht ?_|refine an ?_|(refine aj (fun K hK => ?_);and_intros;all_goals first|(refine hK _ ?_;clear hK K)|try exact aa)|(refine ai ?_;(try clear hB KB);(try clear hK K)))
   simp
end Go.Proofs.YtcbifofjjpfbcaaGreatDoor
set_option maxHeartbeats 4000000
namespace Go.Proofs.YtcbifofjjpfbcaaGreatDoor
open Go Go.SL
open Go.RowKit (wrap64)
theorem AW {s t:Script} (hc:Small s.canvas) (e:t.canvas=s.canvas) (h:∀ x y,iO s.canvas x y→dH t x y=dH s x y):eL t=eL s:=by
 have hp:jg t ((s.canvas.x1 - s.canvas.x0) * (s.canvas.y1 - s.canvas.y0)).toNat=jg s ((s.canvas.x1 - s.canvas.x0) * (s.canvas.y1 - s.canvas.y0)).toNat:=by
  refine List.map_congr_left fun q hq => ?_
  rw [List.mem_range] at hq
  unfold PF
  rw [e]
  refine h _ _ ?_
  obtain ⟨x0,x1,y0,y1,hw,hh⟩:=hc
  obtain ⟨W,hW⟩:∃ W:Nat,(W:Int)=s.canvas.x1 - s.canvas.x0:=⟨(s.canvas.x1 - s.canvas.x0).toNat,by omega⟩
  obtain ⟨H,hH⟩:∃ H:Nat,(H:Int)=s.canvas.y1 - s.canvas.y0:=⟨(s.canvas.y1 - s.canvas.y0).toNat,by omega⟩
  rw [← hW,← hH,← Int.natCast_mul,Int.toNat_natCast] at hq
  have eW:(s.canvas.x1 - s.canvas.x0).toNat=W:=by omega
  rw [eW]
  have q1:=Nat.mod_lt q (show W>0 by omega)
  have q2:=Nat.div_lt_of_lt_mul hq
  unfold iO
  generalize q % W=a at *
  generalize q / W=b at *
  omega
 unfold eL
 rw [e,hp]
end Go.Proofs.YtcbifofjjpfbcaaGreatDoor
set_option maxHeartbeats 1000000
namespace Go.Proofs.YtcbifofjjpfbcaaGreatDoor
theorem IF {s:Script} {r:Rect} (hr:Small r):ImgLen (mq s r):=by
 obtain ⟨e,hf,hl⟩:=yK (s:=s) hr
 have hn := @mS s r ((r.x1 - r.x0) * (r.y1 - r.y0)).toNat
 have hb:((r.x1 - r.x0) * (r.y1 - r.y0)).toNat≤20:=by
  have:=Int.mul_le_mul hr.w.2 hr.h.2 (by have:=hr.h;omega) (by decide:(0:Int)≤5)
  omega
 rw [e]
 refine ⟨?_, ?_, ?_, ?_, ?_⟩ <;> (show (List.map _ _).length≤_;rw [List.length_map,hn];omega)
end Go.Proofs.YtcbifofjjpfbcaaGreatDoor
set_option maxHeartbeats 4000000
set_option maxRecDepth 16000
namespace Go.Proofs.YtcbifofjjpfbcaaGreatDoor
open Go Go.SL
open Go.RowKit (wrap64)
attribute [local go_sem] Int.toNat_natCast
theorem mO {r:Rect} (hr:Small r) {w h:Int} (hw:1≤w∧w≤r.x1 - r.x0) (hh:1≤h∧h≤r.y1 - r.y0):bP r w h=true∧0≤aX r w h * bz r w h∧aX r w h * bz r w h≤64:=by
 have ht:bP r w h=true:=by
  rw [bP,iE hr]
  obtain ⟨h1,h2,h3,h4,h5,h6⟩:=hr
  simp only [Bool.not_false,Bool.true_and,decide_eq_true_eq]
  omega
 refine ⟨ht,(fu _ _ _).2, ?_⟩
 rw [aX,bz,if_pos ht,if_pos ht]
 obtain ⟨h1,h2,h3,h4,h5,h6⟩:=hr
 have b1:0≤(r.x1 - r.x0 - 1) / w:=Int.ediv_nonneg (by omega) (by omega)
 have b2:(r.x1 - r.x0 - 1) / w≤r.x1 - r.x0 - 1:=Int.ediv_le_self _ (by omega)
 have c1:0≤(r.y1 - r.y0 - 1) / h:=Int.ediv_nonneg (by omega) (by omega)
 have c2:(r.y1 - r.y0 - 1) / h≤r.y1 - r.y0 - 1:=Int.ediv_le_self _ (by omega)
 have:((r.x1 - r.x0 - 1) / w+1) * ((r.y1 - r.y0 - 1) / h+1)≤5 * 4:=Int.mul_le_mul (by omega) (by omega) (by omega) (by omega)
 omega
theorem AY {t:Script} (hb:t.bits=8∨t.bits=16) (hs:Small t.canvas) (hw:1≤t.tileW∧t.tileW≤t.canvas.x1 - t.canvas.x0) (hh:1≤t.tileH∧t.tileH≤t.canvas.y1 - t.canvas.y0) (ho:dt t.order (aX t.canvas t.tileW t.tileH * bz t.canvas t.tileW t.tileH)=true) (hi:t.images.length≤64) (hp:t.ops.length≤4096):bD t=0:=by
 have he:=iE hs
 obtain ⟨ht,_⟩:=mO hs hw hh
 obtain ⟨h1,h2,h3,h4,h5,h6⟩:=hs
 have ha:(t.canvas.x1 - t.canvas.x0) * (t.canvas.y1 - t.canvas.y0)≤5 * 4:=Int.mul_le_mul (by omega) (by omega) (by omega) (by omega)
 have hw2:bJ 1048576 [t.canvas.x0,t.canvas.y0]=true:=by
  simp [bJ];omega
 rw [bD,ht,hw2,he,iZ,he,ho]
 rw [if_neg (by omega),if_neg (by simp;omega),if_neg (by simp),if_neg (by simp),if_neg (by omega)]
def og (s:Script) (w h:Int) (l:List Int):Script :=
 { s with
  tileW:=1+w % (s.canvas.x1 - s.canvas.x0),tileH:=1+h % (s.canvas.y1 - s.canvas.y0),
  order:=kW l (aX s.canvas (1+w % (s.canvas.x1 - s.canvas.x0)) (1+h % (s.canvas.y1 - s.canvas.y0)) * bz s.canvas (1+w % (s.canvas.x1 - s.canvas.x0)) (1+h % (s.canvas.y1 - s.canvas.y0))) }
theorem zY {r:Rect} (hr:Small r) (w h:Int):(1≤1+w % (r.x1 - r.x0)∧1+w % (r.x1 - r.x0)≤r.x1 - r.x0)∧(1≤1+h % (r.y1 - r.y0)∧1+h % (r.y1 - r.y0)≤r.y1 - r.y0):=by
 obtain ⟨h1,h2,h3,h4,h5,h6⟩:=hr
 have bw:=Int.emod_nonneg w (show r.x1 - r.x0≠0 by omega)
 have bw2:=Int.emod_lt_of_pos w (show 0<r.x1 - r.x0 by omega)
 have bh:=Int.emod_nonneg h (show r.y1 - r.y0≠0 by omega)
 have bh2:=Int.emod_lt_of_pos h (show 0<r.y1 - r.y0 by omega)
 omega
theorem Pi {s:Script} (h:bD s=0):s.bits=8∨s.bits=16:=by
 unfold bD at h
 split at h
 ·cases h
 ·rename_i q;exact Decidable.not_not.1 q
theorem DF {c:Scene} {s:Script} (hO:Of c s) (w h:Int) (l:List Int):aF Sg 13 [ag (aL (og s w h l))] (fun r=>r = .tup [ag (bl (eL s)),I 0,I 0]):=by
 have hsm:=hO.small
 obtain ⟨tw,th⟩:=zY hsm w h
 have ht:=mO hsm tw th
 have hf:bD (og s w h l)=0:=AY (Pi hO.V.frame:s.bits=8∨s.bits=16) hsm tw th (uF ht.2.1 ht.2.2) hO.V.imgs hO.V.cnt
 have V:VOps (og s w h l):=⟨hO.V.wf,hO.V.ok,hO.V.imgs,hO.V.cnt,hf⟩
 have him:na (og s w h l):=hO.im
 have he:=hO.ev
 have hl:(og s w h l).order.length≤64:=by
  have:=uF (l:=l) ht.2.1 ht.2.2
  unfold dt at this
  rw [Bool.and_eq_true,decide_eq_true_eq] at this
  show (kW l _).length≤64
  omega
 have hev:EvOk (og s w h l):=⟨⟨Nat.le_trans hl (by decide),he.len.images,he.len.ops⟩,he.op,fun _=>he.im hO.V.frame⟩
 have h0:bQ (og s w h l)=(0,0):=lv V him
 have:=lM (og s w h l) hev (fun _=>hsm)
 rw [h0] at this
 have e:lg (og s w h l)=eL s:=by
  unfold lg;rw [h0,if_pos rfl]
  exact AW hsm rfl fun x y _=>rfl
 rw [e] at this
 exact this
theorem GA (c:Scene) (hc:SceneOk c) (w h:Int) (l:List Int) (hl:l.length≤4611686018427387904):aF Sg 4 [ag (gI c),I w,I h, .c (.p (eZ l))] (fun r=>r = .b (B true)):=by
 have ht:True:=trivial
 have hg:=lW c hc
 have hO:=SU c
 have hsm:=hO.small
 have h1:=hO.rend
 have h2:=DF hO w h l
 have h3:=yu (eL (aD c)) (IF hsm)
 have haw:=oH
 obtain ⟨tw,th⟩:=zY hsm w h
 have hn:=mO hsm tw th
 have h4:=ic (aD c).canvas (1+w % ((aD c).canvas.x1 - (aD c).canvas.x0)) (1+h % ((aD c).canvas.y1 - (aD c).canvas.y0))
 have h5:=ly l (aX (aD c).canvas (1+w % ((aD c).canvas.x1 - (aD c).canvas.x0)) (1+h % ((aD c).canvas.y1 - (aD c).canvas.y0)) * bz (aD c).canvas (1+w % ((aD c).canvas.x1 - (aD c).canvas.x0)) (1+h % ((aD c).canvas.y1 - (aD c).canvas.y0))) hl hn.2.1
 obtain ⟨b1,b2,b3,b4,b5,b6⟩:=id hsm
 have h6:=cL w ((aD c).canvas.x1 - (aD c).canvas.x0) b5.1 (by omega)
 have h7:=cL h ((aD c).canvas.y1 - (aD c).canvas.y0) b6.1 (by omega)
 unfold og at h2
 generalize eL (aD c)=M at *
 generalize aD c=s at *
 refine aI Tryz.func4 [.tmp 8] ?_
 repeat' (first|with_reducible exact aK|refine ak ht ?_|refine an ?_|((first|refine aj (fun K hK => ?_)|refine aY ?_|refine ae (hg) ?_|refine aq (fun hg=>hg) ?_|refine ae (h6) ?_|refine aq (fun hg=>h6) ?_|refine ae (h7) ?_|refine aq (fun hg=>h7) ?_|refine ae (h4) ?_|refine aq (fun hg=>h4) ?_|refine ae (h5) ?_|refine aq (fun hg=>h5) ?_|refine ae (h1) ?_|refine aq (fun hg=>h1) ?_|refine ae (h2) ?_|refine aq (fun hg=>h2) ?_|refine ae (haw) ?_|refine aq (fun hg=>haw) ?_|refine ae (h3) ?_|refine aq (fun hg=>h3) ?_);and_intros;all_goals first|(refine hK _ ?_;clear hK K)|try exact aa)|((first|apply aC|apply ay);(case hf=>rfl);(case hc=>exact aS);(all_goals first|(intro hb;(try simp only [bZ] at hb))|skip))|exact ao|(refine aH (fun hb => ?_) (fun hb => ?_);all_goals try exact ax)|refine ar (fun KB hB => ?_)|(refine hB _ ?_;clear hB KB)|refine aA (S:=Sg) (by assumption) ?_|(refine ai ?_;(try clear hB KB);(try clear hK K)))
 refine congrArg (fun b=>SV.b (B b)) (?_:_=true)
 simp only [beq_self_eq_true,Bool.and_self,Bool.true_and,Bool.and_true]
end Go.Proofs.YtcbifofjjpfbcaaGreatDoor
