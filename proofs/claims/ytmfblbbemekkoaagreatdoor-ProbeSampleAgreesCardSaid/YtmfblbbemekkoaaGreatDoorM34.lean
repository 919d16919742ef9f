/- Part of the proof: VC, VD, P6, Y3, Z3, Q4, FI, LT. -/
import Derived.Test.YtmfblbbemekkoaaGreatDoorM32
set_option linter.unusedSimpArgs false
set_option linter.unusedVariables false
set_option maxHeartbeats 8000000
set_option maxRecDepth 16000
namespace Go.Proofs.YtmfblbbemekkoaaGreatDoor
open Go Go.SL
open Go.RowKit (wrap64)
attribute [local go_sem] uD nv Int.toNat_natCast
theorem yI (s:Script) (x y m:Int) (C:Pt s m x y) (hs:ScriptLen s) (hx:i64 x) (hy:i64 y):aC Sg 23 [ag (aE s),I x,I y] (fun r=>r = .b (ag (aF (cK s x y)))):=by
 have ht:True:=trivial
 have hr:=KL s x y m C hs hx hy
 have ha:=BW C s.ops.length (Nat.le_refl _)
 obtain ⟨t,r,e⟩:=ha.ne
 have hv:cK s x y=aU t.acc t.back m:=by
  have e2:jR m (bd s x y) s.ops [cz]=t :: r:=by
   rw [← e];unfold fI;rw [List.take_length]
  unfold cK
  rw [C.mx,e2];rfl
 rw [e] at ha hr
 have hre:=AY m (fun _ j=>(pE t).getD j .any) t (fun j _=>rfl) C.hm ha.v.head.v
 rw [hv]
 have hr:aC Sg 59 [ag (aE s),I x,I y] (fun q=>q = .tup [.c (.p .any),uD m t]):=hr
 generalize aU t.acc t.back m=q at *
 refine aA Tryz.func23 [.cell 6 41] ?_
 repeat' (first|((first|refine ai (fun K hK => ?_)|refine ae (hr) ?_|refine ae (hre) ?_);and_intros;(all_goals first|(refine hK _ ?_;clear hK K)|exact aa|skip))|(refine ak ?_;(try clear hB KB);(try clear hK K)))
 rfl
end Go.Proofs.YtmfblbbemekkoaaGreatDoor
set_option maxHeartbeats 4000000
set_option maxRecDepth 16000
namespace Go.Proofs.YtmfblbbemekkoaaGreatDoor
open Go Go.SL
open Go.RowKit (wrap64)
attribute [local go_sem] Int.toNat_natCast
def vq (r:Rect) (x y:Int):Bool := !bZ r && decide (r.x0≤x) && decide (x<r.x1) && decide (r.y0≤y) && decide (y<r.y1)
theorem CT {r:Rect} {x y:Int}:vq r x y=true↔Rw r x y:=by
 unfold vq Rw OF
 simp only [Bool.and_eq_true,Bool.not_eq_true',decide_eq_true_eq,and_assoc]
theorem Ay (r:Rect) (x y:Int):aC Sg 65 [ag (fg r),I x,I y] (fun q=>q = .b (B (vq r x y))):=by
 have ht:True:=trivial
 have h1:=fS r
 refine aA Tryz.func65 [.tmp 6] ?_
 repeat' (first|((first|refine ai (fun K hK => ?_)|refine ae (h1) ?_);and_intros;(all_goals first|(refine hK _ ?_;clear hK K)|exact aa|skip))|(refine ak ?_;(try clear hB KB);(try clear hK K)))
 rfl
def Ei (r:Rect) (x:Int):Int:=r.x0+x % (r.x1 - r.x0)
def Ez (r:Rect) (y:Int):Int:=r.y0+y % (r.y1 - r.y0)
theorem pd (r:Rect) (x y:Int) (hr:Small r):aC Sg 22 [ag (fg r),I x,I y] (fun q=>q = .tup [I (Ei r x),I (Ez r y)]):=by
 have ht:True:=trivial
 obtain ⟨x0,x1,y0,y1,hw,hh⟩:=hr
 have h1:=bN x (r.x1 - r.x0) (by omega) (by omega)
 have h2:=bN y (r.y1 - r.y0) (by omega) (by omega)
 have a1:=Int.emod_nonneg x (show r.x1 - r.x0≠0 by omega)
 have a2:=Int.emod_lt_of_pos x (show 0<r.x1 - r.x0 by omega)
 have a3:=Int.emod_nonneg y (show r.y1 - r.y0≠0 by omega)
 have a4:=Int.emod_lt_of_pos y (show 0<r.y1 - r.y0 by omega)
 unfold Ei Ez
 generalize x % (r.x1 - r.x0)=a at *
 generalize y % (r.y1 - r.y0)=b at *
 refine aA Tryz.func22 [.tmp 6, .tmp 7] ?_
 repeat' (first|with_reducible exact ca|((first|refine ai (fun K hK => ?_)|refine ae (h1) ?_|refine ae (h2) ?_);and_intros;(all_goals first|(refine hK _ ?_;clear hK K)|exact aa|skip))|(refine ak ?_;(try clear hB KB);(try clear hK K)))
theorem CB {r:Rect} (hr:Small r) (x y:Int):OF r (Ei r x) (Ez r y):=by
 obtain ⟨x0,x1,y0,y1,hw,hh⟩:=hr
 have a1:=Int.emod_nonneg x (show r.x1 - r.x0≠0 by omega)
 have a2:=Int.emod_lt_of_pos x (show 0<r.x1 - r.x0 by omega)
 have a3:=Int.emod_nonneg y (show r.y1 - r.y0≠0 by omega)
 have a4:=Int.emod_lt_of_pos y (show 0<r.y1 - r.y0 by omega)
 unfold Ei Ez OF
 omega
end Go.Proofs.YtmfblbbemekkoaaGreatDoor
namespace Go.Proofs.YtmfblbbemekkoaaGreatDoor
open Go Go.SL
open Go.RowKit (wrap64)
structure EvOk (s:Script):Prop where
 len:ScriptLen s
 op:∀ o ∈ s.ops,0≤o.opacity
 im:bA s=0→∀ m ∈ s.images,BC m (bo s.bits)∧Hs m
def dd (s:Script) (x y:Int):Int:=if (fj s).1≠0 then (fj s).1 else if vq s.canvas x y=false then 20 else 0
def gv (s:Script) (x y:Int):Pixel:=if dd s x y=0 then cK s x y else aI
def cm (s:Script) (x y:Int):List Mic:=if dd s x y=0 then cn (bo s.bits) (bd s x y) s.ops s.ops.length else []
theorem sI {s:Script} (h:bA s=0):(s.bits=8∨s.bits=16)∧bZ s.canvas=false:=by
 unfold bA at h
 split at h
 ·cases h
 split at h
 ·cases h
 rename_i h1 h2
 refine ⟨Decidable.not_not.1 h1, ?_⟩
 cases he:bZ s.canvas with
 | false=>rfl
 | true=>exact absurd (.inl he) h2
theorem ou {s:Script} (h:bA s=0):Full (bo s.bits):=by
 obtain ⟨h1,_⟩:=sI h
 rcases h1 with h1|h1 <;> rw [h1]
 ·exact ⟨.inl rfl⟩
 ·exact ⟨.inr rfl⟩
theorem EvOk.pt {s:Script} (E:EvOk s) {x y:Int} (h:dd s x y=0):Pt s (bo s.bits) x y:=by
 unfold dd at h
 split at h
 ·rename_i q;exact absurd h q
 rename_i q
 rw [Decidable.not_not] at q
 split at h
 ·cases h
 rename_i hc
 have hf:bA s=0:=by
  refine Decidable.byContradiction fun hf => ?_
  unfold fj at q
  rw [if_pos hf] at q
  exact hf q
 obtain ⟨_,V,I,_⟩:=yV (E.im hf) q
 have hc:vq s.canvas x y=true:=by simpa using hc
 exact ⟨V,ou hf,rfl,I,E.op,(sI hf).2,(CT.1 hc).2⟩
theorem oR {s:Script} {m x y:Int} (C:Pt s m x y):dd s x y=0∧gv s x y=cK s x y∧cm s x y=cn m (bd s x y) s.ops s.ops.length:=by
 have h:dd s x y=0:=by
  unfold dd
  rw [Dq C.V C.im,if_neg (by decide)]
  rw [CT.2 ⟨C.c,C.xy⟩,if_neg (by decide)]
 refine ⟨h, ?_, ?_⟩
 ·unfold gv;rw [if_pos h]
 ·unfold cm;rw [if_pos h,C.mx]
end Go.Proofs.YtmfblbbemekkoaaGreatDoor
set_option maxHeartbeats 4000000
set_option maxRecDepth 16000
namespace Go.Proofs.YtmfblbbemekkoaaGreatDoor
open Go Go.SL
open Go.RowKit (wrap64)
theorem Bo (m:Image) (mx:Int) (hm:Full mx) (h:BC m mx):aC Sg 122 [ag (aN m),U mx] (fun r=>r = .b (I (dJ m mx))):=by
 cases hf:aX m with
 | false=>exact Bt m mx hf
 | true =>
  cases hs:m.solid with
  | true=>exact xX m mx hs hf
  | false =>
   rcases h with h|h|h
   ·rw [vh h];exact BL m mx hm hs h
   ·rw [hf] at h;cases h
   ·rw [hs] at h;cases h
theorem Bq (s:Script) (hs:ScriptLen s) (hT:bA s=0→Full (bo s.bits)∧∀ m ∈ s.images,BC m (bo s.bits)):aC Sg 75 [ag (aE s)] (fun r=>r = .tup [I (fj s).1,I (fj s).2]):=by
 have h1:=uu s hs
 have h2:=DL s hs
 have h3:aC Sg 103 [I s.bits] (fun x=>x = .tup [U (bo s.bits),B (decide (s.bits=8∨s.bits=16))]):=fC s.bits
 unfold fj
 by_cases hf:bA s=0
 ·obtain ⟨hm,hi⟩:=hT hf
  rw [if_neg (by rw [Decidable.not_not];exact hf)]
  rw [hf] at h1
  have ht:True:=trivial
  obtain ⟨R,hR⟩:∃ R,(if (ed (bo s.bits) 0 s.images).1≠0 then ed (bo s.bits) 0 s.images else jm s)=R:=⟨_,rfl⟩
  rw [hR]
  refine aA Tryz.func75 [.tmp 2, .tmp 3] ?_
  repeat' (first|refine aj ht ?_|refine an ?_|((first|refine ai (fun K hK => ?_)|refine ae (h1) ?_|refine ae (h3) ?_);and_intros;(all_goals first|(refine hK _ ?_;clear hK K)|exact aa|skip)))
  refine aO (X:=Nat) (fun i=>aQ [(1, .b (.c (.ptr 0 0))),(5, .b (U (bo s.bits))),(22, .b (.c (.p (sC s.images)))),(23, .b (I s.images.length)),(24, .b (I i))] [(0, .fix ((aE s).map CV.p))] 1) (fun i=>i≤s.images.length∧ed (bo s.bits) 0 s.images=ed (bo s.bits) i (s.images.drop i)) (fun i=>s.images.length - i) 0 ?_ ?_ ?_
  ·exact ⟨Nat.zero_le _,by rw [List.drop_zero]⟩
  ·refine az [] ?_ ?_
   and_intros
   all_goals first|exact ao|skip
  ·rintro i ⟨hil,hgo⟩
   have hlen:=hs.images
   rcases Nat.lt_or_ge i s.images.length with h|h
   ·rw [qU h] at hgo
    have hmem:s.images.getD i default ∈ s.images:=by
     rw [List.getD_eq_getElem?_getD,List.getElem?_eq_getElem h]
     exact List.getElem_mem _
    have hv:=Bo (s.images.getD i default) (bo s.bits) hm (hi _ hmem)
    by_cases h0:dJ (s.images.getD i default) (bo s.bits)=0
    ·rw [if_pos h0] at hgo
     rw [h0] at hv
     repeat' (first|refine aj ht ?_|refine an ?_|((first|refine ai (fun K hK => ?_)|refine ae (hv) ?_);and_intros;(all_goals first|(refine hK _ ?_;clear hK K)|exact aa|skip))|(refine aW (fun hb => ?_) (fun hb => ?_);all_goals try exact aG))
     rw [ah]
     refine aw (i+1) ?_ ⟨by omega,hgo⟩ (by omega)
     refine az [] ?_ ?_
     and_intros
     all_goals first|exact ao|skip
    ·rw [if_neg h0] at hgo
     have g0:(dJ (s.images.getD i default) (bo s.bits) != 0)=true:=by rw [bne_iff_ne];exact h0
     have hR2:R=(dJ (s.images.getD i default) (bo s.bits),(i:Int)):=by rw [← hR,hgo,if_pos h0]
     rw [hR2]
     repeat' (first|with_reducible exact ca|refine aj g0 ?_|refine an ?_|((first|refine ai (fun K hK => ?_)|refine ae (hv) ?_);and_intros;(all_goals first|(refine hK _ ?_;clear hK K)|exact aa|skip))|(refine aW (fun hb => ?_) (fun hb => ?_);all_goals try exact aG)|(refine ak ?_;(try clear hB KB);(try clear hK K)))
   ·have e:s.images.drop i=[]:=List.drop_eq_nil_of_le h
    rw [e] at hgo
    have hR2:R=jm s:=by rw [← hR,hgo,if_neg (by simp [ed])]
    rw [← hR2] at h2
    repeat' (first|with_reducible exact ca|refine an ?_|((first|refine ai (fun K hK => ?_)|refine ae (h2) ?_);and_intros;(all_goals first|(refine hK _ ?_;clear hK K)|exact aa|skip))|(refine aW (fun hb => ?_) (fun hb => ?_);all_goals try exact aG)|(refine ak ?_;(try clear hB KB);(try clear hK K)))
 ·rw [if_pos hf]
  have g0:(bA s != 0)=true:=by rw [bne_iff_ne];exact hf
  refine aA Tryz.func75 [.tmp 2, .tmp 3] ?_
  repeat' (first|with_reducible exact ca|refine aj g0 ?_|refine an ?_|((first|refine ai (fun K hK => ?_)|refine ae (h1) ?_);and_intros;(all_goals first|(refine hK _ ?_;clear hK K)|exact aa|skip))|(refine ak ?_;(try clear hB KB);(try clear hK K)))
theorem xC (r:Rect) (x y:Int):aC Sg 102 [ag (fg r),I x,I y] (fun q=>q = .b (B (vq r x y))):=by
 have ht:True:=trivial
 have h1:=ks r
 refine aA Tryz.func102 [.tmp 6] ?_
 repeat' (first|((first|refine ai (fun K hK => ?_)|refine ae (h1) ?_);and_intros;(all_goals first|(refine hK _ ?_;clear hK K)|exact aa|skip))|(refine ak ?_;(try clear hB KB);(try clear hK K)))
 first|rfl|(unfold vq;rfl)|(refine congrArg (fun v=>SV.b (B v)) ?_;unfold vq;simp)
theorem vT (s:Script) (x y:Int) (E:EvOk s):aC Sg 61 [ag (aE s),I x,I y] (fun r=>r = .b (I (dd s x y))):=by
 have ht:True:=trivial
 have h1:=Bq s E.len (fun h=>⟨ou h,fun m hm=>(E.im h m hm).1⟩)
 have h2:=xC s.canvas x y
 unfold dd
 by_cases hc:(fj s).1=0
 ·rw [if_neg (by rw [Decidable.not_not];exact hc)]
  rw [hc] at h1
  cases hk:vq s.canvas x y
  ·rw [if_pos rfl]
   rw [hk] at h2
   refine aA Tryz.func61 [.tmp 6] ?_
   repeat' (first|with_reducible exact ca|refine aj ht ?_|refine an ?_|((first|refine ai (fun K hK => ?_)|refine ae (h1) ?_|refine ae (h2) ?_);and_intros;(all_goals first|(refine hK _ ?_;clear hK K)|exact aa|skip))|(refine ak ?_;(try clear hB KB);(try clear hK K)))
  ·rw [if_neg (by decide)]
   rw [hk] at h2
   refine aA Tryz.func61 [.tmp 6] ?_
   repeat' (first|with_reducible exact ca|refine aj ht ?_|refine an ?_|((first|refine ai (fun K hK => ?_)|refine ae (h1) ?_|refine ae (h2) ?_);and_intros;(all_goals first|(refine hK _ ?_;clear hK K)|exact aa|skip))|(refine ak ?_;(try clear hB KB);(try clear hK K)))
 ·rw [if_pos hc]
  have g0:((fj s).1 != 0)=true:=by rw [bne_iff_ne];exact hc
  refine aA Tryz.func61 [.tmp 6] ?_
  repeat' (first|with_reducible exact ca|refine aj g0 ?_|refine an ?_|((first|refine ai (fun K hK => ?_)|refine ae (h1) ?_);and_intros;(all_goals first|(refine hK _ ?_;clear hK K)|exact aa|skip))|(refine ak ?_;(try clear hB KB);(try clear hK K)))
end Go.Proofs.YtmfblbbemekkoaaGreatDoor
set_option maxHeartbeats 4000000
set_option maxRecDepth 16000
namespace Go.Proofs.YtmfblbbemekkoaaGreatDoor
open Go Go.SL
open Go.RowKit (wrap64)
theorem gF (s:Script) (x y:Int) (E:EvOk s) (hx:i64 x) (hy:i64 y):aC Sg 24 [ag (aE s),I x,I y] (fun r=>r = .tup [ag (aF (gv s x y)),I (dd s x y)]):=by
 have ht:True:=trivial
 have h1:=vT s x y E
 by_cases h0:dd s x y=0
 ·have h2:=FV s x y _ (E.pt h0) E.len hx hy
  have e2:gv s x y=cK s x y:=by unfold gv;rw [if_pos h0]
  rw [e2]
  rw [h0] at h1 ⊢
  unfold iE at h2
  generalize cK s x y=q at *
  refine aA Tryz.func24 [.cell 6 41, .tmp 7] ?_
  repeat' (first|refine aj ht ?_|refine an ?_|((first|refine ai (fun K hK => ?_)|refine ae (h1) ?_|refine ae (h2) ?_);and_intros;(all_goals first|(refine hK _ ?_;clear hK K)|exact aa|skip))|(refine ak ?_;(try clear hB KB);(try clear hK K)))
  all_goals (try rfl)
 ·have e2:gv s x y=aI:=by unfold gv;rw [if_neg h0]
  have g0:(dd s x y != 0)=true:=by rw [bne_iff_ne];exact h0
  rw [e2]
  refine aA Tryz.func24 [.cell 6 41, .tmp 7] ?_
  repeat' (first|refine aj g0 ?_|refine an ?_|((first|refine ai (fun K hK => ?_)|refine ae (h1) ?_);and_intros;(all_goals first|(refine hK _ ?_;clear hK K)|exact aa|skip))|(refine ak ?_;(try clear hB KB);(try clear hK K)))
  all_goals (try rfl)
end Go.Proofs.YtmfblbbemekkoaaGreatDoor
set_option maxHeartbeats 4000000
set_option maxRecDepth 16000
namespace Go.Proofs.YtmfblbbemekkoaaGreatDoor
open Go Go.SL
open Go.RowKit (wrap64)
theorem mI (s:Script) (x y:Int) (E:EvOk s) (hx:i64 x) (hy:i64 y):aC Sg 27 [ag (aE s),I x,I y] (fun r=>r = .tup [ag (aF (gv s x y)),I (dd s x y)]):=by
 have ht:True:=trivial
 have h1:=BT s E.len (fun h=>⟨ou h,fun m hm=>(E.im h m hm).1⟩)
 have h2:=Ay s.canvas x y
 by_cases hc:(fj s).1=0
 ·rw [hc] at h1
  cases hk:vq s.canvas x y
  ·have e:dd s x y=20:=by
    unfold dd
    rw [if_neg (by rw [Decidable.not_not];exact hc),if_pos hk]
   have e2:gv s x y=aI:=by unfold gv;rw [e,if_neg (by decide)]
   rw [e,e2]
   rw [hk] at h2
   refine aA Tryz.func27 [.cell 6 41, .tmp 7] ?_
   repeat' (first|refine aj ht ?_|refine an ?_|((first|refine ai (fun K hK => ?_)|refine ae (h1) ?_|refine ae (h2) ?_);and_intros;(all_goals first|(refine hK _ ?_;clear hK K)|exact aa|skip))|(refine ak ?_;(try clear hB KB);(try clear hK K)))
   rfl
  ·have e:dd s x y=0:=by
    unfold dd
    rw [if_neg (by rw [Decidable.not_not];exact hc),if_neg (by rw [hk];decide)]
   have e2:gv s x y=cK s x y:=by unfold gv;rw [if_pos e]
   have h3:=yI s x y _ (E.pt e) E.len hx hy
   rw [e,e2]
   rw [hk] at h2
   refine aA Tryz.func27 [.cell 6 41, .tmp 7] ?_
   repeat' (first|refine aj ht ?_|refine an ?_|((first|refine ai (fun K hK => ?_)|refine ae (h1) ?_|refine ae (h2) ?_|refine ae (h3) ?_);and_intros;(all_goals first|(refine hK _ ?_;clear hK K)|exact aa|skip))|(refine ak ?_;(try clear hB KB);(try clear hK K)))
   rfl
 ·have e:dd s x y=(fj s).1:=by
   unfold dd
   rw [if_pos hc]
  have e2:gv s x y=aI:=by unfold gv;rw [e,if_neg hc]
  have g0:((fj s).1 != 0)=true:=by rw [bne_iff_ne];exact hc
  rw [e,e2]
  refine aA Tryz.func27 [.cell 6 41, .tmp 7] ?_
  repeat' (first|refine aj g0 ?_|refine an ?_|((first|refine ai (fun K hK => ?_)|refine ae (h1) ?_);and_intros;(all_goals first|(refine hK _ ?_;clear hK K)|exact aa|skip))|(refine ak ?_;(try clear hB KB);(try clear hK K)))
  rfl
end Go.Proofs.YtmfblbbemekkoaaGreatDoor
set_option maxHeartbeats 8000000
set_option maxRecDepth 16000
namespace Go.Proofs.YtmfblbbemekkoaaGreatDoor
open Go Go.SL
open Go.RowKit (wrap64)
attribute [local go_sem] vG
theorem lN (s:Scene) (hs:SceneOk s):kR Sg 15 [ag (dk s)] (vG (au s)) 8 47 28 (au s).images.length (bj aN (au s).images):=by
 obtain ⟨hb,⟨x1,x2⟩,⟨y1,y2⟩,⟨w1,w2⟩,⟨v1,v2⟩,⟨t1,t2⟩,⟨u1,u2⟩,ho,hp,hop,hpic,hraw⟩:=hs
 have hm:=lL s.bits
 have hsm:=bK s
 have htw:=jS (aq s) (bI s) (bF s)
 have hw0:1≤1+s.w % 5∧1+s.w % 5≤5:=by omega
 have hh0:1≤1+s.h % 4∧1+s.h % 4≤4:=by omega
 have ew:s.tileW % (1+s.w % 5)=bI s - 1:=by unfold bI;omega
 have eh:s.tileH % (1+s.h % 4)=bF s - 1:=by unfold bF;omega
 have bw:=Int.emod_nonneg s.tileW (show 1+s.w % 5≠0 by omega)
 have bw2:=Int.emod_lt_of_pos s.tileW (show 0<1+s.w % 5 by omega)
 have bh:=Int.emod_nonneg s.tileH (show 1+s.h % 4≠0 by omega)
 have bh2:=Int.emod_lt_of_pos s.tileH (show 0<1+s.h % 4 by omega)
 have hmx:aC Sg 52 [I s.bits] (fun r=>r = .b (U (bO s.bits))):=Au _
 refine Cc Tryz.func15 rfl (rs:=[.cell 2 37]) rfl rfl dK (by decide +kernel) (Nat.le_of_ble_eq_true rfl) (ch (by simp (maxSteps:=999999)(disch:=omega) only [go_sem])) ?_
 repeat' (first|refine an ?_|((with_reducible refine aT (id:=10) (fun K hW => ?_));(try simp (maxSteps:=999999)(disch:=omega) only [go_sem]);and_intros;(all_goals first|(refine hK _ ?_;clear hK K)|exact aa|skip))|((first|refine ai (fun K hK => ?_)|refine ae (hmx) ?_|refine ae (bN _ _ (by omega) (by omega)) ?_|refine ae (nY ⟨_,_,_,_⟩ _ _) ?_);and_intros;(all_goals first|(refine hK _ ?_;clear hK K)|exact aa|skip))|(apply fo;(case hf=>rfl);(case hc=>exact eH);(all_goals first|(intro hb;(try simp only [ov] at hb))|skip))|exact bB)
 refine rZ ?_ ?_ (by simp (maxSteps:=999999)(disch:=omega) only [go_sem]) (kZ s.order (dD (aq s) (bI s) (bF s) * dA (aq s) (bI s) (bF s)) ho htw.2)
 try simp (maxSteps:=999999)(disch:=omega) only [go_sem]
 try (refine hK _ ?_;clear hK K)
 rotate_left
 ·rw [← htw.1]
  have e1:1+s.tileW % (1+s.w % 5)=bI s:=rfl
  have e2:1+s.tileH % (1+s.h % 4)=bF s:=rfl
  simp only [e1,e2]
  rfl
 refine hW _ (aQ [(1, .b (.c (.ptr 0 0))),(2, .b (.c (.ptr 1 0))),(3, .b (U (bO s.bits))),(4, .b (.c (.ptr 2 0))),(7, .b (I (1+s.w % 5))),(8, .b (I (1+s.h % 4)))]
  [(0, .fix ((dk s).map CV.p)),(1, .fix ((List.range 10).map fun _=>CV.p .any)),(2, .fix [.p (PI (au s).bits), .p (PI (aq s).x0), .p (PI (aq s).y0), .p (PI (aq s).x1), .p (PI (aq s).y1), .p (PI (bI s)), .p (PI (bF s)), .p (dQ (au s).order), .p Cb, .p Cb])] 3) ?_ ?_
 ·clear hW
  refine az [(1,some 1),(2,some 2)] ?_ ?_
  and_intros
  all_goals first|exact ao|skip
 clear hW
 refine eB ?_
 refine ga fun K hK => ?_
 simp (maxSteps:=999999)(disch:=omega) only [go_sem]
 and_intros
 all_goals first|(refine hK _ ?_;clear hK K)|exact aa|skip
 refine dZ fun KB hV => ?_
 refine aO (X:=Nat) (fun i=>aQ [(1, .b (.c (.ptr 0 0))),(2, .b (.c (.ptr 1 0))),(3, .b (U (bO s.bits))),(4, .b (.c (.ptr 2 0))),(7, .b (I (1+s.w % 5))),(8, .b (I (1+s.h % 4))),(12, .b (I i))]
  [(0, .fix ((dk s).map CV.p)),(1, .fix ((List.range 10).map fun _=>CV.p .any)),(2, .fix [.p (PI (au s).bits), .p (PI (aq s).x0), .p (PI (aq s).y0), .p (PI (aq s).x1), .p (PI (aq s).y1), .p (PI (bI s)), .p (PI (bF s)), .p (dQ (au s).order), .own 3 i, .p Cb]),
   (3, .arr 47 28 i (bj aN ((aS s).take i)))] 4) (fun i=>i≤s.pics.length∧i≤4) (fun i=>4 - i) 0 ?_ ?_ ?_
 ·omega
 ·refine az [(1,some 1),(2,some 2),(3,none)] ?_ ?_
  and_intros
  all_goals first|exact ao|skip
 ·rintro i ⟨hi,hi4⟩
  have him:i<s.pics.length→PicOk (s.pics.getD i default):=hpic i
  repeat' (first|(((with_reducible refine gz (id:=14) [] (by decide +kernel) (by decide +kernel) ?_ (fun K hK => ?_));(first|(refine And.intro (fun iw hiw => ?_) ?_;(focus ((try simp (maxSteps:=999999)(disch:=omega) only [go_sem] at hiw ⊢);(repeat (refine Eq.trans (if_neg ?_) ?_;(focus omega)));exact hw iw (by omega)));(focus (first|exact Nat.zero_le _|(simp (maxSteps:=999999)(disch:=omega) only [go_sem];done)|(simp (maxSteps:=999999)(disch:=omega) only [go_sem];omega))))|exact cR));(try simp (maxSteps:=999999)(disch:=omega) only [go_sem]);and_intros;(all_goals first|(refine hK _ (by simp (maxSteps:=999999)(disch:=omega) only [go_sem]) ?_;clear hK K)|exact aa|skip))|refine an ?_|(refine ai (fun K hK => ?_);and_intros;(all_goals first|(refine hK _ ?_;clear hK K)|exact aa|skip))|(refine aW (fun hb => ?_) (fun hb => ?_);all_goals try exact aG))
  ·refine rX (uU (s.pics.getD (i:Int).toNat default) (aq s) (bO s.bits) (by rw [Int.toNat_natCast];exact hpic i (by omega)) hsm (by unfold u16;omega)) (by simp (maxSteps:=999999)(disch:=omega) only [go_sem]) ?_
   try simp (maxSteps:=999999)(disch:=omega) only [go_sem]
   and_intros
   all_goals first|(refine hK _ ?_;clear hK K)|exact aa|skip
   refine hK _ trivial ?_
   clear hK
   repeat' (first|refine an ?_|(refine ai (fun K hK => ?_);and_intros;(all_goals first|(refine hK _ ?_;clear hK K)|exact aa|skip)))
   rw [ah]
   refine aw (i+1) ?_ (by omega) (by omega)
   have hl1:((aS s).take i).length=i:=by simp [aS];omega
   have he:(aS s).take (i+1)=(aS s).take i ++ [iv (s.pics.getD i default) (aq s) (bO s.bits)]:=by
    have h1:i<(s.pics.take 4).length:=by rw [List.length_take];omega
    have h2:i<s.pics.length:=by omega
    simp only [aS,← List.map_take]
    rw [List.take_add_one,List.map_append,List.getElem?_eq_getElem h1,List.getD_eq_getElem?_getD,List.getElem?_eq_getElem h2,List.getElem_take]
    rfl
   refine az [(1,some 1),(2,some 2),(3,some 5)] ?_ ?_
   and_intros
   all_goals first|exact ao|skip
   have key:=fun g hg=>dz (enc:=aN) (xs:=(aS s).take i) (x:=iv (s.pics.getD i default) (aq s) (bO s.bits)) (s:=28) (g:=g) hg
   simp only [hl1,← he] at key
   refine .inr (key _ fun j hj => ?_)
   simp only [Int.toNat_natCast]
   have hivl:j=0∨j=1∨j=2∨j=3∨j=4∨j=5∨j=6∨j=7∨j=8∨j=9∨j=10∨j=11∨j=12∨j=13∨j=14∨j=15∨j=16∨j=17∨j=18∨j=19∨j=20∨j=21∨j=22∨j=23∨j=24∨j=25∨j=26∨j=27:=by omega
   rcases hivl with rfl|rfl|rfl|rfl|rfl|rfl|rfl|rfl|rfl|rfl|rfl|rfl|rfl|rfl|rfl|rfl|rfl|rfl|rfl|rfl|rfl|rfl|rfl|rfl|rfl|rfl|rfl|rfl <;> rfl
  ·have hn0:i=(aS s).length:=by simp [aS];omega
   refine hV _ (aQ [(1, .b (.c (.ptr 0 0))),(2, .b (.c (.ptr 1 0))),(3, .b (U (bO s.bits))),(4, .b (.c (.ptr 2 0))),(7, .b (I (1+s.w % 5))),(8, .b (I (1+s.h % 4)))]
    [(0, .fix ((dk s).map CV.p)),(1, .fix ((List.range 10).map fun _=>CV.p .any)),(2, .fix [.p (PI (au s).bits), .p (PI (aq s).x0), .p (PI (aq s).y0), .p (PI (aq s).x1), .p (PI (aq s).y1), .p (PI (bI s)), .p (PI (bF s)), .p (dQ (au s).order), .own 3 (aS s).length, .p Cb]),(3, .arr 47 28 (aS s).length (bj aN (aS s)))] 4) ?_ ?_
   ·rw [hn0,List.take_of_length_le (Nat.le_refl _)]
    refine az [(1,some 1),(2,some 2),(3,some 3)] ?_ ?_
    and_intros
    all_goals first|exact ao|skip
   clear hV hn0 him
   refine eB ?_
   refine ga fun K hK => ?_
   simp (maxSteps:=999999)(disch:=omega) only [go_sem]
   and_intros
   all_goals first|(refine hK _ ?_;clear hK K)|exact aa|skip
   refine Gm (t:=(((aS s).length:Int) == 0)) (aQ [(1, .b (.c (.ptr 0 0))),(2, .b (.c (.ptr 1 0))),(3, .b (U (bO s.bits))),(4, .b (.c (.ptr 2 0)))]
    [(0, .fix ((dk s).map CV.p)),(1, .fix ((List.range 10).map fun _=>CV.p .any)),(2, .fix [.p (PI (au s).bits), .p (PI (aq s).x0), .p (PI (aq s).y0), .p (PI (aq s).x1), .p (PI (aq s).y1), .p (PI (bI s)), .p (PI (bF s)), .p (dQ (au s).order), .own 3 (aJ s).length, .p Cb]),(3, .arr 47 28 (aJ s).length (bj aN (aJ s)))] 4) ?_ ?_ ?_ ?_
   ·simp (maxSteps:=999999)(disch:=omega) only [go_sem]
   ·intro hb
    have h0:(aS s).length=0:=by simpa using hb
    have hi1:aJ s=[jf (1+s.w % 5) (1+s.h % 4) ⟨bO s.bits,0,0,bO s.bits,bO s.bits⟩]:=by rw [aJ,if_pos h0]
    repeat' (first|(((with_reducible refine gz (id:=16) [] (by decide +kernel) (by decide +kernel) ?_ (fun K hK => ?_));(first|(refine And.intro (fun iw hiw => ?_) ?_;(focus ((try simp (maxSteps:=999999)(disch:=omega) only [go_sem] at hiw ⊢);(repeat (refine Eq.trans (if_neg ?_) ?_;(focus omega)));exact hw iw (by omega)));(focus (first|exact Nat.zero_le _|(simp (maxSteps:=999999)(disch:=omega) only [go_sem];done)|(simp (maxSteps:=999999)(disch:=omega) only [go_sem];omega))))|exact cR));(try simp (maxSteps:=999999)(disch:=omega) only [go_sem]);and_intros;(all_goals first|(refine hK _ (by simp (maxSteps:=999999)(disch:=omega) only [go_sem]) ?_;clear hK K)|exact aa|skip))|(refine ae (ob (1+s.w % 5) (1+s.h % 4) ⟨bO s.bits,0,0,bO s.bits,bO s.bits⟩) ?_;and_intros;(all_goals first|(refine hK _ ?_;clear hK K)|exact aa|skip)))
    refine hK _ trivial ?_
    clear hK
    rw [ah,hi1]
    refine ⟨_, ?_,rfl⟩
    refine az [(1,some 1),(2,some 2),(3,some 5)] ?_ ?_
    and_intros
    all_goals first|exact ao|skip
    have h00:aS s=[]:=List.eq_nil_of_length_eq_zero h0
    rw [h00]
    refine .inr fun a ha j hj => ?_
    have:a=0:=by simpa using ha
    subst this
    have hivl:j=0∨j=1∨j=2∨j=3∨j=4∨j=5∨j=6∨j=7∨j=8∨j=9∨j=10∨j=11∨j=12∨j=13∨j=14∨j=15∨j=16∨j=17∨j=18∨j=19∨j=20∨j=21∨j=22∨j=23∨j=24∨j=25∨j=26∨j=27:=by omega
    rcases hivl with rfl|rfl|rfl|rfl|rfl|rfl|rfl|rfl|rfl|rfl|rfl|rfl|rfl|rfl|rfl|rfl|rfl|rfl|rfl|rfl|rfl|rfl|rfl|rfl|rfl|rfl|rfl|rfl <;> exact PV.le_refl _
   ·intro hb
    have h0:¬ (aS s).length=0:=by simpa using hb
    have hi1:aJ s=aS s:=by rw [aJ,if_neg h0]
    refine xU ?_
    rw [ah,hi1]
    refine ⟨_, ?_,rfl⟩
    refine az [(1,some 1),(2,some 2),(3,some 3)] ?_ ?_
    and_intros
    all_goals first|exact ao|skip
   have h3m:u16 (bO s.bits):=by unfold u16;omega
   have him1:1≤(aJ s).length∧(aJ s).length≤4:=by
    unfold aJ
    split
    ·simp
    ·have:(aS s).length≤4:=by simp [aS];omega
     omega
   refine ga fun K hK => ?_
   simp (maxSteps:=999999)(disch:=omega) only [go_sem]
   and_intros
   all_goals first|(refine hK _ ?_;clear hK K)|exact aa|skip
   refine eB ?_
   refine ga fun K hK => ?_
   simp (maxSteps:=999999)(disch:=omega) only [go_sem]
   and_intros
   all_goals first|(refine hK _ ?_;clear hK K)|exact aa|skip
   refine dZ fun KB2 hV2 => ?_
   refine aO (X:=Nat × List Op × List Op × List Op) (fun x=>aQ [(1, .b (.c (.ptr 0 0))),(2, .b (.c (.ptr 1 0))),(3, .b (U (bO s.bits))),(4, .b (.c (.ptr 2 0))),(13, .b (.c (.own 5 x.2.2.1.length))),(14, .b (I x.1))]
    [(0, .fix ((dk s).map CV.p)),(1, .fix ((List.range 10).map fun _=>CV.p .any)),(2, .fix [.p (PI (au s).bits), .p (PI (aq s).x0), .p (PI (aq s).y0), .p (PI (aq s).x1), .p (PI (aq s).y1), .p (PI (bI s)), .p (PI (bF s)), .p (dQ (au s).order), .own 3 (aJ s).length, .own 4 x.2.1.length]),
     (3, .arr 47 28 (aJ s).length (bj aN (aJ s))),(4, .arr 29 12 x.2.1.length (bj cT x.2.1)),(5, .arr 29 12 (x.2.2.1.length+x.2.2.2.length) (bj cT (x.2.2.1 ++ x.2.2.2)))] 6)
    (fun x=>x.1≤s.ops.length∧x.1≤9∧(s.ops.take x.1).foldl (jd (aJ s).length (aq s) (bO s.bits)) ([],[])=(x.2.1,x.2.2.1)∧x.2.1.length≤x.1∧x.2.2.1.length≤x.1) (fun x=>9 - x.1) (0,[],[],[]) ?_ ?_ ?_
   ·exact ⟨by omega,by omega,rfl,Nat.le_refl _,Nat.le_refl _⟩
   ·refine az [(1,some 1),(2,some 2),(3,some 3),(4,none),(5,none)] ?_ ?_
    and_intros
    all_goals first|exact ao|skip
   ·rintro ⟨i,ops,l,jk⟩ ⟨hi,hi9,hf,ho1,hl1⟩
    dsimp only at hi hi9 hf ho1 hl1 ⊢
    have hstep:∀ (hlt:i<s.ops.length) (q:List Op × List Op),jd (aJ s).length (aq s) (bO s.bits) (ops,l) (s.ops.getD i default)=q→(s.ops.take (i+1)).foldl (jd (aJ s).length (aq s) (bO s.bits)) ([],[])=q:=by
     rintro hlt q rfl
     rw [List.take_add_one,List.getElem?_eq_getElem hlt,List.foldl_append,hf,List.getD_eq_getElem?_getD,List.getElem?_eq_getElem hlt]
     rfl
    by_cases hc:i<s.ops.length∧i<9
    ·by_cases hk0:(s.ops.getD i default).kind % 8=0∧0<l.length
     ·have hkT:((s.ops.getD i default).kind % 8 == 0 && decide ((l.length:Int)>0))=true:=by
       simp only [Bool.and_eq_true,beq_iff_eq,decide_eq_true_eq];omega
      repeat' (first|refine aj hkT ?_|refine an ?_|((first|refine ai (fun K hK => ?_)|refine ae (bN _ _ (by omega) (by omega)) ?_);and_intros;(all_goals first|(refine hK _ ?_;clear hK K)|exact aa|skip))|(refine aW (fun hb => ?_) (fun hb => ?_);all_goals try exact aG))
      rw [ah]
      have hp:=hk0.2
      have hne:l≠[]:=fun h=>by rw [h] at hp;simp at hp
      have hj:l.dropLast ++ (l.getLast hne :: jk)=l ++ jk:=by
       conv=>rhs;rw [← List.dropLast_concat_getLast hne]
       simp
      refine aw (i+1,ops ++ [eG],l.dropLast,l.getLast hne :: jk) ?_ ⟨by dsimp only;omega,by dsimp only;omega,hstep hc.1 _ (by rw [jd,if_pos hk0]),by simp;omega,by rw [List.length_dropLast];dsimp only;omega⟩ (by dsimp only;omega)
      dsimp only
      rw [hj]
      refine az [(1,some 1),(2,some 2),(3,some 3),(4,some 7),(5,some 5)] ?_ ?_
      and_intros
      all_goals first|exact ao|skip
      ·rw [List.length_dropLast];omega
      ·simp
      ·simp
      ·refine .inr fun a ha j hj=>dz (fun j hj => ?_) a ha j hj
       have hivl:j=0∨j=1∨j=2∨j=3∨j=4∨j=5∨j=6∨j=7∨j=8∨j=9∨j=10∨j=11:=by omega
       rcases hivl with rfl|rfl|rfl|rfl|rfl|rfl|rfl|rfl|rfl|rfl|rfl|rfl <;> rfl
      ·rw [List.length_dropLast];omega
     ·have hkF:((s.ops.getD i default).kind % 8 == 0 && decide ((l.length:Int)>0))=false:=by
       rw [Bool.eq_false_iff]
       intro h
       simp only [Bool.and_eq_true,beq_iff_eq,decide_eq_true_eq] at h
       exact hk0 ⟨h.1,by omega⟩
      have hraw1:RawOk (s.ops.getD (i:Int).toNat default):=hraw i hc.1
      have hcb : -2000000000≤(aq s).x0∧(aq s).x0≤2000000000 ∧ -2000000000≤(aq s).y0∧(aq s).y0≤2000000000:=by
       unfold aq
       dsimp only
       omega
      repeat' (first|refine aj hkF ?_|refine an ?_|((first|refine ai (fun K hK => ?_)|refine ae (bN _ _ (by omega) (by omega)) ?_);and_intros;(all_goals first|(refine hK _ ?_;clear hK K)|exact aa|skip))|(refine aW (fun hb => ?_) (fun hb => ?_);all_goals try exact aG))
      any_goals (focus (simp only [beq_eq_false_iff_ne,ne_eq];omega))
      any_goals (focus (rintro ⟨q1,q2⟩;refine ⟨⟨q1,q2⟩, ?_⟩;simp only [beq_eq_false_iff_ne,ne_eq] at q1;omega))
      repeat' (first|(((with_reducible refine bM (id:=27) [] (by decide +kernel) (by decide +kernel) ?_ (fun K hK => ?_));(first|(refine And.intro (fun iw hiw => ?_) ?_;(focus ((try simp (maxSteps:=999999)(disch:=omega) only [go_sem] at hiw ⊢);(repeat (refine Eq.trans (if_neg ?_) ?_;(focus omega)));exact hw iw (by omega)));(focus (first|exact Nat.zero_le _|(simp (maxSteps:=999999)(disch:=omega) only [go_sem];done)|(simp (maxSteps:=999999)(disch:=omega) only [go_sem];omega))))|exact cR));(try simp (maxSteps:=999999)(disch:=omega) only [go_sem]);and_intros;(all_goals first|(refine hK _ (by simp (maxSteps:=999999)(disch:=omega) only [go_sem]) ?_;clear hK K)|exact aa|skip))|(refine ae (xT _ _ _ (aq s) _ (bO s.bits) hraw1 (by omega) (by omega) hcb.1 hcb.2.1 hcb.2.2.1 hcb.2.2.2 h3m) ?_;and_intros;(all_goals first|(refine hK _ ?_;clear hK K)|exact aa|skip)))
      refine hK _ trivial ?_
      clear hK
      have hfr:((l.length:Int) == 0 || ((l ++ jk).getD ((l.length:Int) - 1).toNat default).isolated && !((l ++ jk).getD ((l.length:Int) - 1).toNat default).knockout)=eC l:=by
       cases hl0:l with
       | nil=>rfl
       | cons a r =>
        rw [← hl0]
        have hpos:0<l.length:=by rw [hl0];simp
        have e1:((l.length:Int) - 1).toNat=l.length - 1:=by omega
        have e2:(l ++ jk).getD (l.length - 1) default=l.getD (l.length - 1) default:=by
         rw [List.getD_eq_getElem?_getD,List.getD_eq_getElem?_getD,List.getElem?_append_left (by omega)]
        have e3:((l.length:Int) == 0)=false:=beq_eq_false_iff_ne.2 (by omega)
        have e4:l.isEmpty=false:=by rw [hl0];rfl
        rw [e1,e2,e3,eC,e4]
      generalize hO:kz (s.ops.getD i default) (decide ((s.ops.getD i default).kind % 8<3)) (aJ s).length (aq s).x0 (aq s).y0 (eC l) (bO s.bits)=O at *
      by_cases hp:(s.ops.getD i default).kind % 8<3
      ·have gk:∀ f x y,((kz (s.ops.getD i default) (decide ((s.ops.getD i default).kind % 8<3)) (aJ s).length x y f (bO s.bits)).kind == 2)=true:=fun f x y=>by rw [decide_eq_true hp];rfl
       repeat' (first|refine aj gk ?_|refine an ?_|(refine ai (fun K hK => ?_);and_intros;(all_goals first|(refine hK _ ?_;clear hK K)|exact aa|skip)))
       rw [ah]
       simp only [hfr,Int.toNat_natCast,hO]
       refine aw (i+1,ops ++ [O],l ++ [O],[]) ?_ ⟨by dsimp only;omega,by dsimp only;omega,hstep hc.1 _ (by rw [jd,if_neg hk0,if_pos hp];dsimp only;rw [hO]),by simp;omega,by simp;omega⟩ (by dsimp only;omega)
       simp only [List.append_nil,List.length_nil,Nat.add_zero]
       refine az [(1,some 1),(2,some 2),(3,some 3),(4,some 8),(5,some 10)] ?_ ?_
       and_intros
       all_goals first|exact ao|skip
       ·simp
       ·simp
       ·simp
       ·refine .inr fun a ha j hj=>dz (fun j hj => ?_) a ha j hj
        have hivl:j=0∨j=1∨j=2∨j=3∨j=4∨j=5∨j=6∨j=7∨j=8∨j=9∨j=10∨j=11:=by omega
        rcases hivl with rfl|rfl|rfl|rfl|rfl|rfl|rfl|rfl|rfl|rfl|rfl|rfl <;> rfl
       ·simp
       ·refine .inr fun a ha j hj=>nJ (fun j hj => ?_) a ha j hj
        have hivl:j=0∨j=1∨j=2∨j=3∨j=4∨j=5∨j=6∨j=7∨j=8∨j=9∨j=10∨j=11:=by omega
        rcases hivl with rfl|rfl|rfl|rfl|rfl|rfl|rfl|rfl|rfl|rfl|rfl|rfl <;> rfl
      ·have gk:∀ f x y,((kz (s.ops.getD i default) (decide ((s.ops.getD i default).kind % 8<3)) (aJ s).length x y f (bO s.bits)).kind == 2)=false:=fun f x y=>by rw [decide_eq_false hp];rfl
       repeat' (first|refine aj gk ?_|refine an ?_|(refine ai (fun K hK => ?_);and_intros;(all_goals first|(refine hK _ ?_;clear hK K)|exact aa|skip)))
       rw [ah]
       simp only [hfr,Int.toNat_natCast,hO]
       refine aw (i+1,ops ++ [O],l,jk) ?_ ⟨by dsimp only;omega,by dsimp only;omega,hstep hc.1 _ (by rw [jd,if_neg hk0,if_neg hp];dsimp only;rw [hO]),by simp;omega,by dsimp only;omega⟩ (by dsimp only;omega)
       dsimp only
       refine az [(1,some 1),(2,some 2),(3,some 3),(4,some 8),(5,some 5)] ?_ ?_
       and_intros
       all_goals first|exact ao|skip
       ·simp
       ·simp
       ·refine .inr fun a ha j hj=>dz (fun j hj => ?_) a ha j hj
        have hivl:j=0∨j=1∨j=2∨j=3∨j=4∨j=5∨j=6∨j=7∨j=8∨j=9∨j=10∨j=11:=by omega
        rcases hivl with rfl|rfl|rfl|rfl|rfl|rfl|rfl|rfl|rfl|rfl|rfl|rfl <;> rfl
    ·repeat' (first|refine an ?_|(refine ai (fun K hK => ?_);and_intros;(all_goals first|(refine hK _ ?_;clear hK K)|exact aa|skip))|(refine aW (fun hb => ?_) (fun hb => ?_);all_goals try exact aG))
     have hc2:i=s.ops.length∨i=9:=by omega
     have hfin:oe s=(ops,l):=by
      rw [oe,← hf]
      rcases hc2 with h|h
      ·rw [h,List.take_of_length_le (Nat.le_refl _),List.take_of_length_le (by omega)]
      ·rw [h]
     refine hV2 _ (aQ [(1, .b (.c (.ptr 0 0))),(2, .b (.c (.ptr 1 0))),(4, .b (.c (.ptr 2 0))),(13, .b (.c (.own 5 l.length)))]
      [(0, .fix ((dk s).map CV.p)),(1, .fix ((List.range 10).map fun _=>CV.p .any)),(2, .fix [.p (PI (au s).bits), .p (PI (aq s).x0), .p (PI (aq s).y0), .p (PI (aq s).x1), .p (PI (aq s).y1), .p (PI (bI s)), .p (PI (bF s)), .p (dQ (au s).order), .own 3 (aJ s).length, .own 4 ops.length]),
       (3, .arr 47 28 (aJ s).length (bj aN (aJ s))),(4, .arr 29 12 ops.length (bj cT ops)),(5, .arr 29 12 (l.length+jk.length) (bj cT (l ++ jk)))] 6) ?_ ?_
     ·refine az [(1,some 1),(2,some 2),(3,some 3),(4,some 4),(5,some 5)] ?_ ?_
      and_intros
      all_goals first|exact ao|skip
     clear hV2 hraw hstep hf
     refine eB ?_
     refine ga fun K hK => ?_
     simp (maxSteps:=999999)(disch:=omega) only [go_sem]
     and_intros
     all_goals first|(refine hK _ ?_;clear hK K)|exact aa|skip
     refine qC fun KB3 hB3 => ?_
     refine aO (X:=Nat) (fun k=>aQ [(1, .b (.c (.ptr 0 0))),(2, .b (.c (.ptr 1 0))),(4, .b (.c (.ptr 2 0))),(13, .b (.c (.own 5 l.length))),(19, .b (I k))]
      [(0, .fix ((dk s).map CV.p)),(1, .fix ((List.range 10).map fun _=>CV.p .any)),(2, .fix [.p (PI (au s).bits), .p (PI (aq s).x0), .p (PI (aq s).y0), .p (PI (aq s).x1), .p (PI (aq s).y1), .p (PI (bI s)), .p (PI (bF s)), .p (dQ (au s).order), .own 3 (aJ s).length, .own 4 (ops.length+k)]),
       (3, .arr 47 28 (aJ s).length (bj aN (aJ s))),(4, .arr 29 12 (ops.length+k) (bj cT (ops ++ List.replicate k eG))),(5, .arr 29 12 (l.length+jk.length) (bj cT (l ++ jk)))] 6) (fun k=>k≤l.length) (fun k=>l.length - k) 0 ?_ ?_ ?_
     ·omega
     ·refine az [(1,some 1),(2,some 2),(3,some 3),(4,some 4),(5,some 5)] ?_ ?_
      and_intros
      all_goals first|exact ao|skip
      exact .inl (by rw [List.replicate_zero,List.append_nil])
     ·intro k hk
      repeat' (first|refine an ?_|(refine ai (fun K hK => ?_);and_intros;(all_goals first|(refine hK _ ?_;clear hK K)|exact aa|skip))|(refine aW (fun hb => ?_) (fun hb => ?_);all_goals try exact aG)|refine yg (S:=Sg) (by assumption) ?_|(refine ak ?_;(try clear hB KB);(try clear hK K)))
      ·rw [ah]
       refine aw (k+1) ?_ (by omega) (by omega)
       have hl1:(ops ++ List.replicate k eG).length=ops.length+k:=by simp
       have he:(ops ++ List.replicate k eG) ++ [eG]=ops ++ List.replicate (k+1) eG:=by rw [List.append_assoc,List.replicate_succ']
       refine az [(1,some 1),(2,some 2),(3,some 3),(4,some 7),(5,some 5)] ?_ ?_
       and_intros
       all_goals first|exact ao|skip
       have key:=fun g hg=>dz (enc:=cT) (xs:=ops ++ List.replicate k eG) (x:=eG) (s:=12) (g:=g) hg
       simp only [hl1,he] at key
       refine .inr (key _ fun j hj => ?_)
       have hivl:j=0∨j=1∨j=2∨j=3∨j=4∨j=5∨j=6∨j=7∨j=8∨j=9∨j=10∨j=11:=by omega
       rcases hivl with rfl|rfl|rfl|rfl|rfl|rfl|rfl|rfl|rfl|rfl|rfl|rfl <;> rfl
      ·have hk2:k=l.length:=by omega
       have e2:ops ++ List.replicate k eG=(au s).ops:=by
        rw [hk2]
        show _=(oe s).1 ++ List.replicate (oe s).2.length eG
        rw [hfin]
       have e1:ops.length+k=(au s).ops.length:=by rw [← e2];simp
       rw [e1,e2]
       refine ⟨⟨_,rfl,rfl,fun _ _ _ _=>PV.le_refl _⟩, ?_⟩
       and_intros
       all_goals first|exact .inl rfl|trivial|skip
end Go.Proofs.YtmfblbbemekkoaaGreatDoor
set_option maxHeartbeats 4000000
set_option maxRecDepth 16000
namespace Go.Proofs.YtmfblbbemekkoaaGreatDoor
open Go Go.SL
open Go.RowKit (wrap64)
attribute [local go_sem] Int.toNat_natCast
def gm (m:Image) (k:Nat):Plane:=match k with
 | 0=>m.p0
 | 1=>m.p1
 | 2=>m.p2
 | 3=>m.p3
 | _=>m.p4
def lW (m:Image) (more:Int) (k:Nat):Image:=match k with
 | 0=>m
 | 1 => { m with p0:=bl m.p0 (ct more 0) }
 | 2 => { m with p0:=bl m.p0 (ct more 0),p1:=bl m.p1 (ct more 1) }
 | 3 => { m with p0:=bl m.p0 (ct more 0),p1:=bl m.p1 (ct more 1),p2:=bl m.p2 (ct more 2) }
 | 4 => { m with p0:=bl m.p0 (ct more 0),p1:=bl m.p1 (ct more 1),p2:=bl m.p2 (ct more 2),p3:=bl m.p3 (ct more 3) }
 | _ => { m with p0:=bl m.p0 (ct more 0),p1:=bl m.p1 (ct more 1),p2:=bl m.p2 (ct more 2),p3:=bl m.p3 (ct more 3),p4:=bl m.p4 (ct more 4) }
theorem tq (m:Image) (more:Int) (hf:aX m=true) (hw:m.w≤5) (hh:m.h≤4):aC Sg 16 [ag (aN m),I more] (fun r=>r = .b (ag (aN (bG m more)))):=by
 have ht:True:=trivial
 cases hs:m.solid with
 | true =>
  have e:bG m more=m:=by rw [bG,if_pos hs]
  rw [e]
  refine aA Tryz.func16 [.cell 4 47] ?_
  repeat' (first|refine aj hs ?_|refine an ?_|(refine ai (fun K hK => ?_);and_intros;(all_goals first|(refine hK _ ?_;clear hK K)|exact aa|skip))|(refine ak ?_;(try clear hB KB);(try clear hK K)))
  all_goals (try rfl)
 | false =>
  have e:bG m more=lW m more 5:=by rw [bG,if_neg (by rw [hs];decide)];rfl
  rw [e]
  have hpl:∀ k,k<5→cF (gm m k)=true∧(gm m k).w=m.w∧(gm m k).h=m.h:=fun k hk=>by
   unfold aX aH at hf
   simp only [hs,Bool.and_eq_true,Bool.false_eq_true,if_false,decide_eq_true_eq] at hf
   obtain ⟨h0,⟨⟨⟨⟨⟨f0,f5⟩,f6⟩,f1⟩,f2⟩,f3⟩,f4⟩:=hf
   have hk:k=0∨k=1∨k=2∨k=3∨k=4:=by omega
   rcases hk with rfl|rfl|rfl|rfl|rfl
   all_goals (unfold gm;simp_all)
  refine aA Tryz.func16 [.cell 4 47] ?_
  repeat' (first|refine aj hs ?_|refine an ?_|(refine ai (fun K hK => ?_);and_intros;(all_goals first|(refine hK _ ?_;clear hK K)|exact aa|skip)))
  refine aO (X:=Nat) (fun k=>aQ [(1, .b (I more)),(2, .b (.c (.ptr 0 0))),(4, .b (.c (.ptr 1 0))),(5, .b (I k))] [(0, .fix ((aN (lW m more k)).map CV.p)),(1, .fix (List.replicate 28 (.p .any)))] 2) (fun k=>k≤5) (fun k=>5 - k) 0 ?_ ?_ ?_
  ·omega
  ·refine az [(1,some 1)] ?_ ?_
   and_intros
   all_goals first|exact ao|skip
  intro k hk
  rcases Nat.lt_or_ge k 5 with hk5|hk5
  ·have g0:decide ((k:Int)<5)=true:=decide_eq_true (by omega)
   repeat' (first|refine an ?_|((with_reducible refine aT (id:=4) (fun K hW => ?_));(try simp (maxSteps:=999999)(disch:=omega) only [go_sem]);and_intros;(all_goals first|(refine hK _ ?_;clear hK K)|exact aa|skip)))
   refine hW _ (aQ [(1, .b (I more)),(2, .b (.c (.ptr 0 0))),(4, .b (.c (.ptr 1 0))),(5, .b (I k)),(14, .b (B (decide ((k:Int)<5))))] [(0, .fix ((aN (lW m more k)).map CV.p)),(1, .fix (List.replicate 28 (.p .any)))] 2) ?_ ?_
   ·refine az [(1,some 1)] ?_ ?_
    and_intros
    all_goals first|exact ao|skip
   clear hW
   repeat' (first|refine an ?_|refine aj g0 ?_)
   refine aT (id:=6) fun K hW => ?_
   refine (fun (tl:∀ st,Le st (aQ [(1, .b (I more)),(2, .b (.c (.ptr 0 0))),(4, .b (.c (.ptr 1 0))),(5, .b (I k)),(6, .b (.c (.ptr 2 0)))] [(0, .fix ((aN (lW m more k)).map CV.p)),(1, .fix (List.replicate 28 (.p .any))),(2, .fix ((fL (gm m k)).map CV.p))] 3)→K st) => ?_) (fun st hl=>hW st _ hl ?_)
   ·clear hW
    have hk:k=0∨k=1∨k=2∨k=3∨k=4:=by omega
    rcases hk with rfl|rfl|rfl|rfl|rfl
    all_goals
     simp only [lW,gm] at tl ⊢
     simp (maxSteps:=999999)(disch:=omega) only [go_sem]
     refine And.intro (by omega) (tl _ ?_)
     refine az [(1,some 1),(2,some 2)] ?_ ?_
     and_intros
     all_goals first|exact ao|skip
   clear hW
   obtain ⟨ho,hpw,hph⟩:=hpl k hk5
   have hfit:=di (show cl m.w m.h=true by unfold aX at hf;rw [Bool.and_eq_true] at hf;exact hf.1)
   have hmod:=mK (IntKind.i64.wrap (more+k)) 4 (by omega)
   have hE:iJ (IntKind.i64.wrap (more+k)) 4=((ct more k:Nat):Int):=by
    unfold ct iJ
    rw [if_neg (by decide)]
    omega
   rw [hE] at hmod
   have hE3:=fB more k
   have fin:∀ k,k<5→fL (bl (gm m k) (ct more k))=fL (gm (lW m more (k+1)) k):=fun k hk=>by
    have hk:k=0∨k=1∨k=2∨k=3∨k=4:=by omega
    rcases hk with rfl|rfl|rfl|rfl|rfl <;> rfl
   have hfin:=fin k hk5
   clear fin
   unfold cF at ho
   simp only [Bool.and_eq_true,decide_eq_true_eq] at ho
   obtain ⟨W,hW⟩:∃ W:Nat,m.w=W:=⟨m.w.toNat,by omega⟩
   obtain ⟨H,hH⟩:∃ H:Nat,m.h=H:=⟨m.h.toNat,by omega⟩
   rw [hW] at hpw
   rw [hH] at hph
   generalize hP:gm m k=P at *
   obtain ⟨pw,ph,ps,pl⟩:=P
   dsimp only at hpw hph ho
   subst hpw
   subst hph
   obtain ⟨T,hT⟩:∃ T:Nat,ps=T:=⟨ps.toNat,by omega⟩
   subst hT
   generalize ct more k=E at *
   obtain ⟨S,hS⟩:∃ S:Nat,S=W+E:=⟨_,rfl⟩
   refine dN (id:=7) (.br 0 (.br 1 (.br 2 (.br 3 (.br 4 (.br 5 (.br 6 (.br 7 (.br 8 (.br 9 (.br 10 (.br 11 (.br 12 (.br 13 .leaf .nil) .nil) .nil) .nil) (.br 12 (.br 9 (.br 10 (.br 11 (.br 13 .leaf .nil) .nil) .nil) .nil) .nil)) .nil) .nil) .nil) .nil) .nil) .nil) .nil) .nil) .nil) (by decide +kernel) (by (first|(refine And.intro (fun iw hiw => ?_) ?_;(focus ((try simp (maxSteps:=999999)(disch:=omega) only [go_sem] at hiw ⊢);(repeat (refine Eq.trans (if_neg ?_) ?_;(focus omega)));exact hw iw (by omega)));(focus (first|exact Nat.zero_le _|(simp (maxSteps:=999999)(disch:=omega) only [go_sem];done)|(simp (maxSteps:=999999)(disch:=omega) only [go_sem];omega))))|exact cR)) (fun K0 hW => ?_)
   refine (fun (tl:∀ st,Le st (aQ [(1, .b (I more)),(2, .b (.c (.ptr 0 0))),(4, .b (.c (.ptr 1 0))),(5, .b (I k)),(6, .b (.c (.ptr 2 0))),(7, .b (.c (.ptr 3 0)))] [(0, .fix ((aN (lW m more k)).map CV.p)),(1, .fix (List.replicate 28 (.p .any))),(2, .fix ((fL ⟨W,H,T,pl⟩).map CV.p)),
    (3, .fix [.p (PI W), .p (PI H), .p (PI S), .p Cb])] 4)→K0 st) => ?_) (fun st hl=>hW st _ hl ?_)
   ·clear hW
    repeat' (first|exact ba|(refine bq (fun K' hK' => ?_) ?_)|(refine aV (tl _ ?_);clear tl)|(refine ae (hmod) ?_;(try simp (maxSteps:=999999)(disch:=omega) only [go_sem]);and_intros;(all_goals first|(refine hK' _ ?_;clear hK' K')|trivial|omega|exact Nat.le_of_ble_eq_true rfl|exact aa|skip))|(simp (maxSteps:=999999)(disch:=omega) only [go_sem];and_intros;(all_goals first|(refine hK' _ ?_;clear hK' K')|trivial|omega|exact Nat.le_of_ble_eq_true rfl|exact aa|skip)))
    all_goals
     refine az [(1,some 1),(2,some 2),(3,some 3)] ?_ ?_
     and_intros
     all_goals first|exact ao|skip
    all_goals exact .inl (by rw [hS];rfl)
   clear hW
   repeat' (first|refine an ?_|(refine ai (fun K hK => ?_);and_intros;(all_goals first|(refine hK _ ?_;clear hK K)|exact aa|skip)))
   refine aO (X:=Nat) (fun i=>aQ [(1, .b (I more)),(2, .b (.c (.ptr 0 0))),(4, .b (.c (.ptr 1 0))),(5, .b (I k)),(6, .b (.c (.ptr 2 0))),(7, .b (.c (.ptr 3 0))),(8, .b (I i))] [(0, .fix ((aN (lW m more k)).map CV.p)),(1, .fix (List.replicate 28 (.p .any))),(2, .fix ((fL ⟨W,H,T,pl⟩).map CV.p)),
    (3, .fix [.p (PI W), .p (PI H), .p (PI S), .own 4 i]),(4, .arr 27 1 i (fun a _=>PU (if a % S<W then pl.getD (a / S * T+a % S) 0 else 40000+a)))] 5) (fun i=>i≤S * H) (fun i=>S * H - i) 0 ?_ ?_ ?_
   ·omega
   ·refine az [(1,some 1),(2,some 2),(3,some 3),(4,none)] ?_ ?_
    and_intros
    all_goals first|exact ao|skip
   have hb:=di ho.1.1.1
   have hS8:S≤8:=by omega
   have hSH:S * H≤8 * 4:=Nat.mul_le_mul hS8 (by omega)
   have hSHi:(S:Int) * (H:Int)=((S * H:Nat):Int):=rfl
   intro i hi
   rcases Nat.lt_or_ge i (S * H) with h|h
   ·have g1:decide ((i:Int)<(S:Int) * (H:Int))=true:=decide_eq_true (by rw [hSHi];omega)
    have hS0:0<S:=by omega
    have hq:i / S<H:=Nat.div_lt_of_lt_mul h
    have hqT:i / S * T≤(H - 1) * T:=Nat.mul_le_mul_right _ (by omega)
    have hHT:(((H:Int) - 1) * (T:Int))=(((H - 1) * T:Nat):Int):=by rw [Int.natCast_mul,Int.natCast_sub (by omega)];rfl
    have hT2:i / S * T≤3 * 16777216:=Nat.mul_le_mul (by omega) (by omega)
    have hx0:(i:Int) / (S:Int) * (T:Int)=((i / S * T:Nat):Int):=rfl
    have hx1:(i:Int) % (S:Int)=((i % S:Nat):Int):=rfl
    have hx2:(i:Int) / (S:Int)=((i / S:Nat):Int):=rfl
    have hq0:0≤(i:Int) / (S:Int):=by rw [hx2];exact Int.natCast_nonneg _
    have hp0:0≤(i:Int) / (S:Int) * (T:Int):=by rw [hx0];exact Int.natCast_nonneg _
    have hr0:0≤(i:Int) % (S:Int):=by rw [hx1];exact Int.natCast_nonneg _
    by_cases hlt:i % S<W
    ·have g2:decide ((i:Int) % (S:Int)<(W:Int))=true:=decide_eq_true (by rw [hx1];omega)
     have e1:IntKind.i64.wrap ((i:Int) / (S:Int))=(i:Int) / (S:Int):=fq (by rw [hx2];omega) (by rw [hx2];omega)
     have e2:IntKind.i64.wrap ((i:Int) / (S:Int) * (T:Int))=(i:Int) / (S:Int) * (T:Int):=fq (by rw [hx0];omega) (by rw [hx0];omega)
     have e3:IntKind.i64.wrap (IntKind.i64.wrap (IntKind.i64.wrap ((i:Int) / (S:Int)) * (T:Int))+(i:Int) % (S:Int))=((i / S * T+i % S:Nat):Int):=by
      rw [e1,e2,hx0,hx1]
      exact fq (by omega) (by omega)
     have hlen:i / S * T+i % S<pl.length:=by
      have:=ho.2
      rw [hHT] at this
      omega
     repeat' (first|refine aj (And.intro g1 g2) ?_|refine an ?_|(refine ai (fun K hK => ?_);and_intros;(all_goals first|(refine hK _ ?_;clear hK K)|exact aa|skip)))
     rw [ah]
     refine aw (i+1) ?_ (by omega) (by omega)
     refine az [(1,some 1),(2,some 2),(3,some 3),(4,some 6)] ?_ ?_
     and_intros
     all_goals first|exact ao|skip
     refine .inr fun a ha j hj => ?_
     have hj0:j=0:=by omega
     subst hj0
     unfold fX
     by_cases hai:a<i
     ·rw [if_pos hai];exact PV.le_refl _
     ·have hai2:a=i:=by omega
      subst hai2
      rw [if_neg hai,Nat.sub_self,if_pos hlt]
      have e4:(a:Int) / (S:Int) * (T:Int)+(a:Int) % (S:Int)=((a / S * T+a % S:Nat):Int):=by rw [hx0,hx1];rfl
      first
       | (simp only [e3,Int.toNat_natCast];exact PV.le_refl _)
       | (simp only [e4,Int.toNat_natCast];exact PV.le_refl _)
    ·have g2:decide ((i:Int) % (S:Int)<(W:Int))=false:=decide_eq_false (by rw [hx1];omega)
     repeat' (first|refine aj (And.intro g1 g2) ?_|refine an ?_|(refine ai (fun K hK => ?_);and_intros;(all_goals first|(refine hK _ ?_;clear hK K)|exact aa|skip)))
     rw [ah]
     refine aw (i+1) ?_ (by omega) (by omega)
     refine az [(1,some 1),(2,some 2),(3,some 3),(4,some 6)] ?_ ?_
     and_intros
     all_goals first|exact ao|skip
     refine .inr fun a ha j hj => ?_
     have hj0:j=0:=by omega
     subst hj0
     unfold fX
     by_cases hai:a<i
     ·rw [if_pos hai];exact PV.le_refl _
     ·have hai2:a=i:=by omega
      subst hai2
      rw [if_neg hai,Nat.sub_self,if_neg hlt]
      exact PV.le_refl _
   ·have g1:decide ((i:Int)<(S:Int) * (H:Int))=false:=decide_eq_false (by rw [hSHi];omega)
    have hi2:i=S * H:=by omega
    subst hi2
    have hk4:k=0∨k=1∨k=2∨k=3∨k=4:=by omega
    have hs2:(bl ⟨W,H,T,pl⟩ E).s.length=S * H:=by
     unfold bl
     simp only [List.length_map,List.length_range,Int.toNat_natCast]
     rw [hS,Nat.mul_comm]
    have hcell:∀ a,a<S * H→∀ j,j<1→PV.le (PU (if a % S<W then pl.getD (a / S * T+a % S) 0 else 40000+a)) (bj tG (bl ⟨W,H,T,pl⟩ E).s a j):=fun a ha j hj=>by
     have hj0:j=0:=by omega
     subst hj0
     unfold bl bj tG
     simp only [Int.toNat_natCast,List.getD_eq_getElem?_getD,List.getElem?_map]
     rw [List.getElem?_range (by rw [Nat.mul_comm,← hS];exact ha)]
     simp only [Option.map_some,Option.getD_some,← hS]
     exact PV.le_refl _
    have hp:fL (gm (lW m more (k+1)) k)=[PI W,PI H,PI S, .lst 1 (S * H) (bj tG (bl ⟨W,H,T,pl⟩ E).s)]:=by
     rw [← hfin]
     show [PI W,PI H,PI ((W:Int)+E),PV.lst 1 (bl ⟨W,H,T,pl⟩ E).s.length _]=_
     rw [hs2,hS];rfl
    rcases hk4 with rfl|rfl|rfl|rfl|rfl
    ·simp only [lW,gm,fL,List.cons.injEq,PV.val.injEq,Value.int.injEq,true_and,and_true,PV.lst.injEq] at hp
     obtain ⟨p1,p2,p3,p45⟩:=hp
     have p6:=PV.lst.inj p45
     have p4:=p6.2.1
     have p5:=p6.2.2
     repeat' (first|refine aj g1 ?_|refine an ?_|(refine ai (fun K hK => ?_);and_intros;(all_goals first|(refine hK _ ?_;clear hK K)|exact aa|skip)))
     rw [ah]
     refine aw 1 ?_ (by omega) (by omega)
     simp only [lW]
     refine az [(1,some 1)] ?_ ?_
     and_intros
     all_goals first|exact ao|skip
     all_goals first
      | exact .inl (by rw [p1])
      | exact .inl (by rw [p2])
      | exact .inl (by rw [p3])
      | exact p4.symm
      | (intro i hi j hj;show PV.le _ (bj tG (bl m.p0 (ct more 0)).s i j);rw [p5];exact hcell i hi j hj)
    ·simp only [lW,gm,fL,List.cons.injEq,PV.val.injEq,Value.int.injEq,true_and,and_true,PV.lst.injEq] at hp
     obtain ⟨p1,p2,p3,p45⟩:=hp
     have p6:=PV.lst.inj p45
     have p4:=p6.2.1
     have p5:=p6.2.2
     repeat' (first|refine aj g1 ?_|refine an ?_|(refine ai (fun K hK => ?_);and_intros;(all_goals first|(refine hK _ ?_;clear hK K)|exact aa|skip)))
     rw [ah]
     refine aw 2 ?_ (by omega) (by omega)
     simp only [lW]
     refine az [(1,some 1)] ?_ ?_
     and_intros
     all_goals first|exact ao|skip
     all_goals first
      | exact .inl (by rw [p1])
      | exact .inl (by rw [p2])
      | exact .inl (by rw [p3])
      | exact p4.symm
      | (intro i hi j hj;show PV.le _ (bj tG (bl m.p1 (ct more 1)).s i j);rw [p5];exact hcell i hi j hj)
    ·simp only [lW,gm,fL,List.cons.injEq,PV.val.injEq,Value.int.injEq,true_and,and_true,PV.lst.injEq] at hp
     obtain ⟨p1,p2,p3,p45⟩:=hp
     have p6:=PV.lst.inj p45
     have p4:=p6.2.1
     have p5:=p6.2.2
     repeat' (first|refine aj g1 ?_|refine an ?_|(refine ai (fun K hK => ?_);and_intros;(all_goals first|(refine hK _ ?_;clear hK K)|exact aa|skip)))
     rw [ah]
     refine aw 3 ?_ (by omega) (by omega)
     simp only [lW]
     refine az [(1,some 1)] ?_ ?_
     and_intros
     all_goals first|exact ao|skip
     all_goals first
      | exact .inl (by rw [p1])
      | exact .inl (by rw [p2])
      | exact .inl (by rw [p3])
      | exact p4.symm
      | (intro i hi j hj;show PV.le _ (bj tG (bl m.p2 (ct more 2)).s i j);rw [p5];exact hcell i hi j hj)
    ·simp only [lW,gm,fL,List.cons.injEq,PV.val.injEq,Value.int.injEq,true_and,and_true,PV.lst.injEq] at hp
     obtain ⟨p1,p2,p3,p45⟩:=hp
     have p6:=PV.lst.inj p45
     have p4:=p6.2.1
     have p5:=p6.2.2
     repeat' (first|refine aj g1 ?_|refine an ?_|(refine ai (fun K hK => ?_);and_intros;(all_goals first|(refine hK _ ?_;clear hK K)|exact aa|skip)))
     rw [ah]
     refine aw 4 ?_ (by omega) (by omega)
     simp only [lW]
     refine az [(1,some 1)] ?_ ?_
     and_intros
     all_goals first|exact ao|skip
     all_goals first
      | exact .inl (by rw [p1])
      | exact .inl (by rw [p2])
      | exact .inl (by rw [p3])
      | exact p4.symm
      | (intro i hi j hj;show PV.le _ (bj tG (bl m.p3 (ct more 3)).s i j);rw [p5];exact hcell i hi j hj)
    ·simp only [lW,gm,fL,List.cons.injEq,PV.val.injEq,Value.int.injEq,true_and,and_true,PV.lst.injEq] at hp
     obtain ⟨p1,p2,p3,p45⟩:=hp
     have p6:=PV.lst.inj p45
     have p4:=p6.2.1
     have p5:=p6.2.2
     repeat' (first|refine aj g1 ?_|refine an ?_|(refine ai (fun K hK => ?_);and_intros;(all_goals first|(refine hK _ ?_;clear hK K)|exact aa|skip)))
     rw [ah]
     refine aw 5 ?_ (by omega) (by omega)
     simp only [lW]
     refine az [(1,some 1)] ?_ ?_
     and_intros
     all_goals first|exact ao|skip
     all_goals first
      | exact .inl (by rw [p1])
      | exact .inl (by rw [p2])
      | exact .inl (by rw [p3])
      | exact p4.symm
      | (intro i hi j hj;show PV.le _ (bj tG (bl m.p4 (ct more 4)).s i j);rw [p5];exact hcell i hi j hj)
  ·have g0:decide ((k:Int)<5)=false:=decide_eq_false (by omega)
   have hk2:k=5:=by omega
   subst hk2
   repeat' (first|refine aj g0 ?_|refine an ?_|(refine ai (fun K hK => ?_);and_intros;(all_goals first|(refine hK _ ?_;clear hK K)|exact aa|skip))|(refine ak ?_;(try clear hB KB);(try clear hK K)))
   rfl
end Go.Proofs.YtmfblbbemekkoaaGreatDoor
