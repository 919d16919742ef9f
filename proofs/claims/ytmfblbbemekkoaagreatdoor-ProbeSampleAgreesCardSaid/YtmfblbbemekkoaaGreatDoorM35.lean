/- Part of the proof: Z6, Z7, Z8, L1. -/
import Derived.Test.YtmfblbbemekkoaaGreatDoorM33
import Derived.Test.YtmfblbbemekkoaaGreatDoorM34
set_option linter.unusedSimpArgs false
set_option linter.unusedVariables false
set_option maxHeartbeats 4000000
set_option maxRecDepth 16000
namespace Go.Proofs.YtmfblbbemekkoaaGreatDoor
open Go Go.SL
open Go.RowKit (wrap64)
attribute [local go_sem] va
theorem qi (s:Script) (x y:Int) (E:EvOk s) (hx:i64 x) (hy:i64 y):aC Sg 28 [ag (aE s),I x,I y] (fun r=>r = .tup [.c (.p (if dd s x y=0 then pM (cm s x y) else .val (.slice none 0 0))),I (dd s x y)]):=by
 have ht:True:=trivial
 have h1:=vT s x y E
 by_cases h0:dd s x y=0
 ·rw [if_pos h0]
  have C:=E.pt h0
  have h2:=fun bx=>Dw s x y _ C E.len hx hy bx
  have e:cm s x y=cn (bo s.bits) (bd s x y) s.ops s.ops.length:=by unfold cm;rw [if_pos h0]
  rw [e]
  rw [h0] at h1 ⊢
  generalize cn (bo s.bits) (bd s x y) s.ops s.ops.length=L at *
  generalize cK s x y=q at *
  refine ix ?_
  refine pG Tryz.func28 rfl (rs:=[.tmp 6, .tmp 7]) rfl rfl dK (by decide +kernel) (Nat.le_of_ble_eq_true rfl) (ch (by simp (maxSteps:=999999)(disch:=omega) only [go_sem])) ?_
  repeat' (first|refine aj ht ?_|refine an ?_|((first|refine ai (fun K hK => ?_)|refine ae (h1) ?_);and_intros;(all_goals first|(refine hK _ ?_;clear hK K)|exact aa|skip)))
  refine cf (h2 _ ?_ ?_) rfl ?_ ?_ ?_
  ·(first|(simp (maxSteps:=999999)(disch:=omega) only [go_sem];done)|(simp (maxSteps:=999999)(disch:=omega) only [go_sem];rfl))
  ·intro iw hiw
   simp (maxSteps:=999999)(disch:=omega) only [go_sem]
   repeat (refine Eq.trans (if_neg ?_) ?_;(focus omega))
   rfl
  ·intro iw hiw
   unfold aB
   rw [if_neg (by omega),if_neg (by omega)]
  ·exact Nat.le_of_ble_eq_true rfl
  simp (maxSteps:=999999)(disch:=omega) only [go_sem]
  refine hK _ ?_
  clear hK
  repeat' (first|(refine ai (fun K hK => ?_);and_intros;(all_goals first|(refine hK _ ?_;clear hK K)|exact aa|skip))|(refine ak ?_;(try clear hB KB);(try clear hK K)))
  exact gh ⟨kj (PV.le_refl _),kj (PV.le_refl _),trivial⟩
 ·rw [if_neg h0]
  have g0:(dd s x y != 0)=true:=by rw [bne_iff_ne];exact h0
  refine aA Tryz.func28 [.tmp 6, .tmp 7] ?_
  repeat' (first|with_reducible exact ca|refine aj g0 ?_|refine an ?_|((first|refine ai (fun K hK => ?_)|refine ae (h1) ?_);and_intros;(all_goals first|(refine hK _ ?_;clear hK K)|exact aa|skip))|(refine ak ?_;(try clear hB KB);(try clear hK K)))
end Go.Proofs.YtmfblbbemekkoaaGreatDoor
set_option maxHeartbeats 8000000
set_option maxRecDepth 16000
namespace Go.Proofs.YtmfblbbemekkoaaGreatDoor
open Go Go.SL
open Go.RowKit (wrap64)
attribute [local go_sem] cP Int.toNat_natCast cA
theorem vU (m:Int) (L:List Mic) (hm:Full m) (hl:L.length≤100000) (hS:gT m none L):aC Sg 31 [U m, .c (.p (pM L))] (fun r=>r = .b (B true)):=by
 have e:∀ n:Int,(n != n)=false:=fun n=>by simp
 have e2:∀ n:Int,(n == n)=true:=fun n=>by simp
 have ht:True:=trivial
 refine aA Tryz.func31 [.tmp 4] ?_
 repeat' (first|refine an ?_|(refine ai (fun K hK => ?_);and_intros;(all_goals first|(refine hK _ ?_;clear hK K)|exact aa|skip)))
 refine aO (X:=Nat) (fun i=>aQ [(0, .b (U m)),(1, .b (.c (.p (pM L)))),(9, .b (.c (.p (pM L)))),(10, .b (I L.length)),(11, .b (I i))] [] 1) (fun i=>i≤L.length) (fun i=>L.length - i) 0 ?_ ?_ ?_
 ·omega
 ·refine az [] ?_ ?_
  and_intros
  all_goals first|exact ao|skip
 ·intro i hi
  rcases Nat.lt_or_ge i L.length with h|h
  ·have hst:=Ap hS i h
   rcases hst with (hk|hk|hk)|⟨hk,hp⟩
   ·repeat' (first|refine aj hk ?_|refine an ?_|(refine ai (fun K hK => ?_);and_intros;(all_goals first|(refine hK _ ?_;clear hK K)|exact aa|skip))|(refine aW (fun hb => ?_) (fun hb => ?_);all_goals try exact aG))
    rw [ah]
    refine aw (i+1) ?_ (by omega) (by omega)
    refine az [] ?_ ?_
    and_intros
    all_goals first|exact ao|skip
   ·repeat' (first|refine aj hk ?_|refine an ?_|(refine ai (fun K hK => ?_);and_intros;(all_goals first|(refine hK _ ?_;clear hK K)|exact aa|skip))|(refine aW (fun hb => ?_) (fun hb => ?_);all_goals try exact aG))
    rw [ah]
    refine aw (i+1) ?_ (by omega) (by omega)
    refine az [] ?_ ?_
    and_intros
    all_goals first|exact ao|skip
   ·repeat' (first|refine aj hk ?_|refine an ?_|(refine ai (fun K hK => ?_);and_intros;(all_goals first|(refine hK _ ?_;clear hK K)|exact aa|skip))|(refine aW (fun hb => ?_) (fun hb => ?_);all_goals try exact aG))
    rw [ah]
    refine aw (i+1) ?_ (by omega) (by omega)
    refine az [] ?_ ?_
    and_intros
    all_goals first|exact ao|skip
   ·cases i with
    | zero=>rw [if_pos rfl] at hp;cases hp
    | succ i =>
     rw [if_neg (by omega)] at hp
     have hp:(L.getD i default).out=(L.getD (i+1) default).inp:=Option.some.inj hp
     have g0:(((i+1:Nat):Int) == 0)=false:=by rw [beq_eq_false_iff_ne];omega
     rcases hk with ⟨hk,hv,k0,k1,ho⟩|hk
     ·have hs:=jz (L.getD (i+1) default).inp (L.getD (i+1) default).k m hm hv k0 k1
      rw [← ho] at hs
      have hq:(L.getD (i+1) default).inp=(L.getD i default).out:=hp.symm
      rcases hk with hk|hk
      ·repeat' (first|refine aj (And.intro hk (And.intro g0 (And.intro hq (And.intro e2 e)))) ?_|refine an ?_|((first|refine ai (fun K hK => ?_)|refine ae (hs) ?_);and_intros;(all_goals first|(refine hK _ ?_;clear hK K)|exact aa|skip))|(refine aW (fun hb => ?_) (fun hb => ?_);all_goals try exact aG))
       rw [ah]
       refine aw (i+1+1) ?_ (by omega) (by omega)
       refine az [] ?_ ?_
       and_intros
       all_goals first|exact ao|skip
      ·repeat' (first|refine aj (And.intro hk (And.intro g0 (And.intro hq (And.intro e2 e)))) ?_|refine an ?_|((first|refine ai (fun K hK => ?_)|refine ae (hs) ?_);and_intros;(all_goals first|(refine hK _ ?_;clear hK K)|exact aa|skip))|(refine aW (fun hb => ?_) (fun hb => ?_);all_goals try exact aG))
       rw [ah]
       refine aw (i+1+1) ?_ (by omega) (by omega)
       refine az [] ?_ ?_
       and_intros
       all_goals first|exact ao|skip
     ·have hq:(L.getD (i+1) default).inp=(L.getD i default).out:=hp.symm
      repeat' (first|refine aj (And.intro hk (And.intro g0 (And.intro hq (And.intro e2 e)))) ?_|refine an ?_|(refine ai (fun K hK => ?_);and_intros;(all_goals first|(refine hK _ ?_;clear hK K)|exact aa|skip))|(refine aW (fun hb => ?_) (fun hb => ?_);all_goals try exact aG))
      rw [ah]
      refine aw (i+1+1) ?_ (by omega) (by omega)
      refine az [] ?_ ?_
      and_intros
      all_goals first|exact ao|skip
  ·repeat' (first|with_reducible exact ca|refine an ?_|(refine ai (fun K hK => ?_);and_intros;(all_goals first|(refine hK _ ?_;clear hK K)|exact aa|skip))|(refine aW (fun hb => ?_) (fun hb => ?_);all_goals try exact aG)|(refine ak ?_;(try clear hB KB);(try clear hK K)))
end Go.Proofs.YtmfblbbemekkoaaGreatDoor
set_option maxHeartbeats 8000000
set_option maxRecDepth 16000
namespace Go.Proofs.YtmfblbbemekkoaaGreatDoor
open Go Go.SL
open Go.RowKit (wrap64)
def SB:Pixel:=⟨1,2,3,255,255⟩
def TD:Image := { w:=1,h:=1,solid:=true,color:=SB,p0:=⟨0,0,0,[]⟩,p1:=⟨0,0,0,[]⟩,p2:=⟨0,0,0,[]⟩,p3:=⟨0,0,0,[]⟩,p4:=⟨0,0,0,[]⟩ }
def TU:Op := { kind:=1,image:=0,x:=1,y:=0,mask:=0,maskX:=0,maskY:=0,opacity:=255,operator:=4,mode:=1,isolated:=false,knockout:=false }
def Cp:Script := { bits:=8,canvas:=⟨0,0,2,1⟩,tileW:=1,tileH:=1,order:=[],images:=[TD],ops:=[TU] }
theorem CF:EvOk Cp:=⟨⟨by decide,by decide,by decide⟩,fun o ho=>by rw [List.mem_singleton.1 ho];decide,fun _ m hm=>by rw [List.mem_singleton.1 hm];exact ⟨.inr (.inr rfl),by decide,by decide,by decide⟩⟩
theorem SN:dd Cp 1 0=0∧dd Cp 0 0=0∧gv Cp 1 0=SB∧gv Cp 0 0=aI∧(cm Cp 1 0).length=3∧bo Cp.bits=255:=by decide +kernel
theorem mn:aC Sg 21 [] (fun r=>r = .b (B true)):=by
 have ht:True:=trivial
 obtain ⟨e1,e2,e3,e4,e5,e6⟩:=SN
 have h1:=gF Cp 1 0 CF ⟨by decide,by decide⟩ ⟨by decide,by decide⟩
 have h2:=gF Cp 0 0 CF ⟨by decide,by decide⟩ ⟨by decide,by decide⟩
 have h3:=qi Cp 1 0 CF ⟨by decide,by decide⟩ ⟨by decide,by decide⟩
 have C:=CF.pt e1
 have hS:gT 255 none (cm Cp 1 0):=by
  rw [(oR C).2.2,e6]
  rw [e6] at C
  exact mQ C _ (Nat.le_refl _)
 have h4:=vU 255 (cm Cp 1 0) ⟨.inl rfl⟩ (by rw [e5];decide) hS
 rw [e1,e3] at h1
 rw [e2,e4] at h2
 rw [e1,if_pos rfl] at h3
 unfold pM at h3 h4
 rw [e5] at h3 h4
 generalize bj cP (cm Cp 1 0)=G at *
 refine aA Tryz.func21 [.tmp 0] ?_
 repeat' (first|((with_reducible refine aT (id:=2) (fun K hW => ?_));(try simp (maxSteps:=999999)(disch:=omega) only [go_sem]);and_intros;(all_goals first|(refine hK _ ?_;clear hK K)|exact aa|skip))|(refine ai (fun K hK => ?_);and_intros;(all_goals first|(refine hK _ ?_;clear hK K)|exact aa|skip)))
 refine hW _ (aQ [(0, .b (B false)),(1, .b (.c (.ptr 0 0))),(2, .b (.c (.ptr 1 0)))] [(0, .fix ((aF SB).map CV.p)),(1, .fix ((aE Cp).map CV.p))] 2) ?_ ?_
 ·refine az [(1,some 3)] ?_ ?_
  and_intros
  all_goals first|exact ao|skip
  ·exact iU
  ·intro i hi j hj
   have hi0:i=0:=by omega
   subst hi0
   have hivl:j=0∨j=1∨j=2∨j=3∨j=4∨j=5∨j=6∨j=7∨j=8∨j=9∨j=10∨j=11∨j=12∨j=13∨j=14∨j=15∨j=16∨j=17∨j=18∨j=19∨j=20∨j=21∨j=22∨j=23∨j=24∨j=25∨j=26∨j=27:=by omega
   rcases hivl with rfl|rfl|rfl|rfl|rfl|rfl|rfl|rfl|rfl|rfl|rfl|rfl|rfl|rfl|rfl|rfl|rfl|rfl|rfl|rfl|rfl|rfl|rfl|rfl|rfl|rfl|rfl|rfl <;> (first|exact PV.le_refl _|exact iU)
  ·intro i hi j hj
   have hi0:i=0:=by omega
   subst hi0
   have hivl:j=0∨j=1∨j=2∨j=3∨j=4∨j=5∨j=6∨j=7∨j=8∨j=9∨j=10∨j=11:=by omega
   rcases hivl with rfl|rfl|rfl|rfl|rfl|rfl|rfl|rfl|rfl|rfl|rfl|rfl <;> (exact PV.le_refl _)
 clear hW
 repeat' (first|((first|refine ai (fun K hK => ?_)|refine BD ?_|refine ae (h1) ?_|refine ae (h2) ?_|refine ae (h3) ?_|refine aD (fun hg=>h4) ?_);and_intros;(all_goals first|(refine hK _ ?_;clear hK K)|exact aa|skip))|(refine ak ?_;(try clear hB KB);(try clear hK K)))
 rfl
end Go.Proofs.YtmfblbbemekkoaaGreatDoor
set_option maxHeartbeats 4000000
set_option maxRecDepth 16000
namespace Go.Proofs.YtmfblbbemekkoaaGreatDoor
open Go Go.SL
open Go.RowKit (wrap64)
attribute [local go_sem] Int.toNat_natCast
theorem Of.sl {c:Scene} {s:Script} (h:Of c s):ScriptLen s:=by
 have h1:=(ru c).order
 exact ⟨by rw [h.o];exact h1,Nat.le_trans h.n2 (by decide),Nat.le_trans h.V.cnt (by decide)⟩
theorem OD {m:Image} {mx:Int} (h:ImgV m mx):Hs m:=by
 cases hs:m.solid with
 | true=>have p:=qK h hs;exact ⟨p.n0,p.n1,p.n2⟩
 | false =>
  have hf:=h.f
  unfold aX at hf
  simp only [hs,Bool.and_eq_true,Bool.false_or,decide_eq_true_eq] at hf
  have e:m.color=aI:=by simp_all
  unfold Hs
  rw [e]
  exact ⟨by decide,by decide,by decide⟩
theorem Of.ev {c:Scene} {s:Script} (h:Of c s):EvOk s:=⟨h.sl,h.op,fun _ m hm=>by
 obtain ⟨i,hi,rfl⟩:=List.mem_iff_getElem.1 hm
 have:=h.im i (by omega) (by omega)
 unfold gC at this
 rw [Int.toNat_natCast,List.getD_eq_getElem?_getD,List.getElem?_eq_getElem hi] at this
 exact ⟨.inl this,OD this⟩⟩
theorem BU {r:Rect} (hr:Small r) (x y:Int):i64 (Ei r x)∧i64 (Ez r y):=by
 obtain ⟨i1,i2,i3,i4⟩:=CB hr x y
 obtain ⟨x0,x1,y0,y1,hw,hh⟩:=hr
 exact ⟨⟨by omega,by omega⟩,⟨by omega,by omega⟩⟩
end Go.Proofs.YtmfblbbemekkoaaGreatDoor
