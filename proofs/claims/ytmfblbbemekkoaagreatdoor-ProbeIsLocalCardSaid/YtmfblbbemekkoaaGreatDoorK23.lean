/- Part of the proof: T9, TA, D6. -/
import Derived.Test.YtmfblbbemekkoaaGreatDoorK15
set_option linter.unusedSimpArgs false
set_option linter.unusedVariables false
set_option maxHeartbeats 1000000
namespace Go.Proofs.YtmfblbbemekkoaaGreatDoor
structure Pt (s:Script) (m x y:Int):Prop where
 V:VOps s
 hm:Full m
 mx:bz s.bits=m
 im:oE s
 op:∀ o ∈ s.ops,0≤o.opacity
 c:bM s.canvas=false
 xy:MM s.canvas x y
def dF (s:Script) (x y:Int):Pixel:=Mt (bz s.bits) (mo (bz s.bits) (bI s x y) s.ops [base])
theorem Eh {ops:List Op} {i:Nat} (hi:i<ops.length):aO ops i ∈ ops:=by
 rw [aO,List.getD_eq_getElem?_getD,List.getElem?_eq_getElem hi];exact List.getElem_mem _
section
variable {s:Script} {m x y:Int}
theorem Pt.z (C:Pt s m x y):SmpV m (bI s x y):=NQ C.hm C.mx C.im
structure At (s:Script) (m:Int) (i:Nat) (st:List Lv):Prop where
 v:Cs m st
 o:st.map Lv.op=(bR s.ops i).map (aO s.ops) ++ [kG]
theorem Hn (C:Pt s m x y) (i:Nat) (hi:i≤s.ops.length):At s m i (ga m (bI s x y) s.ops i):=by
 obtain ⟨h1,h2⟩:=JI C.hm C.z C.V C.mx C.op i hi
 exact ⟨h1,h2⟩
theorem At.ne {i:Nat} {st:List Lv} (h:At s m i st):∃ t r,st=t :: r:=by
 cases st with
 | nil=>exact h.v.elim
 | cons t r=>exact ⟨t,r,rfl⟩
theorem At.fit (C:Pt s m x y) {i:Nat} {t:Lv} {r:List Lv} (h:At s m i (t :: r)) (hi:i<s.ops.length) (hk:(aO s.ops i).kind≠3):OpFit m t.op (aO s.ops i):=by
 have hn:=Ae C.V C.mx C.op hi h.o
 refine hn.1 ?_
 rcases C.V.wf.kinds i hi with q|q|q
 ·exact .inl q
 ·exact .inr q
 ·exact absurd q hk
theorem At.frame {i:Nat} {t:Lv} {r:List Lv} (h:At s m i (t :: r)) (hk:(aO s.ops i).kind≠3):t.op.isolated=Nl s i∧t.op.knockout=QP s i:=by
 have ho:=h.o
 unfold Nl QP
 rw [Eo,if_neg hk]
 cases hs:bR s.ops i with
 | nil =>
  rw [hs] at ho
  rw [Bs hs,(List.cons.inj ho).1]
  exact ⟨rfl,rfl⟩
 | cons p q =>
  rw [hs] at ho
  rw [yJ hs,(List.cons.inj ho).1,decide_eq_false (show ¬ ((p:Int)<0) by omega),Int.toNat_natCast]
  exact ⟨rfl,rfl⟩
theorem At.repl {i:Nat} {t t':Lv} {r:List Lv} (h:At s m i (t :: r)) (h1:LvV m t') (h2:t'.op=t.op):At s m i (t' :: r) :=
 ⟨h.v.repl h1 h2,by rw [← h.o,List.map_cons,List.map_cons,h2]⟩
theorem At.same {i j:Nat} {st:List Lv} (h:At s m i st) (hs:bR s.ops j=bR s.ops i):At s m j st:=⟨h.v,by rw [hs];exact h.o⟩
end
end Go.Proofs.YtmfblbbemekkoaaGreatDoor
set_option maxHeartbeats 1000000
namespace Go.Proofs.YtmfblbbemekkoaaGreatDoor
section
variable {s:Script} {m x y:Int}
theorem nN (C : Pt s m x y) {i : Nat} (hi : i < s.ops.length) (hk : (aO s.ops i).kind ≠ 3) :
  ((aO s.ops i).kind=1→0≤(aO s.ops i).image∧(aO s.ops i).image<s.images.length)∧0≤(aO s.ops i).mask∧(aO s.ops i).mask≤s.images.length ∧
   (-1048576≤(aO s.ops i).x∧(aO s.ops i).x≤1048576)∧(-1048576≤(aO s.ops i).y∧(aO s.ops i).y≤1048576)∧(-1048576≤(aO s.ops i).maskX∧(aO s.ops i).maskX≤1048576)∧(-1048576≤(aO s.ops i).maskY∧(aO s.ops i).maskY≤1048576):=by
 obtain ⟨_,_,_,g⟩:=cK.1 (C.V.ok i hi)
 obtain ⟨g1,g2,_⟩:=g hk
 simp only [bC,List.all_cons,List.all_nil,Bool.and_true,Bool.and_eq_true,decide_eq_true_eq] at g2
 omega
end
end Go.Proofs.YtmfblbbemekkoaaGreatDoor
set_option maxHeartbeats 2000000
set_option maxRecDepth 16000
namespace Go.Proofs.YtmfblbbemekkoaaGreatDoor
open Go Go.SL
open Go.RowKit (wrap64)
def QA (n:Nat) (f:Nat→Rect):PV := .lst 4 n (fun a j=>(fk (f a)).getD j .any)
def rF (l junk:List Rect) (a:Nat):Rect:=(l.reverse ++ junk).getD a iE
theorem yY {p:Rect} {t junk:List Rect}:rF (p :: t) junk t.length=p:=by
 rw [rF,List.reverse_cons,List.append_assoc,List.getD_eq_getElem?_getD,List.getElem?_append_right (by simp)]
 simp
theorem Lk {p:Rect} {t junk:List Rect}:rF (p :: t) junk=rF t (p :: junk):=by
 funext a;rw [rF,rF,List.reverse_cons,List.append_assoc];rfl
theorem HK {q p:Rect} {t junk:List Rect}:rF (q :: p :: t) junk t.length=p:=by rw [Lk,yY]
theorem FY {q p:Rect} {t junk:List Rect}:rF (q :: p :: t) junk (t.length+1)=q:=yY (t:=p :: t)
attribute [local go_sem] mF Int.toNat_natCast uQ yY HK FY
theorem wD {s:Script} (V:VOps s):∀ i,i≤s.ops.length→iS s.bits s.images.length (s.ops.drop (s.ops.length - i)) (bZ (s.ops.take (s.ops.length - i)) [])
 | 0,_=>by rw [Nat.sub_zero,List.drop_length];trivial
 | i+1,hi=>by
  have hl:s.ops.length - (i+1)<s.ops.length:=by omega
  have e:aO s.ops (s.ops.length - (i+1))=s.ops[s.ops.length - (i+1)]:=by rw [aO,List.getD_eq_getElem?_getD,List.getElem?_eq_getElem hl];rfl
  have ih:=wD V i (by omega)
  rw [List.drop_eq_getElem_cons hl]
  refine ⟨?_, ?_⟩
  ·rw [ju _ (by omega),← e];exact V.ok _ hl
  ·have e2:s.ops.length - (i+1)+1=s.ops.length - i:=by omega
   rw [e2]
   rw [← e2,List.take_add_one,List.getElem?_eq_getElem hl,dc,e2] at ih
   exact ih
theorem Jl {s:Script} (V:VOps s):lU s=(0,0):=by
 rw [lU,if_pos V.frame]
 refine qL ?_ ?_
 ·have:=wD V _ (Nat.le_refl _)
  rw [Nat.sub_self] at this
  exact this
 ·have:=ju (ops:=s.ops) s.ops.length (Nat.le_refl _)
  rw [List.take_length,V.wf.fin] at this
  exact this
end Go.Proofs.YtmfblbbemekkoaaGreatDoor
