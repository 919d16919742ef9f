/- Part of the proof: V4, V5. -/
import Derived.Test.YtmfblbbemekkoaaGreatDoorK20
set_option linter.unusedSimpArgs false
set_option linter.unusedVariables false
set_option maxHeartbeats 2000000
set_option maxRecDepth 16000
namespace Go.Proofs.YtmfblbbemekkoaaGreatDoor
open Go Go.SL
open Go.RowKit (wrap64)
attribute [local go_sem] dI
def uB (t:Lv):List PV:=[PI t.op.kind,PI t.op.image,PI t.op.x,PI t.op.y,PI t.op.mask,PI t.op.maskX,PI t.op.maskY,PU t.op.opacity,PI t.op.operator,PI t.op.mode,PB t.op.isolated,PB t.op.knockout,
 PU t.acc.c0,PU t.acc.c1,PU t.acc.c2,PU t.acc.a,PU t.acc.own,PU t.acc.f,PU t.back.c0,PU t.back.c1,PU t.back.c2,PU t.back.a,PU t.back.f]
def eI (g:Nat→PV) (t:Lv):Prop:=∀ j,j<23→g j=(uB t).getD j .any
theorem Pn {g : Nat → PV} {t : Lv} (h : eI g t) : g 0 = PI t.op.kind ∧ g 1 = PI t.op.image ∧ g 2 = PI t.op.x ∧ g 3 = PI t.op.y ∧ g 4 = PI t.op.mask ∧ g 5 = PI t.op.maskX ∧ g 6 = PI t.op.maskY ∧ g 7 = PU t.op.opacity ∧ g 8 = PI t.op.operator ∧ g 9 = PI t.op.mode ∧
  g 10=PB t.op.isolated∧g 11=PB t.op.knockout∧g 12=PU t.acc.c0∧g 13=PU t.acc.c1∧g 14=PU t.acc.c2∧g 15=PU t.acc.a∧g 16=PU t.acc.own∧g 17=PU t.acc.f∧g 18=PU t.back.c0∧g 19=PU t.back.c1∧g 20=PU t.back.c2∧g 21=PU t.back.a∧g 22=PU t.back.f :=
 ⟨h 0 (by decide),h 1 (by decide),h 2 (by decide),h 3 (by decide),h 4 (by decide),h 5 (by decide),h 6 (by decide),h 7 (by decide),h 8 (by decide),h 9 (by decide),h 10 (by decide),h 11 (by decide),h 12 (by decide),h 13 (by decide),h 14 (by decide),h 15 (by decide),h 16 (by decide),
  h 17 (by decide),h 18 (by decide),h 19 (by decide),h 20 (by decide),h 21 (by decide),h 22 (by decide)⟩
def Pw (n:Nat) (t:Lv) (f:Nat→Nat→PV) (i j:Nat):PV:=if i=n then (uB t).getD j .any else f i j
theorem tO {n j:Nat} {t:Lv} {f:Nat→Nat→PV}:Pw n t f n j=(uB t).getD j .any:=if_pos rfl
def sI (m:Int) (n:Nat) (f:Nat→Nat→PV):BV := .c (.ipt 2 (fun j=>[PU m, .lst 23 n f].getD j .any) 0)
theorem cO {n:Nat}:(((n+1:Nat):Int) - 1)=(n:Int):=by omega
attribute [local go_sem] sI cO Int.toNat_natCast tO uB
theorem ig (p:Pixel):(SV.b (ag (aH p))).flat:=fun c hc=>by
 obtain ⟨x,hx,rfl⟩:=List.mem_map.1 hc
 simp only [aH,List.mem_cons,List.not_mem_nil,or_false] at hx
 rcases hx with rfl|rfl|rfl|rfl|rfl <;> trivial
theorem jA (a:Acc):(SV.b (ag (dI a))).flat:=fun c hc=>by
 obtain ⟨x,hx,rfl⟩:=List.mem_map.1 hc
 simp only [dI,List.mem_cons,List.not_mem_nil,or_false] at hx
 rcases hx with rfl|rfl|rfl|rfl|rfl|rfl <;> trivial
end Go.Proofs.YtmfblbbemekkoaaGreatDoor
set_option maxHeartbeats 4000000
set_option maxRecDepth 16000
namespace Go.Proofs.YtmfblbbemekkoaaGreatDoor
open Go Go.SL
open Go.RowKit (wrap64)
attribute [local go_sem] dI uB cO Int.toNat_natCast cU
theorem zB {a nx:Nat} {A:Bx} {bx b:Nat→Option Bx} (hw:∀ i,nx≤i→bx i=none) (h1:b a=some A) (h3:∀ i,i<nx→i≠a→b i=bx i):Jo (aA a A bx) b:=fun i y hi=>by
 unfold aA at hi
 split at hi
 ·rename_i e;rw [e,h1];exact hi
 ·rename_i e
  rcases Nat.lt_or_ge i nx with q|q
  ·rw [h3 i q e];exact hi
  ·rw [hw i q] at hi;cases hi
theorem zG {a c nx:Nat} {A C:Bx} {bx b:Nat→Option Bx} (hw:∀ i,nx≤i→bx i=none) (h1:b a=some A) (h2:b c=some C) (h3:∀ i,i<nx→i≠a→i≠c→b i=bx i):Jo (aA a A (aA c C bx)) b:=fun i y hi=>by
 unfold aA at hi
 split at hi
 ·rename_i e;rw [e,h1];exact hi
 rename_i e
 split at hi
 ·rename_i e2;rw [e2,h2];exact hi
 ·rename_i e2
  rcases Nat.lt_or_ge i nx with q|q
  ·rw [h3 i q e e2];exact hi
  ·rw [hw i q] at hi;cases hi
end Go.Proofs.YtmfblbbemekkoaaGreatDoor
