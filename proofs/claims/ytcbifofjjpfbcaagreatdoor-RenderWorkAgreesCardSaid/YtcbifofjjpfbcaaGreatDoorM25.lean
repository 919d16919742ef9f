/- Part of the proof: V4, V5. -/
import Derived.Test.YtcbifofjjpfbcaaGreatDoorM21
import Derived.Test.YtcbifofjjpfbcaaGreatDoorM24
set_option linter.unusedSimpArgs false
set_option linter.unusedVariables false
set_option maxHeartbeats 2000000
set_option maxRecDepth 16000
namespace Go.Proofs.YtcbifofjjpfbcaaGreatDoor
open Go Go.SL
open Go.RowKit (wrap64)
attribute [local go_sem] cH
def vR (t:Lv):List PV:=[PI t.op.kind,PI t.op.image,PI t.op.x,PI t.op.y,PI t.op.mask,PI t.op.maskX,PI t.op.maskY,PU t.op.opacity,PI t.op.operator,PI t.op.mode,PB t.op.isolated,PB t.op.knockout,
 PU t.acc.c0,PU t.acc.c1,PU t.acc.c2,PU t.acc.a,PU t.acc.own,PU t.acc.f,PU t.back.c0,PU t.back.c1,PU t.back.c2,PU t.back.a,PU t.back.f]
def gA (g:Nat→PV) (t:Lv):Prop:=∀ j,j<23→g j=(vR t).getD j .any
def Xk (n:Nat) (t:Lv) (f:Nat→Nat→PV) (i j:Nat):PV:=if i=n then (vR t).getD j .any else f i j
theorem qD {n j:Nat} {t:Lv} {f:Nat→Nat→PV}:Xk n t f n j=(vR t).getD j .any:=if_pos rfl
def sY (m:Int) (n:Nat) (f:Nat→Nat→PV):BV := .c (.ipt 2 (fun j=>[PU m, .lst 23 n f].getD j .any) 0)
theorem cz {n:Nat}:(((n+1:Nat):Int) - 1)=(n:Int):=by omega
attribute [local go_sem] sY cz Int.toNat_natCast qD vR
end Go.Proofs.YtcbifofjjpfbcaaGreatDoor
set_option maxHeartbeats 4000000
set_option maxRecDepth 16000
namespace Go.Proofs.YtcbifofjjpfbcaaGreatDoor
open Go Go.SL
open Go.RowKit (wrap64)
attribute [local go_sem] cH vR cz Int.toNat_natCast bU
theorem ye {a nx:Nat} {A:Bx} {bx b:Nat→Option Bx} (hw:∀ i,nx≤i→bx i=none) (h1:b a=some A) (h3:∀ i,i<nx→i≠a→b i=bx i):Tp (aN a A bx) b:=fun i y hi=>by
 unfold aN at hi
 split at hi
 ·rename_i e;rw [e,h1];exact hi
 ·rename_i e
  rcases Nat.lt_or_ge i nx with q|q
  ·rw [h3 i q e];exact hi
  ·rw [hw i q] at hi;cases hi
end Go.Proofs.YtcbifofjjpfbcaaGreatDoor
