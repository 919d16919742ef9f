/- Part of the proof: U1. -/
import Derived.Test.YtmfblbbemekkoaaGreatDoorK6
set_option linter.unusedSimpArgs false
set_option linter.unusedVariables false
set_option maxHeartbeats 2000000
set_option maxRecDepth 16000
namespace Go.Proofs.YtmfblbbemekkoaaGreatDoor
open Go Go.SL
open Go.RowKit (wrap64)
abbrev UQ (x:Int):BV := .c (.p (.val (.int .u64 x)))
structure Q64 (n:Int):Prop where
 l:0≤n
 u:n<18446744073709551616
theorem wq (n:Int) (h:Q64 n):IntKind.u64.wrap n=n:=ml h.l (by have:=h.u;omega)
theorem Gy {n d:Int} (hn:0≤n) (hd:0<d):0≤bG n d∧bG n d≤n:=by
 refine ⟨cE hd hn,na hd ?_⟩
 have:=Int.mul_le_mul_of_nonneg_right (show 1≤d by omega) hn
 omega
def kP (p:Pixel) (m:Int):Bool:=decide (p.c0≤p.a∧p.c1≤p.a∧p.c2≤p.a∧p.a≤p.f∧p.f≤m)
theorem kx {n:Int} (h0:0≤n) (h1:n≤65535):IntKind.u16.wrap n=n:=Ng h0 h1
end Go.Proofs.YtmfblbbemekkoaaGreatDoor
