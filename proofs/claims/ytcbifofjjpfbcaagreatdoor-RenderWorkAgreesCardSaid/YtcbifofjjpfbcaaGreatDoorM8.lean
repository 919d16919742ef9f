/- Part of the proof: F3, U1. -/
import Derived.Test.YtcbifofjjpfbcaaGreatDoorM6
set_option linter.unusedSimpArgs false
set_option linter.unusedVariables false
set_option maxRecDepth 16000
namespace Go.Proofs.YtcbifofjjpfbcaaGreatDoor
open Go Go.SL
open Go.RowKit (wrap64)
def nB (r:Raw) (push:Bool) (images:Int) (cx cy:Int) (free:Bool) (m:Int):Op :=
 { kind:=if push then 2 else 1,image:=if push then 0 else r.image % images,x:=if push then 0 else iq r.x cx,y:=if push then 0 else iq r.y cy,mask:=if r.mask % 4=0 then 1+r.mask.tdiv 4 % images else 0,maskX:=if r.mask % 4=0 then iq r.maskX cx else 0,maskY:=if r.mask % 4=0 then iq r.maskY cy else 0,opacity:=if r.opacity % 2=0 then cJ (r.opacity.tdiv 2) m else m,operator:=if free=true∧r.operator % 2=0 then 1+r.operator.tdiv 2 % 12 else 4,mode:=if r.mode % 2=0 then 1+r.mode.tdiv 2 % 12 else 1,isolated:=push && (r.flags % 2 == 0),knockout:=push && (r.flags.tdiv 2 % 3 == 0) }
structure RawOk (r:Raw):Prop where
 kind:i64 r.kind
 image:i64 r.image
 x:i64 r.x
 y:i64 r.y
 mask:i64 r.mask
 maskX:i64 r.maskX
 maskY:i64 r.maskY
 opacity:i64 r.opacity
 operator:i64 r.operator
 mode:i64 r.mode
 flags:i64 r.flags
theorem fj (n c:Int):c - 4≤iq n c∧iq n c≤c+4:=by
 unfold iq;split <;> omega
set_option maxHeartbeats 4000000 in
theorem Pj (r : Raw) (push : Bool) (images : Int) (c : Rect) (free : Bool) (m : Int) (hr : RawOk r) (hi1 : 1 ≤ images) (hi2 : images ≤ 1000000) (hc1 : -2000000000 ≤ c.x0) (hc2 : c.x0 ≤ 2000000000) (hc3 : -2000000000 ≤ c.y0) (hc4 : c.y0 ≤ 2000000000) (hm : u16 m) :
  aF Sg 35 [ag (OG r),B push,I images,ag (bc c),B free,U m] (fun x=>x = .b (ag (eA (nB r push images c.x0 c.y0 free m)))):=by
 obtain ⟨⟨a1,a2⟩,⟨b1,b2⟩,⟨c1,c2⟩,⟨d1,d2⟩,⟨e1,e2⟩,⟨f1,f2⟩,⟨g1,g2⟩,⟨h1,h2⟩,⟨i1,i2⟩,⟨j1,j2⟩,⟨k1,k2⟩⟩:=hr
 have q1:=fj r.x c.x0
 have q2:=fj r.y c.y0
 have q3:=fj r.maskX c.x0
 have q4:=fj r.maskY c.y0
 have q5:=eJ (r.opacity.tdiv 2) m hm.1
 have q6:=Int.emod_nonneg (r.mask.tdiv 4) (show images≠0 by omega)
 have q7:=Int.emod_lt_of_pos (r.mask.tdiv 4) (show 0<images by omega)
 have w1:=vH (r.opacity.tdiv 2)
 rw [Ee h1 h2 (by omega)] at w1
 obtain ⟨hm1,hm2⟩:=hm
 refine aI Tryz.func35 [.cell 12 74] ?_
 repeat' (first|refine an ?_|((first|refine aj (fun K hK => ?_)|refine ae (cL _ _ (by omega) (by omega)) ?_|refine aq (fun hg=>cL _ _ (by omega) (by omega)) ?_|refine ae (rJ _ _ ⟨by omega,by omega⟩ ⟨by omega,by omega⟩) ?_|refine ae (Ba _ _ ⟨by omega,by omega⟩ (by omega) (by omega)) ?_);and_intros;all_goals first|(refine hK _ ?_;clear hK K)|try exact aa)|(apply aC;(case hf=>rfl);(case hc=>exact aS);(all_goals first|(intro hb;(try simp only [bZ] at hb))|skip))|exact ao|(refine ai ?_;(try clear hB KB);(try clear hK K)))
 cases push <;> cases free <;> simp [nB]
end Go.Proofs.YtcbifofjjpfbcaaGreatDoor
set_option maxHeartbeats 2000000
set_option maxRecDepth 16000
namespace Go.Proofs.YtcbifofjjpfbcaaGreatDoor
open Go Go.SL
open Go.RowKit (wrap64)
abbrev UQ (x:Int):BV := .c (.p (.val (.int .u64 x)))
structure Q64 (n:Int):Prop where
 l:0≤n
 u:n<18446744073709551616
theorem wq (n:Int) (h:Q64 n):IntKind.u64.wrap n=n:=oP h.l (by have:=h.u;omega)
theorem NC {n d:Int} (hn:0≤n) (hd:0<d):0≤cf n d∧cf n d≤n:=by
 refine ⟨dC hd hn,pd hd ?_⟩
 have:=Int.mul_le_mul_of_nonneg_right (show 1≤d by omega) hn
 omega
def kv (p:Pixel) (m:Int):Bool:=decide (p.c0≤p.a∧p.c1≤p.a∧p.c2≤p.a∧p.a≤p.f∧p.f≤m)
theorem mD {n:Int} (h0:0≤n) (h1:n≤65535):IntKind.u16.wrap n=n:=UJ h0 h1
end Go.Proofs.YtcbifofjjpfbcaaGreatDoor
