/- Part of the proof: F23, U3. -/
import Derived.Laws.Externs
import Derived.Test.YtmfblbbemekkoaaGreatDoorK7
import Derived.Test.YtmfblbbemekkoaaGreatDoorK8
set_option linter.unusedSimpArgs false
set_option linter.unusedVariables false
set_option maxHeartbeats 8000000
set_option maxRecDepth 16000
namespace Go.Proofs.YtmfblbbemekkoaaGreatDoor
open Go Go.SL
open Go.RowKit (wrap64)
def gW (p:Pic) (c:Rect):Int:=if p.w.tdiv 5 % 3=0 then c.x1 - c.x0 else 1+p.w % 5
def gH (p:Pic) (c:Rect):Int:=if p.w.tdiv 5 % 3=0 then c.y1 - c.y0 else 1+p.h % 4
def iN (w h:Int) (p:Pixel):Image:=⟨w,h,true,p,fF,fF,fF,fF,fF⟩
def il (p:Pic) (c:Rect) (m:Int):Image :=
 if p.solid % 2=0 then iN (gW p c) (gH p c) (jr p.row m 0) else cY (gW p c) (gH p c) (aL p.row (gW p c * gH p c).toNat m)
structure PicOk (p:Pic):Prop where
 w:i64 p.w
 h:i64 p.h
 solid:i64 p.solid
 row:RowOk p.row
structure Small (c:Rect):Prop where
 x0 : -10≤c.x0
 x1:c.x1≤20
 y0 : -10≤c.y0
 y1:c.y1≤20
 w:1≤c.x1 - c.x0∧c.x1 - c.x0≤5
 h:1≤c.y1 - c.y0∧c.y1 - c.y0≤4
theorem Et {p:Pic} {c:Rect} (hc:Small c):1≤gW p c∧gW p c≤5∧1≤gH p c∧gH p c≤4∧1≤gW p c * gH p c∧gW p c * gH p c≤20:=by
 have hw:=hc.w
 have hh:=hc.h
 have h1:1≤gW p c∧gW p c≤5∧1≤gH p c∧gH p c≤4:=by
  unfold gW gH;split <;> omega
 have h2:gW p c * gH p c≤5 * 4:=Int.mul_le_mul h1.2.1 h1.2.2.2 (by omega) (by omega)
 have h3:1 * 1≤gW p c * gH p c:=Int.mul_le_mul h1.1 h1.2.2.1 (by omega) (by omega)
 omega
theorem ob {w h:Int} {n:Nat} (hw:1≤w∧w≤5) (hh:1≤h∧h≤4) (hn:n=(w * h).toNat):dO w h n=true:=by
 have hp:0≤w * h:=Int.mul_nonneg (by omega) (by omega)
 have hf:bU w h=true:=by
  rw [bU,decide_eq_true_eq]
  have:w=1∨w=2∨w=3∨w=4∨w=5:=by omega
  rcases this with rfl|rfl|rfl|rfl|rfl <;> omega
 rw [dO,hf,decide_eq_true (by omega)];rfl
theorem ze (p:Pic) (c:Rect) (m:Int) (hp:PicOk p) (hc:Small c) (hm:u16 m):aD Sg 53 [ag (EC p),ag (fk c),U m] (fun r=>r = .b (ag (aY (il p c m)))):=by
 obtain ⟨⟨a1,a2⟩,⟨b1,b2⟩,⟨c1,c2⟩,hr⟩:=hp
 have hl:=Et (p:=p) hc
 obtain ⟨x0,x1,y0,y1,hw,hh⟩:=hc
 have hd:=rI (p.w.tdiv 5)
 rw [Ar a1 a2 (by omega)] at hd
 refine aC Tryz.func53 [.cell 6 47] ?_
 repeat' (first|refine ak ?_|((with_reducible refine aT (id:=4) (fun K hW => ?_));(try simp (maxSteps:=999999)(disch:=omega) only [go_sem]);and_intros;all_goals first|(refine hK _ ?_;clear hK K)|try exact aa)|((first|refine ai (fun K hK => ?_)|refine ae (cl _ _ (by omega) (by omega)) ?_);and_intros;all_goals first|(refine hK _ ?_;clear hK K)|try exact aa)|(apply eE;(case hf=>rfl);(case hc=>exact eC);(all_goals first|(intro hb;(try simp only [qK] at hb))|skip))|exact bO)
 have hlen:(aL p.row (gW p c * gH p c).toNat m).length=(gW p c * gH p c).toNat:=by simp [aL]
 refine pG ?_ ?_ (by simp (maxSteps:=999999)(disch:=omega) only [go_sem]) (wo p.row (gW p c * gH p c) m hr (by omega) (by omega) hm)
 try simp (maxSteps:=999999)(disch:=omega) only [go_sem]
 try (refine hK _ ?_;clear hK K)
 ·refine hW _ (aZ [(2, .b (U m)),(3, .b (.c (.ptr 0 0))),(4, .b (.c (.ptr 1 0))),(6, .b (.c (.ptr 2 0))),(7, .b (I (gW p c))),(8, .b (I (gH p c))),(9, .b (.c (.p (wc (aL p.row (gW p c * gH p c).toNat m)))))]
   [(0, .fix ((EC p).map CV.p)),(1, .fix ((fk c).map CV.p)),(2, .fix ((List.range 28).map fun _=>CV.p .any))] 3) ?_ ?_
  ·clear hW
   refine ay [(1,some 1),(2,some 2)] ?_ ?_
   and_intros
   all_goals first|exact ao|skip
  ·clear hW
   have hpl:0<(aL p.row (gW p c * gH p c).toNat m).length:=by omega
   repeat' (first|refine ak ?_|((first|refine ai (fun K hK => ?_)|refine ae (cl _ _ (by omega) (by omega)) ?_|refine ae (rC _ _ _) ?_|refine ae (mK _ _ _ (by omega)) ?_);and_intros;all_goals first|(refine hK _ ?_;clear hK K)|try exact aa)|(refine bc (fun hb => ?_) (fun hb => ?_);all_goals try exact aJ)|(refine an ?_;(try clear hB KB);(try clear hK K)))
   ·have e2:il p c m=iN (gW p c) (gH p c) (jr p.row m 0):=by rw [il,if_pos hb]
    have e:(aL p.row (gW p c * gH p c).toNat m).getD 0 default=jr p.row m 0:=by
     have:0<(gW p c * gH p c).toNat:=by omega
     simp [aL,this]
    rw [e2,e];rfl
   ·have e2:il p c m=cY (gW p c) (gH p c) (aL p.row (gW p c * gH p c).toNat m):=by rw [il,if_neg hb]
    rw [e2,kM,if_pos (ob (by omega) (by omega) hlen)];rfl
 ·have e:IntKind.i64.wrap (gW p c * gH p c)=gW p c * gH p c:=ef (by omega) (by omega)
  show [_,I (IntKind.i64.wrap (gW p c * gH p c)),_]=_
  rw [e];rfl
end Go.Proofs.YtmfblbbemekkoaaGreatDoor
set_option maxHeartbeats 2000000
set_option maxRecDepth 16000
namespace Go.Proofs.YtmfblbbemekkoaaGreatDoor
open Go Go.SL
open Go.RowKit (wrap64)
def qE (n:Int):List PV:=[.val (.int .u64 (n / 18446744073709551616)), .val (.int .u64 (n % 18446744073709551616))]
structure Q128 (n:Int):Prop where
 l:0≤n
 u:n<340282366920938463463374607431768211456
theorem Oy {vs:Array Value} (h:vs.size=3):vs = #[vs.getD 0 undef,vs.getD 1 undef,vs.getD 2 undef]:=by
 apply Array.ext
 ·simpa using h
 ·intro i h1 h2
  simp at h2
  have:i=0∨i=1∨i=2:=by omega
  rcases this with rfl|rfl|rfl <;> simp [h1]
theorem zy (a b c:Int) (ha:Q64 a) (hb:Q64 b) (hc:0≤c∧c≤1):wP Sg 235 [bN a,bN b,bN c] (.tup [bN ((a+b+c) % 18446744073709551616),bN ((a+b+c) / 18446744073709551616)]):=by
 refine ⟨fun v hv => ?_,fun ok w vs hs hd => ?_⟩
 ·simp only [List.mem_cons,List.not_mem_nil,or_false] at hv
  rcases hv with rfl|rfl <;> trivial
 ·have h0:vs.getD 0 undef = .int .u64 a:=hd 0
  have h1:vs.getD 1 undef = .int .u64 b:=hd 1
  have h2:vs.getD 2 undef = .int .u64 c:=hd 2
  refine ⟨.tuple #[.int .u64 ((a+b+c) % 18446744073709551616), .int .u64 ((a+b+c) / 18446744073709551616)], ?_, ?_⟩
  ·rw [PD,Oy hs,h0,h1,h2,run_callFunc_extern Tryz.func235 (by kernel_rfl) (by kernel_rfl) (by kernel_rfl) (e:=add64Entry) (by kernel_rfl),run_add64 a b c ha.l hb.l hc.1 hc.2]
   rfl
  ·refine ⟨_,rfl,rfl,fun j => ?_⟩
   match j with
   | 0=>rfl
   | 1=>rfl
   | j+2=>trivial
theorem Cn {P : Program} (x y z : Nat) (hz : z ≤ 1) (w : World) : ((Extern.MathBitsCarry.rows.getD 1 ("", fun _ => pure undef)).2 #[.int .u64 x, .int .u64 y, .int .u64 z]).run P w =
  .ok (.tuple #[.int .u64 (((x+18446744073709551616 - y - z) % 18446744073709551616:Nat):Int), .int .u64 ((if x<y+z then 1 else 0:Nat):Int)]) w:=by
 have:z=0∨z=1:=by omega
 rcases this with rfl|rfl <;> rfl
theorem pH (a b c:Int) (ha:Q64 a) (hb:Q64 b) (hc:0≤c∧c≤1):wP Sg 249 [bN a,bN b,bN c] (.tup [bN ((a+18446744073709551616 - b - c) % 18446744073709551616),bN (if a<b+c then 1 else 0)]):=by
 obtain ⟨x,rfl⟩:=Int.eq_ofNat_of_zero_le ha.l
 obtain ⟨y,rfl⟩:=Int.eq_ofNat_of_zero_le hb.l
 obtain ⟨z,rfl⟩:=Int.eq_ofNat_of_zero_le hc.1
 have hz:z≤1:=by omega
 have hy:=hb.u
 refine ⟨fun v hv => ?_,fun ok w vs hs hd => ?_⟩
 ·simp only [List.mem_cons,List.not_mem_nil,or_false] at hv
  rcases hv with rfl|rfl <;> trivial
 ·have h0:vs.getD 0 undef = .int .u64 x:=hd 0
  have h1:vs.getD 1 undef = .int .u64 y:=hd 1
  have h2:vs.getD 2 undef = .int .u64 z:=hd 2
  refine ⟨.tuple #[.int .u64 (((x+18446744073709551616 - y - z) % 18446744073709551616:Nat):Int), .int .u64 ((if x<y+z then 1 else 0:Nat):Int)], ?_, ?_⟩
  ·rw [PD, Oy hs, h0, h1, h2, run_callFunc_extern Tryz.func249 (by kernel_rfl) (by kernel_rfl) (by kernel_rfl) (e := (Extern.MathBitsCarry.rows.getD 1 ("", fun _ => pure undef)).2) (by kernel_rfl), Cn x y z hz]
   rfl
  ·refine ⟨_,rfl,rfl,fun j => ?_⟩
   have e1:(((x+18446744073709551616 - y - z) % 18446744073709551616:Nat):Int)=((x:Int)+18446744073709551616 - y - z) % 18446744073709551616:=by omega
   have e2:((if x<y+z then 1 else 0:Nat):Int)=if (x:Int)<y+z then 1 else 0:=by split <;> split <;> omega
   match j with
   | 0=>exact congrArg (Value.int .u64) e1
   | 1=>exact congrArg (Value.int .u64) e2
   | j+2=>trivial
theorem vy {n:Int} (h:Q128 n):Q64 (n / 18446744073709551616)∧Q64 (n % 18446744073709551616):=by
 obtain ⟨h1,h2⟩:=h
 exact ⟨⟨by omega,by omega⟩,⟨by omega,by omega⟩⟩
attribute [local go_sem] qE
def jn (x y:Int):Int:=if x=y then 0 else if x<y then -1 else 1
theorem mU (n:Int):IntKind.u64.wrap n=n % 18446744073709551616:=by
 simp only [IntKind.wrap,IntKind.bits,IntKind.signed];simp
end Go.Proofs.YtmfblbbemekkoaaGreatDoor
