/- Part of the proof: U1. -/
import Derived.Test.YtcbifofjjpfbcaaGreatDoorM5
set_option linter.unusedSimpArgs false
set_option linter.unusedVariables false
set_option maxHeartbeats 2000000
set_option maxRecDepth 16000
namespace Go.Proofs.YtcbifofjjpfbcaaGreatDoor
open Go Go.SL
open Go.RowKit (wrap64)
abbrev UQ (x:Int):BV := .c (.p (.val (.int .u64 x)))
structure Q64 (n:Int):Prop where
 l:0≤n
 u:n<18446744073709551616
theorem wq (n:Int) (h:Q64 n):IntKind.u64.wrap n=n:=nW h.l (by have:=h.u;omega)
theorem Gb {n d:Int} (hn:0≤n) (hd:0<d):0≤bV n d∧bV n d≤n:=by
 refine ⟨dL hd hn,rj hd ?_⟩;have:=Int.mul_le_mul_of_nonneg_right (show 1≤d by omega) hn;omega
theorem jz (n d:Int) (hn:Q64 n) (hd:Q64 d):aA Sg 181 [UQ n,UQ d] (fun r=>r = .b (UQ (bV n d))):=by
 obtain ⟨n0,n1⟩:=hn;obtain ⟨d0,d1⟩:=hd;refine aD Tryz.func181 [.tmp 4] ?_
 repeat' (first|refine aC ?_|(apply bn;(case hf=>rfl);(case hc=>exact bM);(all_goals first|(intro hb;(try simp only [gL] at hb))|skip))|exact aG|(refine aK (fun hb => ?_) (fun hb => ?_) <;> try exact aE))
 ·rw [bV,if_pos hb]
 ·have h1:=Int.emod_nonneg n hb;have h2:=Int.emod_lt_of_pos n (show 0<d by omega);have h3:0≤n / d:=Int.ediv_nonneg n0 d0;have h4:n / d≤n:=Int.ediv_le_self _ n0;have h5:n % d≥d - n % d→n / d+1≤n:=fun q=>by
   have:=Gb n0 (show 0<d by omega);rw [bV,if_neg hb,if_pos q] at this;exact this.2
  rw [bV,if_neg hb,wq (n / d) ⟨h3,by omega⟩,wq (d - n % d) ⟨by omega,by omega⟩];by_cases q:n % d≥d - n % d
  ·have:=h5 q;rw [if_pos q,if_pos q,wq _ ⟨by omega,by omega⟩]
  ·rw [if_neg q,if_neg q]
theorem pJ (m:Int):aA Sg 174 [U m] (fun r=>r = .b (B (decide (m=255∨m=65535)))):=by
 refine aD Tryz.func174 [.tmp 2] ?_;repeat' (refine aC ?_)
 refine eV ?_
 (try simp only [Bool.and_eq_true,Bool.or_eq_true,Bool.not_eq_true',Bool.not_eq_false',decide_eq_true_eq,decide_eq_false_iff_not,ge_iff_le,gt_iff_lt,beq_iff_eq,bne_iff_ne,ne_eq,Bool.or_eq_false_iff,Bool.and_eq_false_imp,Bool.not_true,Bool.not_false])
 try omega
def ly (p:Pixel) (m:Int):Bool:=decide (p.c0≤p.a∧p.c1≤p.a∧p.c2≤p.a∧p.a≤p.f∧p.f≤m)
theorem fW (p:Pixel) (m:Int):aA Sg 47 [ag (aS p),U m] (fun r=>r = .b (B (ly p m))):=by
 refine aD Tryz.func47 [.tmp 4] ?_;repeat' (refine aC ?_)
 refine eV ?_
 (try simp only [ly,Bool.and_eq_true,Bool.or_eq_true,Bool.not_eq_true',Bool.not_eq_false',decide_eq_true_eq,decide_eq_false_iff_not,ge_iff_le,gt_iff_lt,beq_iff_eq,bne_iff_ne,ne_eq,Bool.or_eq_false_iff,Bool.and_eq_false_imp,Bool.not_true,Bool.not_false])
 try omega
theorem gD {n:Int} (h0:0≤n) (h1:n≤65535):IntKind.u16.wrap n=n:=XT h0 h1
theorem JO (op f g m:Int) (hm:Full m) (hf:0≤f) (hfm:f≤m) (hg:0≤g) (hgm:g≤m):aA Sg 203 [I op,U f,U g,U m] (fun r=>r = .b (U (fk op f g m))):=by
 have hle:=hm.le;have hp:=hm.pos;have a1:0≤m * f∧m * f≤65535 * 65535:=⟨ao (by omega) hf,az hle (by omega) hf (by omega)⟩
 have a2:0≤(m - f) * g∧(m - f) * g≤65535 * 65535:=⟨ao (by omega) hg,az (by omega) (by omega) hg (by omega)⟩
 have a3:0≤f * g∧f * g≤65535 * 65535:=⟨ao hf hg,az (by omega) (by omega) hg (by omega)⟩
 have hs:=ov (op:=op) hm hf hfm hg hgm;have d1:decide (f>m)=false:=decide_eq_false (by omega);have d2:decide (g>m)=false:=decide_eq_false (by omega);have hi:=pE op;by_cases ho:1≤op∧op≤12
 ·have hv:op=1∨op=2∨op=3∨op=4∨op=5∨op=6∨op=7∨op=8∨op=9∨op=10∨op=11∨op=12:=by omega
  refine aD Tryz.func203 [.tmp 8] ?_;rw [show ji op=true from decide_eq_true ho] at hi;rcases hv with rfl|rfl|rfl|rfl|rfl|rfl|rfl|rfl|rfl|rfl|rfl|rfl;all_goals
   repeat' (first|refine ah (And.intro d1 d2) ?_|refine ax ?_|refine an (fun K hK => ?_)|refine aa (hi) ?_|refine aa (jz _ m ⟨by omega,by omega⟩ ⟨by omega,by omega⟩) ?_|(refine aq hK ?_;try clear hK K))
  all_goals first
   | rfl
   | (refine congrArg (fun v=>SV.b (U v)) ?_;exact gD hs.1 (Int.le_trans hs.2 hle))
 ·rw [show ji op=false from decide_eq_false ho] at hi;refine aD Tryz.func203 [.tmp 8] ?_;repeat' (first|with_reducible exact bq|refine ah (And.intro d1 d2) ?_|refine bU ?_|((first|refine an (fun K hK => ?_)|refine fc ?_|refine aa (hi) ?_|refine aw (fun hg=>hi) ?_);and_intros;all_goals first|(refine hK _ ?_;clear hK K)|try exact ai)|((first|apply bn|apply ba);(case hf=>rfl);(case hc=>exact bM);(all_goals first|(intro hb;(try simp only [gL] at hb))|skip))|exact aG|(refine aK (fun hb => ?_) (fun hb => ?_);all_goals try exact aE)|refine aU (fun KB hB => ?_)|(refine hB _ ?_;clear hB KB)|refine bt (S:=Sg) (by assumption) ?_|(refine ct ?_;(try clear hB KB);(try clear hK K)))
  unfold fk;repeat rw [if_neg (by omega)]
theorem xA (op a b m:Int) (hm:Full m) (ho:1≤op∧op≤12) (ha:0≤a) (ham:a≤m) (hb:0≤b) (hbm:b≤m):aA Sg 222 [I op,U a,U b,U m] (fun r=>r = .tup [U (jl op a b m),U (jY op a b m),B true]):=by
 have hle:=hm.le;have d1:decide (a>m)=false:=decide_eq_false (by omega);have d2:decide (b>m)=false:=decide_eq_false (by omega);have hi:=pE op;have hv:op=1∨op=2∨op=3∨op=4∨op=5∨op=6∨op=7∨op=8∨op=9∨op=10∨op=11∨op=12:=by omega
 refine aD Tryz.func222 [.tmp 8, .tmp 9, .tmp 10] ?_;rw [show ji op=true from decide_eq_true ho] at hi;rcases hv with rfl|rfl|rfl|rfl|rfl|rfl|rfl|rfl|rfl|rfl|rfl|rfl;all_goals
  repeat' (first|refine ah (And.intro d1 d2) ?_|refine ax ?_|refine an (fun K hK => ?_)|refine aa (hi) ?_|(refine aq hK ?_;try clear hK K))
 all_goals rfl
theorem EG {op a b m:Int} (hm:Full m) (ha:0≤a) (ham:a≤m) (hb:0≤b) (hbm:b≤m):0≤jl op a b m * a∧jl op a b m * a≤65535 * 65535∧0≤jY op a b m * b∧jY op a b m * b≤65535 * 65535:=by
 have hle:=hm.le;have ⟨a1,a2⟩:=ki (op:=op) ha ham hb hbm;have ⟨b1,b2⟩:=lJ (op:=op) ha ham hb hbm;exact ⟨ao a1 ha,az (by omega) (by omega) ha (by omega),ao b1 hb,az (by omega) (by omega) hb (by omega)⟩
theorem Dc (op a b m:Int) (hm:Full m) (ho:1≤op∧op≤12) (ha:0≤a) (ham:a≤m) (hb:0≤b) (hbm:b≤m):aA Sg 208 [I op,U a,U b,U m] (fun r=>r = .b (U (dP op a b m))):=by
 have hle:=hm.le;have hp:=hm.pos;have hf:=xA op a b m hm ho ha ham hb hbm;have hr:=EG (op:=op) hm ha ham hb hbm;have hn:=Cy (op:=op) hm ha ham hb hbm;have hl:=oM (op:=op) hm ha ham hb hbm;have ⟨a1,a2⟩:=ki (op:=op) ha ham hb hbm;have ⟨b1,b2⟩:=lJ (op:=op) ha ham hb hbm;unfold dP at *
 generalize jl op a b m=fa at *
 generalize jY op a b m=fb at *
 refine aD Tryz.func208 [.tmp 8] ?_;repeat' (first|with_reducible exact bq|refine an (fun K hK => ?_)|refine aa (hf) ?_|refine aa (jz _ m ⟨by omega,by omega⟩ ⟨by omega,by omega⟩) ?_|refine ax ?_|(refine aq hK ?_;try clear hK K))
end Go.Proofs.YtcbifofjjpfbcaaGreatDoor
