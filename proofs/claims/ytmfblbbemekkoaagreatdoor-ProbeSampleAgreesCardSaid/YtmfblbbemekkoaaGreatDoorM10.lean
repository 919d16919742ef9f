/- Part of the proof: U1. -/
import Derived.Test.YtmfblbbemekkoaaGreatDoorM6
set_option linter.unusedSimpArgs false
set_option linter.unusedVariables false
set_option maxHeartbeats 2000000
set_option maxRecDepth 16000
namespace Go.Proofs.YtmfblbbemekkoaaGreatDoor
open Go Go.SL
open Go.RowKit (wrap64)
abbrev UQ (x:Int):BV := .c (.p (.val (.int .u64 x)))
structure Q64 (n:Int):Prop where
 l:0≤n
 u:n<18446744073709551616
theorem wq (n:Int) (h:Q64 n):IntKind.u64.wrap n=n:=me h.l (by have:=h.u;omega)
theorem CZ {n d:Int} (hn:0≤n) (hd:0<d):0≤bL n d∧bL n d≤n:=by
 refine ⟨de hd hn,po hd ?_⟩
 have:=Int.mul_le_mul_of_nonneg_right (show 1≤d by omega) hn
 omega
theorem iA (n d:Int) (hn:Q64 n) (hd:Q64 d):aC Sg 145 [UQ n,UQ d] (fun r=>r = .b (UQ (bL n d))):=by
 obtain ⟨n0,n1⟩:=hn
 obtain ⟨d0,d1⟩:=hd
 refine aA Tryz.func145 [.tmp 4] ?_
 repeat' (first|refine an ?_|(refine ai (fun K hK => ?_);and_intros;(all_goals first|(refine hK _ ?_;clear hK K)|exact aa|skip))|(apply fo;(case hf=>rfl);(case hc=>exact eH);(all_goals first|(intro hb;(try simp only [ov] at hb))|skip))|exact bB|(refine aW (fun hb => ?_) (fun hb => ?_);all_goals try exact aG)|(refine ak ?_;(try clear hB KB);(try clear hK K)))
 ·rw [bL,if_pos hb]
 ·have h1:=Int.emod_nonneg n hb
  have h2:=Int.emod_lt_of_pos n (show 0<d by omega)
  have h3:0≤n / d:=Int.ediv_nonneg n0 d0
  have h4:n / d≤n:=Int.ediv_le_self _ n0
  have h5:n % d≥d - n % d→n / d+1≤n:=fun q=>by
   have:=CZ n0 (show 0<d by omega)
   rw [bL,if_neg hb,if_pos q] at this
   exact this.2
  rw [bL,if_neg hb,wq (n / d) ⟨h3,by omega⟩,wq (d - n % d) ⟨by omega,by omega⟩]
  by_cases q:n % d≥d - n % d
  ·have:=h5 q
   rw [if_pos q,if_pos q,wq _ ⟨by omega,by omega⟩]
  ·rw [if_neg q,if_neg q]
theorem np (m:Int):aC Sg 139 [U m] (fun r=>r = .b (B (decide (m=255∨m=65535)))):=by
 refine aA Tryz.func139 [.tmp 2] ?_
 repeat' (first|(refine ai (fun K hK => ?_);and_intros;(all_goals first|(refine hK _ ?_;clear hK K)|exact aa|skip))|(refine ak ?_;(try clear hB KB);(try clear hK K)))
 refine ej ?_
 (try simp only [Bool.and_eq_true,Bool.or_eq_true,Bool.not_eq_true',Bool.not_eq_false',decide_eq_true_eq,decide_eq_false_iff_not,ge_iff_le,gt_iff_lt,beq_iff_eq,bne_iff_ne,ne_eq,Bool.or_eq_false_iff,Bool.and_eq_false_imp,Bool.not_true,Bool.not_false])
 try omega
def ky (p:Pixel) (m:Int):Bool:=decide (p.c0≤p.a∧p.c1≤p.a∧p.c2≤p.a∧p.a≤p.f∧p.f≤m)
theorem dY (p:Pixel) (m:Int):aC Sg 26 [ag (aF p),U m] (fun r=>r = .b (B (ky p m))):=by
 refine aA Tryz.func26 [.tmp 4] ?_
 repeat' (first|(refine ai (fun K hK => ?_);and_intros;(all_goals first|(refine hK _ ?_;clear hK K)|exact aa|skip))|(refine ak ?_;(try clear hB KB);(try clear hK K)))
 refine ej ?_
 (try simp only [ky,Bool.and_eq_true,Bool.or_eq_true,Bool.not_eq_true',Bool.not_eq_false',decide_eq_true_eq,decide_eq_false_iff_not,ge_iff_le,gt_iff_lt,beq_iff_eq,bne_iff_ne,ne_eq,Bool.or_eq_false_iff,Bool.and_eq_false_imp,Bool.not_true,Bool.not_false])
 try omega
theorem fz {n:Int} (h0:0≤n) (h1:n≤65535):IntKind.u16.wrap n=n:=Rn h0 h1
theorem Ht (op f g m:Int) (hm:Full m) (hf:0≤f) (hfm:f≤m) (hg:0≤g) (hgm:g≤m):aC Sg 201 [I op,U f,U g,U m] (fun r=>r = .b (U (en op f g m))):=by
 have hle:=hm.le
 have hp:=hm.pos
 have a1:0≤m * f∧m * f≤65535 * 65535:=⟨ar (by omega) hf,ay hle (by omega) hf (by omega)⟩
 have a2:0≤(m - f) * g∧(m - f) * g≤65535 * 65535:=⟨ar (by omega) hg,ay (by omega) (by omega) hg (by omega)⟩
 have a3:0≤f * g∧f * g≤65535 * 65535:=⟨ar hf hg,ay (by omega) (by omega) hg (by omega)⟩
 have hs:=mO (op:=op) hm hf hfm hg hgm
 have d1:decide (f>m)=false:=decide_eq_false (by omega)
 have d2:decide (g>m)=false:=decide_eq_false (by omega)
 have hi:=nu op
 by_cases ho:1≤op∧op≤12
 ·have hv:op=1∨op=2∨op=3∨op=4∨op=5∨op=6∨op=7∨op=8∨op=9∨op=10∨op=11∨op=12:=by omega
  refine aA Tryz.func201 [.tmp 8] ?_
  rw [show fV op=true from decide_eq_true ho] at hi
  rcases hv with rfl|rfl|rfl|rfl|rfl|rfl|rfl|rfl|rfl|rfl|rfl|rfl
  all_goals
   repeat' (first|refine aj (And.intro d1 d2) ?_|refine an ?_|((first|refine ai (fun K hK => ?_)|refine ae (hi) ?_|refine ae (iA _ m ⟨by omega,by omega⟩ ⟨by omega,by omega⟩) ?_);and_intros;(all_goals first|(refine hK _ ?_;clear hK K)|exact aa|skip))|(refine ak ?_;(try clear hB KB);(try clear hK K)))
  all_goals first
   | rfl
   | (refine congrArg (fun v=>SV.b (U v)) ?_;exact fz hs.1 (Int.le_trans hs.2 hle))
 ·rw [show fV op=false from decide_eq_false ho] at hi
  refine aA Tryz.func201 [.tmp 8] ?_
  repeat' (first|with_reducible exact ca|refine aj (And.intro d1 d2) ?_|refine an ?_|((first|refine ai (fun K hK => ?_)|refine BD ?_|refine ae (hi) ?_|refine aD (fun hg=>hi) ?_);and_intros;(all_goals first|(refine hK _ ?_;clear hK K)|exact aa|skip))|((first|apply fo|apply gK);(case hf=>rfl);(case hc=>exact eH);(all_goals first|(intro hb;(try simp only [ov] at hb))|skip))|exact bB|(refine aW (fun hb => ?_) (fun hb => ?_);all_goals try exact aG)|refine qC (fun KB hB => ?_)|(refine hB _ ?_;clear hB KB)|refine yg (S:=Sg) (by assumption) ?_|(refine ak ?_;(try clear hB KB);(try clear hK K)))
  unfold en
  repeat rw [if_neg (by omega)]
theorem tp (op a b m:Int) (hm:Full m) (ho:1≤op∧op≤12) (ha:0≤a) (ham:a≤m) (hb:0≤b) (hbm:b≤m):aC Sg 222 [I op,U a,U b,U m] (fun r=>r = .tup [U (iT op a b m),U (kE op a b m),B true]):=by
 have hle:=hm.le
 have d1:decide (a>m)=false:=decide_eq_false (by omega)
 have d2:decide (b>m)=false:=decide_eq_false (by omega)
 have hi:=nu op
 have hv:op=1∨op=2∨op=3∨op=4∨op=5∨op=6∨op=7∨op=8∨op=9∨op=10∨op=11∨op=12:=by omega
 refine aA Tryz.func222 [.tmp 8, .tmp 9, .tmp 10] ?_
 rw [show fV op=true from decide_eq_true ho] at hi
 rcases hv with rfl|rfl|rfl|rfl|rfl|rfl|rfl|rfl|rfl|rfl|rfl|rfl
 all_goals
  repeat' (first|refine aj (And.intro d1 d2) ?_|refine an ?_|((first|refine ai (fun K hK => ?_)|refine ae (hi) ?_);and_intros;(all_goals first|(refine hK _ ?_;clear hK K)|exact aa|skip))|(refine ak ?_;(try clear hB KB);(try clear hK K)))
 all_goals rfl
theorem Bm {op a b m:Int} (hm:Full m) (ha:0≤a) (ham:a≤m) (hb:0≤b) (hbm:b≤m):0≤iT op a b m * a∧iT op a b m * a≤65535 * 65535∧0≤kE op a b m * b∧kE op a b m * b≤65535 * 65535:=by
 have hle:=hm.le
 have ⟨a1,a2⟩:=jq (op:=op) ha ham hb hbm
 have ⟨b1,b2⟩:=kv (op:=op) ha ham hb hbm
 exact ⟨ar a1 ha,ay (by omega) (by omega) ha (by omega),ar b1 hb,ay (by omega) (by omega) hb (by omega)⟩
theorem yA (op a b m:Int) (hm:Full m) (ho:1≤op∧op≤12) (ha:0≤a) (ham:a≤m) (hb:0≤b) (hbm:b≤m):aC Sg 206 [I op,U a,U b,U m] (fun r=>r = .b (U (dj op a b m))):=by
 have hle:=hm.le
 have hp:=hm.pos
 have hf:=tp op a b m hm ho ha ham hb hbm
 have hr:=Bm (op:=op) hm ha ham hb hbm
 have hn:=Ao (op:=op) hm ha ham hb hbm
 have hl:=mv (op:=op) hm ha ham hb hbm
 have ⟨a1,a2⟩:=jq (op:=op) ha ham hb hbm
 have ⟨b1,b2⟩:=kv (op:=op) ha ham hb hbm
 unfold dj at *
 generalize iT op a b m=fa at *
 generalize kE op a b m=fb at *
 refine aA Tryz.func206 [.tmp 8] ?_
 repeat' (first|with_reducible exact ca|((first|refine ai (fun K hK => ?_)|refine ae (hf) ?_|refine ae (iA _ m ⟨by omega,by omega⟩ ⟨by omega,by omega⟩) ?_);and_intros;(all_goals first|(refine hK _ ?_;clear hK K)|exact aa|skip))|(refine ak ?_;(try clear hB KB);(try clear hK K)))
end Go.Proofs.YtmfblbbemekkoaaGreatDoor
