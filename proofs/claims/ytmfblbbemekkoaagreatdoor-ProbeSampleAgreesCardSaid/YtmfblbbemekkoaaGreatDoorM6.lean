/- Part of the proof: F2, F7, T3, T4. -/
import Derived.Test.YtmfblbbemekkoaaGreatDoorM5
set_option linter.unusedSimpArgs false
set_option linter.unusedVariables false
set_option maxRecDepth 16000
namespace Go.Proofs.YtmfblbbemekkoaaGreatDoor
open Go Go.SL
open Go.RowKit (wrap64)
def cL (n m:Int):Int :=
 if n % 8=0 then 0 else if n % 8=1∨n % 8=2 then m else if n % 8=3 then (m+n.tdiv 8 % 2) / 2
 else if n % 8=4 then min m (n.tdiv 8 % 4) else n.tdiv 8 % (m+1)
theorem eS (n m:Int) (h:0≤m):0≤cL n m∧cL n m≤m:=by
 unfold cL
 have h1:=Int.emod_nonneg (n.tdiv 8) (show m+1≠0 by omega)
 have h2:=Int.emod_lt_of_pos (n.tdiv 8) (show 0<m+1 by omega)
 split
 ·omega
 split
 ·omega
 split
 ·omega
 split
 ·omega
 ·omega
theorem rz (n m : Int) (hn : i64 n) (hm : u16 m) :
  aC Sg 56 [I n,U m] (fun r=>r = .b (U (cL n m))):=by
 obtain ⟨hm1,hm2⟩:=hm
 obtain ⟨hn1,hn2⟩:=hn
 have h1:=Int.emod_nonneg (n.tdiv 8) (show m+1≠0 by omega)
 have h2:=Int.emod_lt_of_pos (n.tdiv 8) (show 0<m+1 by omega)
 refine aA Tryz.func56 [.tmp 4] ?_
 repeat' (first|refine an ?_|((first|refine ai (fun K hK => ?_)|refine ae (bN _ _ (by omega) (by omega)) ?_);and_intros;(all_goals first|(refine hK _ ?_;clear hK K)|exact aa|skip))|((first|apply fo|apply gK);(case hf=>rfl);(case hc=>exact eH);(all_goals first|(intro hb;(try simp only [ov] at hb))|skip))|exact bB|(refine aW (fun hb => ?_) (fun hb => ?_);all_goals try exact aG)|(refine ak ?_;(try clear hB KB);(try clear hK K)))
 ·rw [cL,if_pos (by omega)]
 ·rw [cL,if_neg (by omega),if_pos (by omega)]
 ·rw [cL,if_neg (by omega),if_neg (by omega),if_pos (by omega)]
 ·have:cL n m=min m (n.tdiv 8 % 4):=by rw [cL,if_neg (by omega),if_neg (by omega),if_neg (by omega),if_pos (by omega)]
  rw [this,show (if n.tdiv 8 % 4<m then n.tdiv 8 % 4 else m)=min m (n.tdiv 8 % 4) by split <;> omega]
 ·rw [cL,if_neg (by omega),if_neg (by omega),if_neg (by omega),if_neg (by omega)]
def tw (n:N5) (m:Int):Pixel :=
 let f:=cL n.e m
 let a:=if n.d % 3>0 then cL (n.d.tdiv 3) f else f
 ⟨cL n.a a,cL n.b a,cL n.c a,a,f⟩
structure N5ok (n:N5):Prop where
 a:i64 n.a
 b:i64 n.b
 c:i64 n.c
 d:i64 n.d
 e:i64 n.e
theorem BB (n : N5) (m : Int) (hn : N5ok n) (hm : u16 m) :
  aC Sg 72 [ag (RA n),U m] (fun r=>r = .b (ag (aF (tw n m)))):=by
 obtain ⟨⟨a1,a2⟩,⟨b1,b2⟩,⟨c1,c2⟩,⟨d1,d2⟩,⟨e1,e2⟩⟩:=hn
 have hf:=eS n.e m hm.1
 have ha':=eS (n.d.tdiv 3) (cL n.e m) hf.1
 have hd := @CN n.d 3
 have hd' := @CO n.d 3 d1 d2 (by omega)
 have hd'':=uJ (n.d.tdiv 3)
 rw [hd'] at hd''
 obtain ⟨hm1,hm2⟩:=hm
 refine aA Tryz.func72 [.cell 4 41] ?_
 repeat' (first|refine an ?_|((first|refine ai (fun K hK => ?_)|refine ae (bN _ _ (by omega) (by omega)) ?_|refine ae (rz _ _ ⟨by omega,by omega⟩ ⟨by omega,by omega⟩) ?_);and_intros;(all_goals first|(refine hK _ ?_;clear hK K)|exact aa|skip))|(apply fo;(case hf=>rfl);(case hc=>exact eH);(all_goals first|(intro hb;(try simp only [ov] at hb))|skip))|exact bB|(refine ak ?_;(try clear hB KB);(try clear hK K)))
 ·simp only [tw,gt_iff_lt];rfl
def iz (n c:Int):Int:=if n % 3=0 then c else c+n.tdiv 3 % 9 - 4
theorem zl (n c : Int) (hn : i64 n) (hc1 : -2000000000 ≤ c) (hc2 : c ≤ 2000000000) :
  aC Sg 55 [I n,I c] (fun r=>r = .b (I (iz n c))):=by
 obtain ⟨hn1,hn2⟩:=hn
 refine aA Tryz.func55 [.tmp 4] ?_
 repeat' (first|refine an ?_|((first|refine ai (fun K hK => ?_)|refine ae (bN _ _ (by omega) (by omega)) ?_);and_intros;(all_goals first|(refine hK _ ?_;clear hK K)|exact aa|skip))|(refine aW (fun hb => ?_) (fun hb => ?_);all_goals try exact aG)|(refine ak ?_;(try clear hB KB);(try clear hK K)))
 ·rw [iz,if_pos hb]
 ·rw [iz,if_neg hb]
end Go.Proofs.YtmfblbbemekkoaaGreatDoor
set_option maxHeartbeats 1000000
set_option maxRecDepth 16000
namespace Go.Proofs.YtmfblbbemekkoaaGreatDoor
open Go Go.SL
open Go.RowKit (wrap64)
def bt (k:Int) (l:List Int):Bool:=l.all fun v=>decide (-k≤v∧v≤k)
theorem zW (k:Int) (l:List Int) (hk:0≤k) (hk2:k≤9223372036854775807) (hl:l.length≤4611686018427387904):aC Sg 168 [I k, .c (.p (dQ l))] (fun x=>x = .b (B (bt k l))):=by
 refine aA Tryz.func168 [.tmp 4] ?_
 repeat' (first|refine an ?_|(refine ai (fun K hK => ?_);and_intros;(all_goals first|(refine hK _ ?_;clear hK K)|exact aa|skip)))
 refine aO (X:=Nat) (fun i=>aQ [(0, .b (I k)),(7, .b (.c (.p (dQ l)))),(8, .b (I l.length)),(9, .b (I i))] [] 1) (fun i=>i≤l.length∧(l.take i).all (fun v=>decide (-k≤v∧v≤k))=true) (fun i=>l.length - i) 0 ?_ ?_ ?_
 ·exact ⟨by omega,rfl⟩
 ·refine az [] ?_ ?_
  and_intros
  all_goals first|exact ao|skip
 ·rintro i ⟨hi,ht⟩
  repeat' (first|refine an ?_|(refine ai (fun K hK => ?_);and_intros;(all_goals first|(refine hK _ ?_;clear hK K)|exact aa|skip))|(refine aW (fun hb => ?_) (fun hb => ?_);all_goals try exact aG)|(refine ak ?_;(try clear hB KB);(try clear hK K)))
  ·have:bt k l=false:=by
    rw [bt,List.all_eq_false]
    refine ⟨l.getD i default, ?_, ?_⟩
    ·rw [List.getD_eq_getElem?_getD,List.getElem?_eq_getElem (by omega)];exact List.getElem_mem _
    ·simp only [decide_eq_true_eq];simp only [Int.toNat_natCast] at hb;omega
   rw [this]
  ·rw [ah]
   refine aw (i+1) ?_ ⟨by omega, ?_⟩ (by omega)
   ·refine az [] ?_ ?_
    and_intros
    all_goals first|exact ao|skip
   ·rw [List.take_add_one,List.all_append,ht,List.getElem?_eq_getElem (by omega)]
    simp only [Int.toNat_natCast,List.getD_eq_getElem?_getD,List.getElem?_eq_getElem (show i<l.length by omega),Option.getD_some] at hb
    simp only [Option.toList_some,List.all_cons,List.all_nil,Bool.and_true,Bool.true_and,decide_eq_true_eq]
    omega
  ·have:bt k l=true:=by
    rw [bt]
    rwa [List.take_of_length_le (by omega)] at ht
   rw [this]
theorem zu (r:Rect):aC Sg 131 [ag (fg r)] (fun x=>x = .b (B (mA r))):=by
 refine aA Tryz.func131 [.tmp 2] ?_
 repeat' (refine ai (fun K hK => ?_);and_intros;(all_goals first|(refine hK _ ?_;clear hK K)|exact aa|skip))
 refine ik ?_ ?_ (by simp (maxSteps:=999999)(disch:=omega) only [go_sem]) ?_ (zW 1073741824 [r.x0,r.y0,r.x1,r.y1] (by omega) (by omega) (by simp))
 try simp (maxSteps:=999999)(disch:=omega) only [go_sem]
 try (refine hK _ ?_;clear hK K)
 ·first|refine kr ?_|refine mB ?_
  simp (maxSteps:=999999)(disch:=omega) only [go_sem]
  refine ej ?_
  simp only [bt,mA,List.all_cons,List.all_nil,Bool.and_true,Bool.and_eq_true,decide_eq_true_eq]
  omega
 ·simp (maxSteps:=1000000) (disch:=omega) only [go_sem,fA,gn]
  refine ⟨kW,uP (lA fun i hi j hj => ?_)⟩
  have h1:i=0∨i=1∨i=2∨i=3:=by omega
  have h2:j=0:=by omega
  subst h2
  rcases h1 with rfl|rfl|rfl|rfl <;> rfl
 ·trivial
theorem ks (r:Rect):aC Sg 83 [ag (fg r)] (fun x=>x = .b (B (bZ r))):=by
 refine aA Tryz.func83 [.tmp 2] ?_
 repeat' (first|((first|refine ai (fun K hK => ?_)|refine ae (zu _) ?_);and_intros;(all_goals first|(refine hK _ ?_;clear hK K)|exact aa|skip))|(refine ak ?_;(try clear hB KB);(try clear hK K)))
 refine ej ?_
 simp only [bZ,Bool.or_eq_true,decide_eq_true_eq,ge_iff_le,or_assoc]
theorem zh (r:Rect):aC Sg 172 [ag (fg r)] (fun x=>x = .b (ag (fg (gq r)))):=by
 refine aA Tryz.func172 [.cell 2 33] ?_
 repeat' (first|refine an ?_|((first|refine ai (fun K hK => ?_)|refine ae (ks _) ?_);and_intros;(all_goals first|(refine hK _ ?_;clear hK K)|exact aa|skip))|(refine aW (fun hb => ?_) (fun hb => ?_);all_goals try exact aG)|(refine ak ?_;(try clear hB KB);(try clear hK K)))
 ·rw [gq,if_pos hb];rfl
 ·rw [gq,if_neg (by simp [hb])];rfl
theorem Bu (r:Rect):aC Sg 159 [ag (fg r)] (fun x=>x = .b (I (gL r))):=by
 refine aA Tryz.func159 [.tmp 2] ?_
 repeat' (first|((first|refine ai (fun K hK => ?_)|refine ae (zh _) ?_);and_intros;(all_goals first|(refine hK _ ?_;clear hK K)|exact aa|skip))|(refine ak ?_;(try clear hB KB);(try clear hK K)))
 rw [vJ]
def pH (o:Int):List PV:=if 1≤o∧o≤12 then [cq.getD (o.toNat * 4) .any,cq.getD (o.toNat * 4+1) .any,cq.getD (o.toNat * 4+2) .any,cq.getD (o.toNat * 4+3) .any]
 else [.val (.string ⟨#[]⟩),PI 0,PI 0,PI 0]
theorem pV (o:Int):aC Sg 213 [I o] (fun x=>x = .tup [ag (pH o),B (decide (1≤o∧o≤12))]):=by
 refine aA Tryz.func213 [.cell 2 255, .tmp 3] ?_
 repeat' (first|refine an ?_|(refine ai (fun K hK => ?_);and_intros;(all_goals first|(refine hK _ ?_;clear hK K)|exact aa|skip))|(refine aW (fun hb => ?_) (fun hb => ?_);all_goals try exact aG)|(refine ak ?_;(try clear hB KB);(try clear hK K)))
 ·rw [pH,if_neg (by omega),decide_eq_false (by omega)];rfl
 ·rw [pH,if_pos (by omega),decide_eq_true (by omega)];simp only [Nat.zero_add,Nat.add_zero];rfl
def Av (o:Int):ByteArray:=match (pH o).getD 0 .any with
 | .val (.string s)=>s
 | _=>⟨#[]⟩
theorem qQ (o:Int):∃ a b c,pH o=[.val (.string (Av o)),PI a,PI b,PI c]∧((Av o).toList == (ByteArray.mk #[]).toList) = !decide (1≤o∧o≤12):=by
 by_cases h:1≤o∧o≤12
 ·have:o=1∨o=2∨o=3∨o=4∨o=5∨o=6∨o=7∨o=8∨o=9∨o=10∨o=11∨o=12:=by omega
  rcases this with rfl|rfl|rfl|rfl|rfl|rfl|rfl|rfl|rfl|rfl|rfl|rfl <;> exact ⟨_,_,_,rfl,by decide +kernel⟩
 ·have e:pH o=[.val (.string ⟨#[]⟩),PI 0,PI 0,PI 0]:=by rw [pH,if_neg h]
  refine ⟨0,0,0, ?_, ?_⟩
  ·rw [Av,e];rfl
  ·rw [Av,e,decide_eq_false h];decide +kernel
theorem As (o:Int):aC Sg 186 [I o] (fun x=>x = .b (.c (.p (.val (.string (Av o)))))):=by
 obtain ⟨a,b,c,he,_⟩:=qQ o
 have hf:=pV o
 rw [he] at hf
 refine aA Tryz.func186 [.tmp 2] ?_
 repeat' (first|with_reducible exact ca|((first|refine ai (fun K hK => ?_)|refine ae (hf) ?_);and_intros;(all_goals first|(refine hK _ ?_;clear hK K)|exact aa|skip))|(refine ak ?_;(try clear hB KB);(try clear hK K)))
def fV (o:Int):Bool:=decide (1≤o∧o≤12)
def Tt (m:Int):ByteArray:=match fJ.getD m.toNat .any with
 | .val (.string s)=>s
 | _=>⟨#[]⟩
theorem yK (m:Int) (h:1≤m∧m≤12):fJ.getD m.toNat .any = .val (.string (Tt m))∧((Tt m).toList == (ByteArray.mk #[]).toList)=false:=by
 have:m=1∨m=2∨m=3∨m=4∨m=5∨m=6∨m=7∨m=8∨m=9∨m=10∨m=11∨m=12:=by omega
 rcases this with rfl|rfl|rfl|rfl|rfl|rfl|rfl|rfl|rfl|rfl|rfl|rfl <;> exact ⟨rfl,by decide +kernel⟩
def xc (m:Int):ByteArray:=if 1≤m∧m≤12 then Tt m else ⟨#[]⟩
theorem tM (m:Int):((xc m).toList == (ByteArray.mk #[]).toList) = !fV m:=by
 by_cases h:1≤m∧m≤12
 ·rw [xc,if_pos h,(yK m h).2,fV,decide_eq_true h];rfl
 ·rw [xc,if_neg h,fV,decide_eq_false h];decide +kernel
theorem tc (m:Int):aC Sg 187 [I m] (fun x=>x = .b (.c (.p (.val (.string (xc m)))))):=by
 refine aA Tryz.func187 [.tmp 2] ?_
 repeat' (first|refine an ?_|((first|refine ai (fun K hK => ?_)|refine ae (zp _) ?_);and_intros;(all_goals first|(refine hK _ ?_;clear hK K)|exact aa|skip))|(refine aW (fun hb => ?_) (fun hb => ?_);all_goals try exact aG)|(refine ak ?_;(try clear hB KB);(try clear hK K)))
 ·rw [xc,if_neg (by omega)]
 ·rw [xc,if_pos (by omega)]
  have h:=yK m (by omega)
  simp only [Nat.zero_add,Nat.mul_one,Nat.add_zero]
  rw [h.1]
theorem AH (o:Int):aC Sg 211 [I o] (fun x=>x = .b (.c (.p (.val (.string (Av o)))))):=by
 refine aA Tryz.func211 [.tmp 2] ?_
 repeat' (first|refine an ?_|(refine ai (fun K hK => ?_);and_intros;(all_goals first|(refine hK _ ?_;clear hK K)|exact aa|skip))|(refine aW (fun hb => ?_) (fun hb => ?_);all_goals try exact aG)|(refine ak ?_;(try clear hB KB);(try clear hK K)))
 ·rw [Av,pH,if_neg (by omega)];rfl
 ·have:o=1∨o=2∨o=3∨o=4∨o=5∨o=6∨o=7∨o=8∨o=9∨o=10∨o=11∨o=12:=by omega
  rcases this with rfl|rfl|rfl|rfl|rfl|rfl|rfl|rfl|rfl|rfl|rfl|rfl <;> rfl
theorem xY (o:Int):aC Sg 212 [I o] (fun x=>x = .b (.c (.p (.val (.string (xc o)))))):=by
 refine aA Tryz.func212 [.tmp 2] ?_
 repeat' (first|refine an ?_|(refine ai (fun K hK => ?_);and_intros;(all_goals first|(refine hK _ ?_;clear hK K)|exact aa|skip))|(refine aW (fun hb => ?_) (fun hb => ?_);all_goals try exact aG)|(refine ak ?_;(try clear hB KB);(try clear hK K)))
 ·rw [xc,if_neg (by omega)]
 ·have:o=1∨o=2∨o=3∨o=4∨o=5∨o=6∨o=7∨o=8∨o=9∨o=10∨o=11∨o=12:=by omega
  rcases this with rfl|rfl|rfl|rfl|rfl|rfl|rfl|rfl|rfl|rfl|rfl|rfl <;> rfl
theorem nu (o:Int):aC Sg 182 [I o] (fun x=>x = .b (B (fV o))):=by
 obtain ⟨_,_,_,_,h⟩:=qQ o
 refine aA Tryz.func182 [.tmp 2] ?_
 repeat' (first|((first|refine ai (fun K hK => ?_)|refine ae (AH _) ?_);and_intros;(all_goals first|(refine hK _ ?_;clear hK K)|exact aa|skip))|(refine ak ?_;(try clear hB KB);(try clear hK K)))
 refine ej ?_
 rw [h];simp [fV]
theorem ki (o:Int):aC Sg 183 [I o] (fun x=>x = .b (B (fV o))):=by
 have h:=tM o
 refine aA Tryz.func183 [.tmp 2] ?_
 repeat' (first|((first|refine ai (fun K hK => ?_)|refine ae (xY _) ?_);and_intros;(all_goals first|(refine hK _ ?_;clear hK K)|exact aa|skip))|(refine ak ?_;(try clear hB KB);(try clear hK K)))
 refine ej ?_
 rw [h];simp [fV]
end Go.Proofs.YtmfblbbemekkoaaGreatDoor
namespace Go.Proofs.YtmfblbbemekkoaaGreatDoor
theorem jq {op a b m:Int} (ha:0≤a) (ham:a≤m) (hb:0≤b) (hbm:b≤m):0≤iT op a b m∧iT op a b m≤m:=by
 unfold iT;repeat' split
 all_goals omega
theorem kv {op a b m:Int} (ha:0≤a) (ham:a≤m) (hb:0≤b) (hbm:b≤m):0≤kE op a b m∧kE op a b m≤m:=by
 unfold kE;repeat' split
 all_goals omega
theorem LO {x : Ex} {A : Int} (p0 : 0 ≤ x.p) (q0 : 0 ≤ x.q) (q1 : x.q < 70368744177664) (r0 : 0 ≤ x.r) (r1 : x.r < 8589934592) (d0 : 1 ≤ x.d) (d1 : x.d < 18446744073709551616)
  (pA:x.p≤A) (sq:x.q * x.q * x.r≤(A - x.p) * (A - x.p)) (hA:A≤131072 * x.d):ExOk x:=by
 refine ⟨p0,by omega,q0,q1,r0,r1,d0,d1, ?_⟩
 simp only [nD,decide_eq_false_iff_not,Int.one_mul]
 rintro (h|h)
 ·omega
 ·have h1:(A - x.p+1) * (A - x.p+1)≤(4611686018427387904 * x.d - x.p) * (4611686018427387904 * x.d - x.p):=jZ (by omega) (by omega)
  have e:(A - x.p+1) * (A - x.p+1)=(A - x.p) * (A - x.p)+2 * (A - x.p)+1:=by grind
  omega
theorem Tn {m:Int} (hm:Full m):m * m≤4294836225∧1≤m * m:=by
 rcases hm.h with rfl|rfl <;> decide
section
variable {op mode m cs sl cb ab:Int}
def pD (op m sl ab:Int):Int:=iT op sl ab m * sl+kE op sl ab m * ab
theorem KY (hm:Full m) (h1:0≤sl) (h2:sl≤m) (h3:0≤ab) (h4:ab≤m):0≤pD op m sl ab∧pD op m sl ab≤131070 * m:=by
 have ⟨a1,a2⟩:=jq (op:=op) h1 h2 h3 h4
 have ⟨b1,b2⟩:=kv (op:=op) h1 h2 h3 h4
 have hle:=hm.le
 have e1:iT op sl ab m * sl≤m * 65535:=ay a2 (by omega) h1 (by omega)
 have e2:kE op sl ab m * ab≤m * 65535:=ay b2 (by omega) h3 (by omega)
 have e3:=ar a1 h1
 have e4:=ar b1 h3
 unfold pD;omega
theorem AG (hm : Full m) (hs : Pre cs sl m) (hd : Pre cb ab m) :
  0≤(dB op mode m cs sl cb ab).p∧(dB op mode m cs sl cb ab).p≤pD op m sl ab * m * (aZ mode cs sl cb ab).d ∧
   (dB op mode m cs sl cb ab).q * (dB op mode m cs sl cb ab).q * (dB op mode m cs sl cb ab).r ≤
    (pD op m sl ab * m * (aZ mode cs sl cb ab).d - (dB op mode m cs sl cb ab).p) * (pD op m sl ab * m * (aZ mode cs sl cb ab).d - (dB op mode m cs sl cb ab).p):=by
 have ht:=kt (mode:=mode) hm hs hd
 obtain ⟨s0,sa,am⟩:=hs
 obtain ⟨d0,db,bm⟩:=hd
 have ⟨a1,a2⟩:=jq (op:=op) (show 0≤sl by omega) am (show 0≤ab by omega) bm
 have ⟨b1,b2⟩:=kv (op:=op) (show 0≤sl by omega) am (show 0≤ab by omega) bm
 have hp:=hm.pos
 obtain ⟨p0,q0,q1,r0,r1,dd0,dd1,ple,psq⟩:=ht
 unfold dB pD
 generalize aZ mode cs sl cb ab=t at *
 generalize iT op sl ab m=fa at *
 generalize kE op sl ab m=fb at *
 dsimp only
 have k1:0≤fa * ((m - ab) * (sl - cs) * t.d):=ar a1 (ar (ar (by omega) (by omega)) (by omega))
 have k2:0≤fb * ((ab - cb) * m * t.d):=ar b1 (ar (ar (by omega) (by omega)) (by omega))
 have k3:0≤fa * (sl * ab * t.d - t.p):=ar a1 (by omega)
 have e:(fa * sl+fb * ab) * m * t.d - (t.p * fa+(m - ab) * cs * fa * t.d+fb * cb * m * t.d)=fa * (sl * ab * t.d - t.p)+fa * ((m - ab) * (sl - cs) * t.d)+fb * ((ab - cb) * m * t.d):=by grind
 refine ⟨?_,by omega, ?_⟩
 ·exact Int.add_nonneg (Int.add_nonneg (ar p0 a1) (ar (ar (ar (by omega) s0) a1) (by omega))) (ar (ar (ar b1 d0) (by omega)) (by omega))
 ·rw [e]
  have h1:fa * (sl * ab * t.d - t.p) * (fa * (sl * ab * t.d - t.p))≤(fa * (sl * ab * t.d - t.p)+fa * ((m - ab) * (sl - cs) * t.d)+fb * ((ab - cb) * m * t.d)) * (fa * (sl * ab * t.d - t.p)+fa * ((m - ab) * (sl - cs) * t.d)+fb * ((ab - cb) * m * t.d)) :=
   jZ k3 (by omega)
  refine Int.le_trans ?_ h1
  have h2:=Int.mul_le_mul_of_nonneg_left psq (uZ fa)
  have e2:fa * t.q * (fa * t.q) * t.r=fa * fa * (t.q * t.q * t.r):=by grind
  have e3:fa * (sl * ab * t.d - t.p) * (fa * (sl * ab * t.d - t.p))=fa * fa * ((sl * ab * t.d - t.p) * (sl * ab * t.d - t.p)):=by grind
  rw [e2,e3];exact h2
theorem kP (hm:Full m) (hs:Pre cs sl m) (hd:Pre cb ab m):ExOk (dB op mode m cs sl cb ab):=by
 obtain ⟨v0,v1,v2⟩:=AG (op:=op) (mode:=mode) hm hs hd
 have ht:=kt (mode:=mode) hm hs hd
 have ⟨n0,n1⟩:=KY (op:=op) hm (show 0≤sl by have:=hs.s0;have:=hs.sa;omega) hs.am (show 0≤ab by have:=hd.s0;have:=hd.sa;omega) hd.am
 have ⟨a1,a2⟩:=jq (op:=op) (show 0≤sl by have:=hs.s0;have:=hs.sa;omega) hs.am (show 0≤ab by have:=hd.s0;have:=hd.sa;omega) hd.am
 have hmle:=hm.le
 have hp:=hm.pos
 obtain ⟨mm1,mm2⟩:=Tn hm
 refine LO v0 ?_ ?_ ht.r0 ?_ ?_ ?_ v1 v2 ?_
 ·exact ar a1 ht.q0
 ·show iT op sl ab m * (aZ mode cs sl cb ab).q<_
  have:iT op sl ab m * (aZ mode cs sl cb ab).q≤65535 * 65535:=ay (by omega) ht.q1 ht.q0 (by omega)
  omega
 ·have:=ht.r1
  show (aZ mode cs sl cb ab).r<_
  omega
 ·show 1≤m * m * (aZ mode cs sl cb ab).d
  have:1 * 1≤m * m * (aZ mode cs sl cb ab).d:=ay mm2 ht.d0 (by omega) (by omega)
  omega
 ·show m * m * (aZ mode cs sl cb ab).d<_
  have:m * m * (aZ mode cs sl cb ab).d≤4294836225 * 4294836225:=ay mm1 ht.d1 (by have:=ht.d0;omega) (by omega)
  omega
 ·show pD op m sl ab * m * (aZ mode cs sl cb ab).d≤131072 * (m * m * (aZ mode cs sl cb ab).d)
  have hd0:=ht.d0
  generalize (aZ mode cs sl cb ab).d=D at *
  have e1:pD op m sl ab * m * D≤131070 * m * m * D:=ay (ay n1 (Int.le_refl _) (by omega) (by omega)) (Int.le_refl _) (by omega) (ar (by omega) (by omega))
  have e2:131070 * m * m * D=131070 * (m * m * D):=by grind
  have e3:0≤m * m * D:=ar (by omega) (by omega)
  omega
theorem uS (hm:Full m) (hs:Pre cs sl m) (hd:Pre cb ab m):0≤dL op mode m cs sl cb ab:=(lz (kP hm hs hd)).2.2
theorem mE (hm:Full m) (hs:Pre cs sl m) (hd:Pre cb ab m):dL op mode m cs sl cb ab≤dj op sl ab m:=by
 obtain ⟨v0,v1,v2⟩:=AG (op:=op) (mode:=mode) hm hs hd
 refine LZ (kP hm hs hd) hm.pos ?_ ?_
 ·show (dB op mode m cs sl cb ab).p * m≤pD op m sl ab * (m * m * (aZ mode cs sl cb ab).d)
  have:=Int.mul_le_mul_of_nonneg_right v1 (Int.le_of_lt hm.pos)
  grind
 ·have e:pD op m sl ab * (m * m * (aZ mode cs sl cb ab).d) - (dB op mode m cs sl cb ab).p * m=(pD op m sl ab * m * (aZ mode cs sl cb ab).d - (dB op mode m cs sl cb ab).p) * m:=by grind
  show (dB op mode m cs sl cb ab).q * (dB op mode m cs sl cb ab).q * (dB op mode m cs sl cb ab).r * (m * m)≤(pD op m sl ab * (m * m * (aZ mode cs sl cb ab).d) - (dB op mode m cs sl cb ab).p * m) * (pD op m sl ab * (m * m * (aZ mode cs sl cb ab).d) - (dB op mode m cs sl cb ab).p * m)
  rw [e]
  have:=Int.mul_le_mul_of_nonneg_right v2 (uZ m)
  have e2:∀ u:Int,u * m * (u * m)=u * u * (m * m):=fun u=>by grind
  rw [e2];exact this
variable {fs c acc:Int}
def Cy (m fs sl acc ab:Int):Int:=(m - fs) * acc+(fs - sl) * ab+m * sl
theorem zC (hm : Full m) (hs : Pre cs sl m) (hd : Pre cb ab m) (hf : sl ≤ fs) (hfm : fs ≤ m) (hc : 0 ≤ c) (hca : c ≤ acc) :
  0≤(ey mode m cs sl fs c cb ab).p∧(ey mode m cs sl fs c cb ab).p≤Cy m fs sl acc ab * (aZ mode cs sl cb ab).d ∧
   (ey mode m cs sl fs c cb ab).q * (ey mode m cs sl fs c cb ab).q * (ey mode m cs sl fs c cb ab).r ≤
    (Cy m fs sl acc ab * (aZ mode cs sl cb ab).d - (ey mode m cs sl fs c cb ab).p) * (Cy m fs sl acc ab * (aZ mode cs sl cb ab).d - (ey mode m cs sl fs c cb ab).p):=by
 have ht:=kt (mode:=mode) hm hs hd
 obtain ⟨s0,sa,am⟩:=hs
 obtain ⟨d0,db,bm⟩:=hd
 have hp:=hm.pos
 obtain ⟨p0,q0,q1,r0,r1,dd0,dd1,ple,psq⟩:=ht
 unfold ey Cy
 generalize aZ mode cs sl cb ab=t at *
 dsimp only
 have k1:0≤(m - fs) * (acc - c) * t.d:=ar (ar (by omega) (by omega)) (by omega)
 have k2:0≤(fs - sl) * (ab - cb) * t.d:=ar (ar (by omega) (by omega)) (by omega)
 have k3:0≤(m - ab) * (sl - cs) * t.d:=ar (ar (by omega) (by omega)) (by omega)
 have e:((m - fs) * acc+(fs - sl) * ab+m * sl) * t.d - (t.p+((m - fs) * c+(fs - sl) * cb+(m - ab) * cs) * t.d)=(sl * ab * t.d - t.p)+(m - fs) * (acc - c) * t.d+(fs - sl) * (ab - cb) * t.d+(m - ab) * (sl - cs) * t.d:=by grind
 refine ⟨?_,by omega, ?_⟩
 ·exact Int.add_nonneg p0 (ar (Int.add_nonneg (Int.add_nonneg (ar (by omega) hc) (ar (by omega) d0)) (ar (by omega) s0)) (by omega))
 ·rw [e]
  exact Int.le_trans psq (jZ (by omega) (by omega))
theorem Gl (hm:Full m) (h1:0≤sl) (h2:sl≤fs) (h3:fs≤m) (h4:0≤acc) (h5:acc≤m) (h6:0≤ab) (h7:ab≤m):0≤Cy m fs sl acc ab∧Cy m fs sl acc ab≤m * m:=by
 have k1:0≤(m - fs) * (m - acc):=ar (by omega) (by omega)
 have k2:0≤(fs - sl) * (m - ab):=ar (by omega) (by omega)
 have k4:0≤(m - fs) * acc:=ar (by omega) h4
 have k5:0≤(fs - sl) * ab:=ar (by omega) h6
 have k6:0≤m * sl:=ar (by omega) h1
 have e:m * m - ((m - fs) * acc+(fs - sl) * ab+m * sl)=(m - fs) * (m - acc)+(fs - sl) * (m - ab):=by grind
 unfold Cy;omega
theorem pQ (hm:Full m) (hs:Pre cs sl m) (hd:Pre cb ab m) (hf:sl≤fs) (hfm:fs≤m) (hc:0≤c) (hcm:c≤m):ExOk (ey mode m cs sl fs c cb ab):=by
 obtain ⟨v0,v1,v2⟩:=zC (mode:=mode) (acc:=m) hm hs hd hf hfm hc hcm
 have ht:=kt (mode:=mode) hm hs hd
 have hp:=hm.pos
 have hle:=hm.le
 have ⟨n0,n1⟩:=Gl (acc:=m) hm (show 0≤sl by have:=hs.s0;have:=hs.sa;omega) hf hfm (by omega) (Int.le_refl _) (show 0≤ab by have:=hd.s0;have:=hd.sa;omega) hd.am
 refine LO v0 ht.q0 ?_ ht.r0 ?_ ?_ ?_ v1 v2 ?_
 ·have:=ht.q1
  show (aZ mode cs sl cb ab).q<_
  omega
 ·have:=ht.r1
  show (aZ mode cs sl cb ab).r<_
  omega
 ·show 1≤m * (aZ mode cs sl cb ab).d
  have:1 * 1≤m * (aZ mode cs sl cb ab).d:=ay hp ht.d0 (by omega) (by omega)
  omega
 ·show m * (aZ mode cs sl cb ab).d<_
  have:m * (aZ mode cs sl cb ab).d≤65535 * 4294836225:=ay hle ht.d1 (by have:=ht.d0;omega) (by omega)
  omega
 ·show Cy m fs sl m ab * (aZ mode cs sl cb ab).d≤131072 * (m * (aZ mode cs sl cb ab).d)
  have hd0:=ht.d0
  generalize (aZ mode cs sl cb ab).d=D at *
  have e1:Cy m fs sl m ab * D≤65535 * m * D:=ay (Int.le_trans n1 (ay hle (Int.le_refl _) (by omega) (by omega))) (Int.le_refl _) (by omega) (by omega)
  have e2:65535 * m * D=65535 * (m * D):=Int.mul_assoc _ _ _
  have e3:0≤m * D:=ar (by omega) (by omega)
  omega
theorem sS (hm:Full m) (hs:Pre cs sl m) (hd:Pre cb ab m) (hf:sl≤fs) (hfm:fs≤m) (hc:0≤c) (hcm:c≤m):0≤dr mode m cs sl fs c cb ab:=(lz (pQ hm hs hd hf hfm hc hcm)).2.2
theorem mg (hm:Full m) (hs:Pre cs sl m) (hd:Pre cb ab m) (hf:sl≤fs) (hfm:fs≤m) (hc:0≤c) (hca:c≤acc) (ham:acc≤m):dr mode m cs sl fs c cb ab≤dc m sl fs acc ab:=by
 obtain ⟨v0,v1,v2⟩:=zC (mode:=mode) hm hs hd hf hfm hc hca
 refine LZ (pQ hm hs hd hf hfm hc (by omega)) hm.pos ?_ ?_
 ·show (ey mode m cs sl fs c cb ab).p * m≤Cy m fs sl acc ab * (m * (aZ mode cs sl cb ab).d)
  have:=Int.mul_le_mul_of_nonneg_right v1 (Int.le_of_lt hm.pos)
  grind
 ·have e:Cy m fs sl acc ab * (m * (aZ mode cs sl cb ab).d) - (ey mode m cs sl fs c cb ab).p * m=(Cy m fs sl acc ab * (aZ mode cs sl cb ab).d - (ey mode m cs sl fs c cb ab).p) * m:=by grind
  show (ey mode m cs sl fs c cb ab).q * (ey mode m cs sl fs c cb ab).q * (ey mode m cs sl fs c cb ab).r * (m * m)≤(Cy m fs sl acc ab * (m * (aZ mode cs sl cb ab).d) - (ey mode m cs sl fs c cb ab).p * m) * (Cy m fs sl acc ab * (m * (aZ mode cs sl cb ab).d) - (ey mode m cs sl fs c cb ab).p * m)
  rw [e]
  have:=Int.mul_le_mul_of_nonneg_right v2 (uZ m)
  have e2:∀ u:Int,u * m * (u * m)=u * u * (m * m):=fun u=>by grind
  rw [e2];exact this
end
end Go.Proofs.YtmfblbbemekkoaaGreatDoor
namespace Go.Proofs.YtmfblbbemekkoaaGreatDoor
section
variable {op m a b f g:Int}
theorem Ao (hm:Full m) (ha:0≤a) (ham:a≤m) (hb:0≤b) (hbm:b≤m):0≤dj op a b m:=by
 have ⟨a1,a2⟩:=jq (op:=op) ha ham hb hbm
 have ⟨b1,b2⟩:=kv (op:=op) ha ham hb hbm
 exact de hm.pos (Int.add_nonneg (ar a1 ha) (ar b1 hb))
def Ow (op f g m:Int):Int :=
 if op=2∨op=8∨op=11 then m * f else if op=3∨op=9∨op=10 then m * g else if op=4∨op=5∨op=12 then m * f+(m - f) * g
 else if op=6∨op=7 then f * g else 0
theorem nR (hm:Full m):en op f g m=bL (Ow op f g m) m:=by
 unfold en Ow
 repeat' split
 all_goals first|rfl|exact (tV hm.pos).symm|exact (wP hm.pos).symm
theorem OO (hf:0≤f) (hfm:f≤m) (hg:0≤g) (hgm:g≤m):0≤Ow op f g m∧Ow op f g m≤m * m:=by
 have k1:0≤m * f:=ar (by omega) hf
 have k2:0≤m * g:=ar (by omega) hg
 have k3:0≤(m - f) * g:=ar (by omega) hg
 have k4:0≤f * g:=ar hf hg
 have k5:m * f≤m * m:=ay (Int.le_refl _) hfm hf (by omega)
 have k6:m * g≤m * m:=ay (Int.le_refl _) hgm hg (by omega)
 have k7:(m - f) * g≤(m - f) * m:=ay (Int.le_refl _) hgm hg (by omega)
 have k8:f * g≤m * m:=ay hfm hgm hg (by omega)
 have e:(m - f) * m=m * m - m * f:=by grind
 have k9:0≤m * m:=ar (by omega) (by omega)
 unfold Ow
 repeat' split
 all_goals omega
theorem mO (hm:Full m) (hf:0≤f) (hfm:f≤m) (hg:0≤g) (hgm:g≤m):0≤en op f g m∧en op f g m≤m:=by
 rw [nR hm]
 obtain ⟨h1,h2⟩:=OO (op:=op) hf hfm hg hgm
 exact ⟨de hm.pos h1,po hm.pos h2⟩
theorem rh (hm:Full m) (ha:0≤a) (haf:a≤f) (hfm:f≤m) (hb:0≤b) (hbg:b≤g) (hgm:g≤m):dj op a b m≤en op f g m:=by
 rw [nR hm]
 refine il hm.pos ?_
 have k1:m * a≤m * f:=ay (Int.le_refl _) haf ha (by omega)
 have k2:m * b≤m * g:=ay (Int.le_refl _) hbg hb (by omega)
 have k3:0≤a * b:=ar ha hb
 have k4:a * b≤f * g:=ay haf hbg hb (by omega)
 have k5:0≤(m - g) * (f - a):=ar (by omega) (by omega)
 have k6:0≤(m - a) * (g - b):=ar (by omega) (by omega)
 have k7:0≤m * a:=ar (by omega) ha
 have k8:0≤m * b:=ar (by omega) hb
 have k9:0≤(m - b) * (f - a):=ar (by omega) (by omega)
 have k10:0≤(m - f) * (g - b):=ar (by omega) (by omega)
 have e1:(m - g) * (f - a)=m * f - m * a - f * g+a * g:=by grind
 have e2:(m - a) * (g - b)=m * g - m * b - a * g+a * b:=by grind
 have e3:(m - b) * a=m * a - a * b:=by grind
 have e4:(m - a) * b=m * b - a * b:=by grind
 have e5:(m - f) * g=m * g - f * g:=by grind
 have e6:b * a=a * b:=Int.mul_comm _ _
 unfold Ow iT kE
 by_cases h1:op=1∨op=2∨op=3∨op=4∨op=5∨op=6∨op=7∨op=8∨op=9∨op=10∨op=11∨op=12
 ·rcases h1 with rfl|rfl|rfl|rfl|rfl|rfl|rfl|rfl|rfl|rfl|rfl|rfl <;> simp only [Int.reduceEq,or_self,or_true,true_or,or_false,false_or,if_true,if_false,Int.zero_mul,Int.add_zero,Int.zero_add] <;> omega
 ·repeat rw [if_neg (by omega)]
  omega
theorem mv (hm:Full m) (ha:0≤a) (ham:a≤m) (hb:0≤b) (hbm:b≤m):dj op a b m≤m :=
 Int.le_trans (rh hm ha (Int.le_refl _) ham hb (Int.le_refl _) hbm) (mO hm ha ham hb hbm).2
theorem Du {a b b':Int} (hm:Full m) (ha:0≤a) (ham:a≤m) (h:b≤b'):dj 4 a b m≤dj 4 a b' m:=by
 refine il hm.pos ?_
 rw [show iT 4 a b m=m from rfl,show kE 4 a b m=m - a from rfl,show iT 4 a b' m=m from rfl,show kE 4 a b' m=m - a from rfl]
 have:=Int.mul_le_mul_of_nonneg_left h (show 0≤m - a by omega)
 omega
end
section
variable {m a f acc acc' b:Int}
theorem jv (hm:Full m) (ha:0≤a) (haf:a≤f) (hfm:f≤m) (h1:0≤acc) (h2:acc≤m) (h3:0≤b) (h4:b≤m):0≤dc m a f acc b∧dc m a f acc b≤m:=by
 have ⟨n0,n1⟩:=Gl (fs:=f) (sl:=a) (acc:=acc) (ab:=b) hm ha haf hfm h1 h2 h3 h4
 exact ⟨de hm.pos n0,po hm.pos n1⟩
theorem zG {b':Int} (hm:Full m) (haf:a≤f) (hfm:f≤m) (h:acc≤acc') (hb:b≤b'):dc m a f acc b≤dc m a f acc' b':=by
 refine il hm.pos ?_
 have h1:=Int.mul_le_mul_of_nonneg_left h (show 0≤m - f by omega)
 have h2:=Int.mul_le_mul_of_nonneg_left hb (show 0≤f - a by omega)
 omega
theorem yu {g:Int} (hm:Full m) (ha:0≤a) (haf:a≤f) (hfm:f≤m) (h1:0≤acc) (hg:acc≤g) (hgm:g≤m):dc m a f acc 0≤en 4 f g m:=by
 rw [nR hm]
 refine il hm.pos ?_
 rw [show Ow 4 f g m=m * f+(m - f) * g from rfl]
 have h2:=Int.mul_le_mul_of_nonneg_left hg (show 0≤m - f by omega)
 have h3:=Int.mul_le_mul_of_nonneg_left haf (show 0≤m by omega)
 omega
end
structure Acc where
 c0:Int
 c1:Int
 c2:Int
 a:Int
 own:Int
 f:Int
 deriving DecidableEq,Inhabited
structure PixV (p:Pixel) (m:Int):Prop where
 n0:0≤p.c0
 n1:0≤p.c1
 n2:0≤p.c2
 l0:p.c0≤p.a
 l1:p.c1≤p.a
 l2:p.c2≤p.a
 af:p.a≤p.f
 fm:p.f≤m
structure AccV (x:Acc) (b:Pixel) (m:Int):Prop where
 n0:0≤x.c0
 n1:0≤x.c1
 n2:0≤x.c2
 l0:x.c0≤x.a
 l1:x.c1≤x.a
 l2:x.c2≤x.a
 o0:0≤x.own
 oa:x.own≤x.a
 of:x.own≤x.f
 am:x.a≤m
 fm:x.f≤m
 bk:PixV b m
 bf:b.f=b.a
theorem PixV.a0 {p:Pixel} {m:Int} (h:PixV p m):0≤p.a:=Int.le_trans h.n0 h.l0
theorem PixV.am {p:Pixel} {m:Int} (h:PixV p m):p.a≤m:=Int.le_trans h.af h.fm
theorem PixV.f0 {p:Pixel} {m:Int} (h:PixV p m):0≤p.f:=Int.le_trans h.a0 h.af
theorem AccV.a0 {x:Acc} {b:Pixel} {m:Int} (h:AccV x b m):0≤x.a:=Int.le_trans h.n0 h.l0
theorem AccV.f0 {x:Acc} {b:Pixel} {m:Int} (h:AccV x b m):0≤x.f:=Int.le_trans h.o0 h.of
theorem AccV.om {x:Acc} {b:Pixel} {m:Int} (h:AccV x b m):x.own≤m:=Int.le_trans h.oa h.am
def aI:Pixel:=⟨0,0,0,0,0⟩
def BJ:Acc:=⟨0,0,0,0,0,0⟩
theorem tB {m:Int} (hm:Full m):PixV aI m:=by
 have:=hm.pos
 constructor <;> simp only [aI] <;> omega
theorem Mx {m:Int} (hm:Full m):AccV BJ aI m:=by
 have:=hm.pos
 refine ⟨?_, ?_, ?_, ?_, ?_, ?_, ?_, ?_, ?_, ?_, ?_,tB hm,rfl⟩ <;> simp only [BJ] <;> omega
def fu (isolated knockout:Bool) (outer:Acc) (back:Pixel):Pixel :=
 if isolated=true then aI else if knockout=true then back else ⟨outer.c0,outer.c1,outer.c2,outer.a,outer.a⟩
def zN (b:Pixel):Acc:=⟨b.c0,b.c1,b.c2,b.a,0,0⟩
def dH (ko:Bool) (op mode m:Int) (s:Pixel) (x:Acc) (b:Pixel):Acc :=
 if ko=true then ⟨dr mode m s.c0 s.a s.f x.c0 b.c0 b.a,dr mode m s.c1 s.a s.f x.c1 b.c1 b.a,dr mode m s.c2 s.a s.f x.c2 b.c2 b.a,dc m s.a s.f x.a b.a,dc m s.a s.f x.own 0,en op s.f x.f m⟩
 else ⟨dL op mode m s.c0 s.a x.c0 x.a,dL op mode m s.c1 s.a x.c1 x.a,dL op mode m s.c2 s.a x.c2 x.a,dj op s.a x.a m,dj op s.a x.own m,en op s.f x.f m⟩
def iK (c k own m:Int):Int:=if (m - own) * k<m * c then min (bL (m * c - (m - own) * k) m) own else 0
def aU (x:Acc) (b:Pixel) (m:Int):Pixel:=⟨iK x.c0 b.c0 x.own m,iK x.c1 b.c1 x.own m,iK x.c2 b.c2 x.own m,x.own,x.f⟩
def aL (p:Pixel) (k m:Int):Pixel:=⟨bL (p.c0 * k) m,bL (p.c1 * k) m,bL (p.c2 * k) m,bL (p.a * k) m,bL (p.f * k) m⟩
theorem Jv {i k:Bool} {x:Acc} {b:Pixel} {m:Int} (hm:Full m) (h:AccV x b m):PixV (fu i k x b) m∧(fu i k x b).f=(fu i k x b).a:=by
 have hp:=hm.pos
 unfold fu
 split
 ·exact ⟨tB hm,rfl⟩
 split
 ·exact ⟨h.bk,h.bf⟩
 ·exact ⟨⟨h.n0,h.n1,h.n2,h.l0,h.l1,h.l2,Int.le_refl _,h.am⟩,rfl⟩
theorem Jb {b:Pixel} {m:Int} (h:PixV b m) (hf:b.f=b.a):AccV (zN b) b m :=
 ⟨h.n0,h.n1,h.n2,h.l0,h.l1,h.l2,Int.le_refl _,h.a0,Int.le_refl _,h.am,Int.le_trans h.f0 h.fm,h,hf⟩
theorem gP {p:Pixel} {k m:Int} (hm:Full m) (h:PixV p m) (hk:0≤k) (hkm:k≤m):PixV (aL p k m) m:=by
 have mono:∀ {x y:Int},x≤y→bL (x * k) m≤bL (y * k) m:=fun q=>il hm.pos (Int.mul_le_mul_of_nonneg_right q hk)
 refine ⟨de hm.pos (ar h.n0 hk),de hm.pos (ar h.n1 hk),de hm.pos (ar h.n2 hk),mono h.l0,mono h.l1,mono h.l2,mono h.af,po hm.pos ?_⟩
 rw [Int.mul_comm m m]
 exact ay h.fm hkm hk (Int.le_of_lt hm.pos)
theorem gr {p:Pixel} {m:Int} (hm:Full m):aL p m m=p:=by
 have e:∀ x:Int,bL (x * m) m=x:=fun x=>by rw [Int.mul_comm,tV hm.pos]
 simp only [aL,e]
theorem fW {x:Acc} {b:Pixel} {m:Int} (hm:Full m) (h:AccV x b m):PixV (aU x b m) m:=by
 have c0:∀ {c k:Int},0≤iK c k x.own m:=fun {c k}=>by
  unfold iK
  split
  ·have:=de (n:=m * c - (m - x.own) * k) hm.pos (by omega)
   have:=h.o0
   omega
  ·exact Int.le_refl _
 have c1:∀ {c k:Int},iK c k x.own m≤x.own:=fun {c k}=>by
  unfold iK
  split
  ·exact Int.min_le_right _ _
  ·exact h.o0
 exact ⟨c0,c0,c0,c1,c1,c1,h.of,h.fm⟩
theorem Nn {ko:Bool} {op mode m:Int} {s:Pixel} {x:Acc} {b:Pixel} (hm:Full m) (hs:PixV s m) (h:AccV x b m) (hop:op=4∨ko=false∧x.own=x.a):AccV (dH ko op mode m s x b) b m:=by
 have b0:=h.bk
 unfold dH
 split
 ·rename_i hk
  have h4:op=4:=hop.elim id fun q=>by rw [hk] at q;cases q.1
  subst h4
  have kb:=jv (a:=s.a) (f:=s.f) (acc:=x.a) (b:=b.a) hm hs.a0 hs.af hs.fm h.a0 h.am b0.a0 b0.am
  have ko':=jv (a:=s.a) (f:=s.f) (acc:=x.own) (b:=0) hm hs.a0 hs.af hs.fm h.o0 h.om (Int.le_refl _) (Int.le_of_lt hm.pos)
  have p0:Pre s.c0 s.a m:=⟨hs.n0,hs.l0,hs.am⟩
  have p1:Pre s.c1 s.a m:=⟨hs.n1,hs.l1,hs.am⟩
  have p2:Pre s.c2 s.a m:=⟨hs.n2,hs.l2,hs.am⟩
  have d0:Pre b.c0 b.a m:=⟨b0.n0,b0.l0,b0.am⟩
  have d1:Pre b.c1 b.a m:=⟨b0.n1,b0.l1,b0.am⟩
  have d2:Pre b.c2 b.a m:=⟨b0.n2,b0.l2,b0.am⟩
  have t0:=h.l0
  have t1:=h.l1
  have t2:=h.l2
  have t3:=h.am
  have sh:=(mO (op:=4) hm hs.f0 hs.fm h.f0 h.fm).2
  exact ⟨sS hm p0 d0 hs.af hs.fm h.n0 (by omega),sS hm p1 d1 hs.af hs.fm h.n1 (by omega),sS hm p2 d2 hs.af hs.fm h.n2 (by omega),
   mg hm p0 d0 hs.af hs.fm h.n0 t0 t3,mg hm p1 d1 hs.af hs.fm h.n1 t1 t3,mg hm p2 d2 hs.af hs.fm h.n2 t2 t3,ko'.1,
   zG hm hs.af hs.fm h.oa b0.a0,yu hm hs.a0 hs.af hs.fm h.o0 h.of h.fm,kb.2,sh,b0,h.bf⟩
 ·have p0:Pre s.c0 s.a m:=⟨hs.n0,hs.l0,hs.am⟩
  have p1:Pre s.c1 s.a m:=⟨hs.n1,hs.l1,hs.am⟩
  have p2:Pre s.c2 s.a m:=⟨hs.n2,hs.l2,hs.am⟩
  have d0:Pre x.c0 x.a m:=⟨h.n0,h.l0,h.am⟩
  have d1:Pre x.c1 x.a m:=⟨h.n1,h.l1,h.am⟩
  have d2:Pre x.c2 x.a m:=⟨h.n2,h.l2,h.am⟩
  have hoa:dj op s.a x.own m≤dj op s.a x.a m:=by
   rcases hop with rfl|⟨_,q⟩
   ·exact Du hm hs.a0 hs.am h.oa
   ·rw [q];exact Int.le_refl _
  have sh:=(mO (op:=op) hm hs.f0 hs.fm h.f0 h.fm).2
  exact ⟨uS hm p0 d0,uS hm p1 d1,uS hm p2 d2,mE hm p0 d0,mE hm p1 d1,mE hm p2 d2,Ao hm hs.a0 hs.am h.o0 h.om,hoa,
   rh hm hs.a0 hs.af hs.fm h.o0 h.of h.fm,mv hm hs.a0 hs.am h.a0 h.am,sh,b0,h.bf⟩
theorem Gu {ko:Bool} {op mode m:Int} {s:Pixel} {x:Acc} {b:Pixel} (hb:b.a=0) (h:x.own=x.a):(dH ko op mode m s x b).own=(dH ko op mode m s x b).a:=by
 unfold dH
 split
 ·show dc m s.a s.f x.own 0=dc m s.a s.f x.a b.a
  rw [h,hb]
 ·show dj op s.a x.own m=dj op s.a x.a m
  rw [h]
end Go.Proofs.YtmfblbbemekkoaaGreatDoor
