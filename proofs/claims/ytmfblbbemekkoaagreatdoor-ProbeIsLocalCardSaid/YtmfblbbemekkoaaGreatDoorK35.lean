/- Part of the proof: VD, P6, Y3, Z3, VH, P3, LP. -/
import Derived.Test.YtmfblbbemekkoaaGreatDoorK33
set_option linter.unusedSimpArgs false
set_option linter.unusedVariables false
set_option maxHeartbeats 4000000
set_option maxRecDepth 16000
namespace Go.Proofs.YtmfblbbemekkoaaGreatDoor
open Go Go.SL
open Go.RowKit (wrap64)
attribute [local go_sem] Int.toNat_natCast
def vU (r:Rect) (x y:Int):Bool := !bM r && decide (r.x0≤x) && decide (x<r.x1) && decide (r.y0≤y) && decide (y<r.y1)
theorem zK {r:Rect} {x y:Int}:vU r x y=true↔ON r x y:=by
 unfold vU ON MM
 simp only [Bool.and_eq_true,Bool.not_eq_true',decide_eq_true_eq,and_assoc]
def EI (r:Rect) (x:Int):Int:=r.x0+x % (r.x1 - r.x0)
def Dn (r:Rect) (y:Int):Int:=r.y0+y % (r.y1 - r.y0)
theorem Fs (r:Rect) (x y:Int) (hr:Small r):aD Sg 22 [ag (fk r),I x,I y] (fun q=>q = .tup [I (EI r x),I (Dn r y)]):=by
 have ht:True:=trivial
 obtain ⟨x0,x1,y0,y1,hw,hh⟩:=hr
 have h1:=cl x (r.x1 - r.x0) (by omega) (by omega)
 have h2:=cl y (r.y1 - r.y0) (by omega) (by omega)
 have a1:=Int.emod_nonneg x (show r.x1 - r.x0≠0 by omega)
 have a2:=Int.emod_lt_of_pos x (show 0<r.x1 - r.x0 by omega)
 have a3:=Int.emod_nonneg y (show r.y1 - r.y0≠0 by omega)
 have a4:=Int.emod_lt_of_pos y (show 0<r.y1 - r.y0 by omega)
 unfold EI Dn
 generalize x % (r.x1 - r.x0)=a at *
 generalize y % (r.y1 - r.y0)=b at *
 refine aC Tryz.func22 [.tmp 6, .tmp 7] ?_
 repeat' (first|with_reducible exact cn|((first|refine ai (fun K hK => ?_)|refine ae (h1) ?_|refine ae (h2) ?_);and_intros;all_goals first|(refine hK _ ?_;clear hK K)|try exact aa)|(refine an ?_;(try clear hB KB);(try clear hK K)))
theorem Jm {r:Rect} (hr:Small r) (x y:Int):MM r (EI r x) (Dn r y):=by
 obtain ⟨x0,x1,y0,y1,hw,hh⟩:=hr
 have a1:=Int.emod_nonneg x (show r.x1 - r.x0≠0 by omega)
 have a2:=Int.emod_lt_of_pos x (show 0<r.x1 - r.x0 by omega)
 have a3:=Int.emod_nonneg y (show r.y1 - r.y0≠0 by omega)
 have a4:=Int.emod_lt_of_pos y (show 0<r.y1 - r.y0 by omega)
 unfold EI Dn MM
 omega
end Go.Proofs.YtmfblbbemekkoaaGreatDoor
namespace Go.Proofs.YtmfblbbemekkoaaGreatDoor
open Go Go.SL
open Go.RowKit (wrap64)
structure EvOk (s:Script):Prop where
 len:ScriptLen s
 op:∀ o ∈ s.ops,0≤o.opacity
 im:bS s=0→∀ m ∈ s.images,Fx m (bz s.bits)∧EB m
def fw (s:Script) (x y:Int):Int:=if (gi s).1≠0 then (gi s).1 else if vU s.canvas x y=false then 20 else 0
def mQ (s:Script) (x y:Int):Pixel:=if fw s x y=0 then dF s x y else aG
def gC (s:Script) (x y:Int):List Mic:=if fw s x y=0 then cW (bz s.bits) (bI s x y) s.ops s.ops.length else []
theorem sr {s:Script} (h:bS s=0):(s.bits=8∨s.bits=16)∧bM s.canvas=false:=by
 unfold bS at h
 split at h
 ·cases h
 split at h
 ·cases h
 rename_i h1 h2
 refine ⟨Decidable.not_not.1 h1, ?_⟩
 cases he:bM s.canvas with
 | false=>rfl
 | true=>exact absurd (.inl he) h2
theorem qC {s:Script} (h:bS s=0):Full (bz s.bits):=by
 obtain ⟨h1,_⟩:=sr h
 rcases h1 with h1|h1 <;> rw [h1]
 ·exact ⟨.inl rfl⟩
 ·exact ⟨.inr rfl⟩
theorem EvOk.pt {s:Script} (E:EvOk s) {x y:Int} (h:fw s x y=0):Pt s (bz s.bits) x y:=by
 unfold fw at h
 split at h
 ·rename_i q;exact absurd h q
 rename_i q
 rw [Decidable.not_not] at q
 split at h
 ·cases h
 rename_i hc
 have hf:bS s=0:=by
  refine Decidable.byContradiction fun hf => ?_
  unfold gi at q
  rw [if_pos hf] at q
  exact hf q
 obtain ⟨_,V,I,_⟩:=xR (E.im hf) q
 have hc:vU s.canvas x y=true:=by simpa using hc
 exact ⟨V,qC hf,rfl,I,E.op,(sr hf).2,(zK.1 hc).2⟩
theorem wV {s:Script} {m x y:Int} (C:Pt s m x y):fw s x y=0∧mQ s x y=dF s x y∧gC s x y=cW m (bI s x y) s.ops s.ops.length:=by
 have h:fw s x y=0:=by
  unfold fw
  rw [AB C.V C.im,if_neg (by decide)]
  rw [zK.2 ⟨C.c,C.xy⟩,if_neg (by decide)]
 refine ⟨h, ?_, ?_⟩
 ·unfold mQ;rw [if_pos h]
 ·unfold gC;rw [if_pos h,C.mx]
end Go.Proofs.YtmfblbbemekkoaaGreatDoor
set_option maxHeartbeats 4000000
set_option maxRecDepth 16000
namespace Go.Proofs.YtmfblbbemekkoaaGreatDoor
open Go Go.SL
open Go.RowKit (wrap64)
theorem yK (m:Image) (mx:Int) (hm:Full mx) (h:Fx m mx):aD Sg 122 [ag (aY m),U mx] (fun r=>r = .b (I (dE m mx))):=by
 cases hf:aW m with
 | false=>exact yF m mx hf
 | true =>
  cases hs:m.solid with
  | true=>exact vM m mx hs hf
  | false =>
   rcases h with h|h|h
   ·rw [wT h];exact yU m mx hm hs h
   ·rw [hf] at h;cases h
   ·rw [hs] at h;cases h
theorem yr (s:Script) (hs:ScriptLen s) (hT:bS s=0→Full (bz s.bits)∧∀ m ∈ s.images,Fx m (bz s.bits)):aD Sg 75 [ag (aM s)] (fun r=>r = .tup [I (gi s).1,I (gi s).2]):=by
 have h1:=rh s hs
 have h2:=AZ s hs
 have h3:aD Sg 103 [I s.bits] (fun x=>x = .tup [U (bz s.bits),B (decide (s.bits=8∨s.bits=16))]):=dN s.bits
 unfold gi
 by_cases hf:bS s=0
 ·obtain ⟨hm,hi⟩:=hT hf
  rw [if_neg (by rw [Decidable.not_not];exact hf)]
  rw [hf] at h1
  have ht:True:=trivial
  obtain ⟨R,hR⟩:∃ R,(if (ec (bz s.bits) 0 s.images).1≠0 then ec (bz s.bits) 0 s.images else lU s)=R:=⟨_,rfl⟩
  rw [hR]
  refine aC Tryz.func75 [.tmp 2, .tmp 3] ?_
  repeat' (first|refine aj ht ?_|refine ak ?_|((first|refine ai (fun K hK => ?_)|refine ae (h1) ?_|refine ae (h3) ?_);and_intros;all_goals first|(refine hK _ ?_;clear hK K)|try exact aa))
  refine aS (X:=Nat) (fun i=>aZ [(1, .b (.c (.ptr 0 0))),(5, .b (U (bz s.bits))),(22, .b (.c (.p (uO s.images)))),(23, .b (I s.images.length)),(24, .b (I i))] [(0, .fix ((aM s).map CV.p))] 1) (fun i=>i≤s.images.length∧ec (bz s.bits) 0 s.images=ec (bz s.bits) i (s.images.drop i)) (fun i=>s.images.length - i) 0 ?_ ?_ ?_
  ·exact ⟨Nat.zero_le _,by rw [List.drop_zero]⟩
  ·refine ay [] ?_ ?_
   and_intros
   all_goals first|exact ao|skip
  ·rintro i ⟨hil,hgo⟩
   have hlen:=hs.images
   rcases Nat.lt_or_ge i s.images.length with h|h
   ·rw [xQ h] at hgo
    have hmem:s.images.getD i default ∈ s.images:=by
     rw [List.getD_eq_getElem?_getD,List.getElem?_eq_getElem h]
     exact List.getElem_mem _
    have hv:=yK (s.images.getD i default) (bz s.bits) hm (hi _ hmem)
    by_cases h0:dE (s.images.getD i default) (bz s.bits)=0
    ·rw [if_pos h0] at hgo
     rw [h0] at hv
     repeat' (first|refine aj ht ?_|refine ak ?_|((first|refine ai (fun K hK => ?_)|refine ae (hv) ?_);and_intros;all_goals first|(refine hK _ ?_;clear hK K)|try exact aa)|(refine bc (fun hb => ?_) (fun hb => ?_);all_goals try exact aJ))
     rw [ah]
     refine au (i+1) ?_ ⟨by omega,hgo⟩ (by omega)
     refine ay [] ?_ ?_
     and_intros
     all_goals first|exact ao|skip
    ·rw [if_neg h0] at hgo
     have g0:(dE (s.images.getD i default) (bz s.bits) != 0)=true:=by rw [bne_iff_ne];exact h0
     have hR2:R=(dE (s.images.getD i default) (bz s.bits),(i:Int)):=by rw [← hR,hgo,if_pos h0]
     rw [hR2]
     repeat' (first|with_reducible exact cn|refine aj g0 ?_|refine ak ?_|((first|refine ai (fun K hK => ?_)|refine ae (hv) ?_);and_intros;all_goals first|(refine hK _ ?_;clear hK K)|try exact aa)|(refine bc (fun hb => ?_) (fun hb => ?_);all_goals try exact aJ)|(refine an ?_;(try clear hB KB);(try clear hK K)))
   ·have e:s.images.drop i=[]:=List.drop_eq_nil_of_le h
    rw [e] at hgo
    have hR2:R=lU s:=by rw [← hR,hgo,if_neg (by simp [ec])]
    rw [← hR2] at h2
    repeat' (first|with_reducible exact cn|refine ak ?_|((first|refine ai (fun K hK => ?_)|refine ae (h2) ?_);and_intros;all_goals first|(refine hK _ ?_;clear hK K)|try exact aa)|(refine bc (fun hb => ?_) (fun hb => ?_);all_goals try exact aJ)|(refine an ?_;(try clear hB KB);(try clear hK K)))
 ·rw [if_pos hf]
  have g0:(bS s != 0)=true:=by rw [bne_iff_ne];exact hf
  refine aC Tryz.func75 [.tmp 2, .tmp 3] ?_
  repeat' (first|with_reducible exact cn|refine aj g0 ?_|refine ak ?_|((first|refine ai (fun K hK => ?_)|refine ae (h1) ?_);and_intros;all_goals first|(refine hK _ ?_;clear hK K)|try exact aa)|(refine an ?_;(try clear hB KB);(try clear hK K)))
theorem uH (r:Rect) (x y:Int):aD Sg 102 [ag (fk r),I x,I y] (fun q=>q = .b (B (vU r x y))):=by
 have ht:True:=trivial
 have h1:=iH r
 refine aC Tryz.func102 [.tmp 6] ?_
 repeat' (first|((first|refine ai (fun K hK => ?_)|refine ae (h1) ?_);and_intros;all_goals first|(refine hK _ ?_;clear hK K)|try exact aa)|(refine an ?_;(try clear hB KB);(try clear hK K)))
 first|rfl|(unfold vU;rfl)|(refine congrArg (fun v=>SV.b (B v)) ?_;unfold vU;simp)
theorem tc (s:Script) (x y:Int) (E:EvOk s):aD Sg 61 [ag (aM s),I x,I y] (fun r=>r = .b (I (fw s x y))):=by
 have ht:True:=trivial
 have h1:=yr s E.len (fun h=>⟨qC h,fun m hm=>(E.im h m hm).1⟩)
 have h2:=uH s.canvas x y
 unfold fw
 by_cases hc:(gi s).1=0
 ·rw [if_neg (by rw [Decidable.not_not];exact hc)]
  rw [hc] at h1
  cases hk:vU s.canvas x y
  ·rw [if_pos rfl]
   rw [hk] at h2
   refine aC Tryz.func61 [.tmp 6] ?_
   repeat' (first|with_reducible exact cn|refine aj ht ?_|refine ak ?_|((first|refine ai (fun K hK => ?_)|refine ae (h1) ?_|refine ae (h2) ?_);and_intros;all_goals first|(refine hK _ ?_;clear hK K)|try exact aa)|(refine an ?_;(try clear hB KB);(try clear hK K)))
  ·rw [if_neg (by decide)]
   rw [hk] at h2
   refine aC Tryz.func61 [.tmp 6] ?_
   repeat' (first|with_reducible exact cn|refine aj ht ?_|refine ak ?_|((first|refine ai (fun K hK => ?_)|refine ae (h1) ?_|refine ae (h2) ?_);and_intros;all_goals first|(refine hK _ ?_;clear hK K)|try exact aa)|(refine an ?_;(try clear hB KB);(try clear hK K)))
 ·rw [if_pos hc]
  have g0:((gi s).1 != 0)=true:=by rw [bne_iff_ne];exact hc
  refine aC Tryz.func61 [.tmp 6] ?_
  repeat' (first|with_reducible exact cn|refine aj g0 ?_|refine ak ?_|((first|refine ai (fun K hK => ?_)|refine ae (h1) ?_);and_intros;all_goals first|(refine hK _ ?_;clear hK K)|try exact aa)|(refine an ?_;(try clear hB KB);(try clear hK K)))
end Go.Proofs.YtmfblbbemekkoaaGreatDoor
set_option maxHeartbeats 4000000
set_option maxRecDepth 16000
namespace Go.Proofs.YtmfblbbemekkoaaGreatDoor
open Go Go.SL
open Go.RowKit (wrap64)
theorem mT (s:Script) (x y:Int) (E:EvOk s) (hx:i64 x) (hy:i64 y):aD Sg 24 [ag (aM s),I x,I y] (fun r=>r = .tup [ag (aH (mQ s x y)),I (fw s x y)]):=by
 have ht:True:=trivial
 have h1:=tc s x y E
 by_cases h0:fw s x y=0
 ·have h2:=CU s x y _ (E.pt h0) E.len hx hy
  have e2:mQ s x y=dF s x y:=by unfold mQ;rw [if_pos h0]
  rw [e2]
  rw [h0] at h1 ⊢
  unfold fM at h2
  generalize dF s x y=q at *
  refine aC Tryz.func24 [.cell 6 41, .tmp 7] ?_
  repeat' (first|refine aj ht ?_|refine ak ?_|((first|refine ai (fun K hK => ?_)|refine ae (h1) ?_|refine ae (h2) ?_);and_intros;all_goals first|(refine hK _ ?_;clear hK K)|try exact aa)|(refine an ?_;(try clear hB KB);(try clear hK K)))
  all_goals (try rfl)
 ·have e2:mQ s x y=aG:=by unfold mQ;rw [if_neg h0]
  have g0:(fw s x y != 0)=true:=by rw [bne_iff_ne];exact h0
  rw [e2]
  refine aC Tryz.func24 [.cell 6 41, .tmp 7] ?_
  repeat' (first|refine aj g0 ?_|refine ak ?_|((first|refine ai (fun K hK => ?_)|refine ae (h1) ?_);and_intros;all_goals first|(refine hK _ ?_;clear hK K)|try exact aa)|(refine an ?_;(try clear hB KB);(try clear hK K)))
  all_goals (try rfl)
end Go.Proofs.YtmfblbbemekkoaaGreatDoor
set_option maxHeartbeats 4000000
set_option maxRecDepth 16000
namespace Go.Proofs.YtmfblbbemekkoaaGreatDoor
open Go Go.SL
open Go.RowKit (wrap64)
attribute [local go_sem] Int.toNat_natCast
def Kp (m:Image) (a:Nat):Pixel:=eG m ((a % m.w.toNat:Nat):Int) ((a / m.w.toNat:Nat):Int)
def sQ (m:Image) (n:Nat):List Pixel:=(List.range n).map (Kp m)
theorem zu {m:Image} {n:Nat}:(sQ m n).length=n:=by simp [sQ]
theorem FB {m:Image} {n:Nat}:sQ m (n+1)=sQ m n ++ [Kp m n]:=by simp [sQ,List.range_succ]
theorem Fj {m:Image} {n a:Nat} (h:a<n):(sQ m n).getD a default=Kp m a:=by simp [sQ,h]
theorem Dl {m:Image} {W a k:Nat} (hW:m.w.toNat=W) (hk:k<W):Kp m (a * W+k)=eG m k a:=by
 unfold Kp
 rw [hW,Nat.mul_comm a W,Nat.mul_add_mod,Nat.mod_eq_of_lt hk,Nat.mul_add_div (by omega),Nat.div_eq_of_lt hk,Nat.add_zero]
section
variable {W x0 y0 rw:Nat} {l o:List Pixel}
end
section
variable {m:Image} {r:Rect} {l:List Pixel}
theorem jy (hf:aW m=true):bU m.w m.h=true∧1≤m.w∧1≤m.h∧m.w≤16777216∧m.h≤16777216∧((m.h.toNat * m.w.toNat:Nat):Int)=m.w * m.h∧m.h.toNat * m.w.toNat≤16777216:=by
 have:bU m.w m.h=true:=by
  unfold aW at hf
  rw [Bool.and_eq_true] at hf;exact hf.1
 obtain ⟨a,b,c,d,e,f⟩:=cS this
 have h1:((m.h.toNat * m.w.toNat:Nat):Int)=m.w * m.h:=by
  rw [Int.natCast_mul,Int.toNat_of_nonneg (by omega),Int.toNat_of_nonneg (by omega),Int.mul_comm]
 exact ⟨this,a,b,e,f,h1,by omega⟩
end
theorem xB (m:Image) (hf:aW m=true):kj Sg 33 [ag (aY m)] 41 5 (m.h.toNat * m.w.toNat) (bd aH (sQ m (m.h.toNat * m.w.toNat))):=by
 have ht:True:=trivial
 obtain ⟨hfit,b1,b2,b3,b4,b5,hb⟩:=jy hf
 have hF:=vp m
 rw [hf] at hF
 obtain ⟨W,hW⟩:∃ W:Nat,m.w=W:=⟨m.w.toNat,by omega⟩
 obtain ⟨H,hH⟩:∃ H:Nat,m.h=H:=⟨m.h.toNat,by omega⟩
 have hp:∀ a k,a<H→k<W→aD Sg 71 [ag (aY m),I (k:Nat),I (a:Nat)] (fun r=>r = .b (ag (aH (Kp m (a * W+k))))):=fun a k ha hk=>by
  rw [Dl (by omega) hk]
  exact EY m k a hf (by omega) (by omega) (by omega) (by omega)
 rw [show m.w.toNat=W by omega,show m.h.toNat=H by omega] at hb ⊢
 have hle:∀ a,a≤H→a * W≤16777216:=fun a ha=>Nat.le_trans (Nat.mul_le_mul ha (Nat.le_refl W)) hb
 refine EJ Tryz.func33 rfl (rs:=[.tmp 2]) rfl rfl dZ (by decide +kernel) (Nat.le_of_ble_eq_true rfl) (bL (by simp (maxSteps:=999999)(disch:=omega) only [go_sem])) ?_
 repeat' (first|refine aj ht ?_|refine ak ?_|((first|refine ai (fun K hK => ?_)|refine ae (hF) ?_);and_intros;all_goals first|(refine hK _ ?_;clear hK K)|try exact aa))
 refine aS (X:=Nat) (fun a=>aZ [(1, .b (.c (.ptr 0 0))),(3, .b (.c (.own 1 (a * W)))),(4, .b (I a))] [(0, .fix ((aY m).map CV.p)),(1, .arr 41 5 (a * W) (bd aH (sQ m (a * W))))] 2) (fun a=>a≤H) (fun a=>H - a) 0 ?_ ?_ ?_
 ·exact Nat.zero_le _
 ·refine ay [(1,none)] ?_ ?_
  and_intros
  all_goals first|exact ao|skip
 intro a haH
 rcases Nat.lt_or_ge a H with ha|ha
 ·have g1:decide ((a:Int)<m.h)=true:=decide_eq_true (by omega)
  repeat' (first|refine aj g1 ?_|refine ak ?_|(refine ai (fun K hK => ?_);and_intros;all_goals first|(refine hK _ ?_;clear hK K)|try exact aa))
  refine aS (X:=Nat) (fun k=>aZ [(1, .b (.c (.ptr 0 0))),(3, .b (.c (.own 1 (a * W+k)))),(4, .b (I a)),(5, .b (I k))] [(0, .fix ((aY m).map CV.p)),(1, .arr 41 5 (a * W+k) (bd aH (sQ m (a * W+k))))] 2) (fun k=>k≤W) (fun k=>W - k) 0 ?_ ?_ ?_
  ·exact Nat.zero_le _
  ·refine ay [(1,some 1)] ?_ ?_
   and_intros
   all_goals first|exact ao|skip
  intro k hkW
  have hb1:=hle (a+1) (by omega)
  rw [Nat.succ_mul] at hb1
  rcases Nat.lt_or_ge k W with hk|hk
  ·have g2:decide ((k:Int)<m.w)=true:=decide_eq_true (by omega)
   have hv:=hp a k ha hk
   generalize hq:Kp m (a * W+k)=q at *
   repeat' (first|refine aj g2 ?_|refine ak ?_|((first|refine ai (fun K hK => ?_)|refine ae (hv) ?_);and_intros;all_goals first|(refine hK _ ?_;clear hK K)|try exact aa))
   rw [ah]
   refine au (k+1) ?_ (by omega) (by omega)
   have key:=fun g hg=>dC (enc:=aH) (xs:=sQ m (a * W+k)) (x:=q) (s:=5) (g:=g) hg
   simp only [zu] at key
   have e:sQ m (a * W+(k+1))=sQ m (a * W+k) ++ [q]:=by rw [← hq];exact FB
   refine ay [(1,some 3)] ?_ ?_
   and_intros
   all_goals first|exact ao|skip
   ·refine .inr fun i hi j hj => ?_
    rw [e]
    refine key _ (fun j hj => ?_) i hi j hj
    have:j=0∨j=1∨j=2∨j=3∨j=4:=by omega
    rcases this with rfl|rfl|rfl|rfl|rfl <;> rfl
  ·have g2:decide ((k:Int)<m.w)=false:=decide_eq_false (by omega)
   repeat' (first|refine aj g2 ?_|refine ak ?_|(refine ai (fun K hK => ?_);and_intros;all_goals first|(refine hK _ ?_;clear hK K)|try exact aa))
   rw [ah]
   refine au (a+1) ?_ (by omega) (by omega)
   have hkW2:k=W:=by omega
   have e2:a * W+k=(a+1) * W:=by rw [hkW2,Nat.succ_mul]
   rw [e2]
   refine ay [(1,some 1)] ?_ ?_
   and_intros
   all_goals first|exact ao|skip
 ·have g1:decide ((a:Int)<m.h)=false:=decide_eq_false (by omega)
  have:a=H:=by omega
  subst this
  repeat' (first|refine aj g1 ?_|refine ak ?_|(refine ai (fun K hK => ?_);and_intros;all_goals first|(refine hK _ ?_;clear hK K)|try exact aa)|(refine an ?_;(try clear hB KB);(try clear hK K)))
  refine ⟨_,rfl,fun i hi j hj => ?_⟩
  have hivl:j=0∨j=1∨j=2∨j=3∨j=4:=by omega
  rcases hivl with rfl|rfl|rfl|rfl|rfl <;> exact ⟨_,rfl,rfl⟩
end Go.Proofs.YtmfblbbemekkoaaGreatDoor
set_option maxHeartbeats 1000000
namespace Go.Proofs.YtmfblbbemekkoaaGreatDoor
section
variable {s:Script} {m u v:Int}
theorem xK (C : Pt s m u v) {imgs : List Image} (hl : imgs.length = s.images.length)
  (h1:∀ o ∈ s.ops,o.kind=1→0≤o.image→o.image<s.images.length→dK (fS { s with images:=imgs } o.image) (u - o.x) (v - o.y)=dK (fS s o.image) (u - o.x) (v - o.y))
  (h2:∀ o ∈ s.ops,1≤o.mask→o.mask≤s.images.length→dK (fS { s with images:=imgs } (o.mask - 1)) (u - o.maskX) (v - o.maskY)=dK (fS s (o.mask - 1)) (u - o.maskX) (v - o.maskY)) :
  dF s u v=dF { s with images:=imgs } u v:=by
 have key:∀ o ∈ s.ops,bI s u v o=bI { s with images:=imgs } u v o:=fun o ho=>by
  unfold bI
  refine Prod.ext ?_ ?_
  ·show (if o.kind=1∧0≤o.image∧o.image<s.images.length then _ else aG)=(if o.kind=1∧0≤o.image∧o.image<imgs.length then _ else aG)
   rw [hl]
   by_cases h:o.kind=1∧0≤o.image∧o.image<s.images.length
   ·rw [if_pos h,if_pos h,ng,ng,h1 o ho h.1 h.2.1 h.2.2]
   ·rw [if_neg h,if_neg h]
  ·show (if 1≤o.mask∧o.mask≤s.images.length then _ else (0:Int))=(if 1≤o.mask∧o.mask≤imgs.length then _ else 0)
   rw [hl]
   by_cases h:1≤o.mask∧o.mask≤s.images.length
   ·rw [if_pos h,if_pos h,ng,ng,h2 o ho h.1 h.2]
   ·rw [if_neg h,if_neg h]
 have e:=uC C (z:=bI { s with images:=imgs } u v) (fun i hi _=>key _ (Eh hi)) s.ops.length (Nat.le_refl _)
 unfold ga at e
 rw [List.take_length] at e
 show Mt (bz s.bits) (mo (bz s.bits) (bI s u v) s.ops [base])=Mt (bz s.bits) (mo (bz s.bits) (bI { s with images:=imgs } u v) s.ops [base])
 rw [C.mx,e]
end
def gr (m:Image) (l k:List Pixel) (x y:Int):List Pixel:=if 0≤x∧x<m.w∧0≤y∧y<m.h then k.set (y * m.w+x).toNat (l.getD (y * m.w+x).toNat default) else k
def eR (m:Image) (l:List Pixel) (i:Nat) (u v:Int) (k:List Pixel) (o:Op):List Pixel :=
 if o.mask=i+1 then gr m l (if o.kind=1∧o.image=i then gr m l k (u - o.x) (v - o.y) else k) (u - o.maskX) (v - o.maskY) else if o.kind=1∧o.image=i then gr m l k (u - o.x) (v - o.y) else k
def ft (m:Image) (l:List Pixel) (i:Nat) (u v:Int) (k:List Pixel) (ops:List Op):List Pixel:=ops.foldl (eR m l i u v) k
section
variable {m:Image} {l k:List Pixel} {i:Nat} {u v x y:Int}
theorem lP:(gr m l k x y).length=k.length:=by
 unfold gr
 split
 ·exact List.length_set
 ·rfl
theorem nP {o:Op}:(eR m l i u v k o).length=k.length:=by
 unfold eR
 repeat' split
 all_goals simp only [lP]
theorem ly:∀ {ops:List Op} {k:List Pixel},(ft m l i u v k ops).length=k.length
 | [],_=>rfl
 | o :: ops,k=>by
  have:=ly (ops:=ops) (k:=eR m l i u v k o)
  rw [nP] at this
  exact this
theorem gQ {a:Nat} (h:k.getD a default=l.getD a default):(gr m l k x y).getD a default=l.getD a default:=by
 unfold gr
 split
 ·by_cases e:(y * m.w+x).toNat=a
  ·subst e
   rw [List.getD_eq_getElem?_getD]
   rcases Nat.lt_or_ge (y * m.w+x).toNat k.length with q|q
   ·rw [List.getElem?_set_self q];rfl
   ·rw [List.set_eq_of_length_le q,← List.getD_eq_getElem?_getD];exact h
  ·rw [List.getD_eq_getElem?_getD,List.getElem?_set_ne e,← List.getD_eq_getElem?_getD];exact h
 ·exact h
theorem xa (hx:0≤x∧x<m.w∧0≤y∧y<m.h) (hk:(y * m.w+x).toNat<k.length):(gr m l k x y).getD (y * m.w+x).toNat default=l.getD (y * m.w+x).toNat default:=by
 unfold gr
 rw [if_pos hx,List.getD_eq_getElem?_getD,List.getElem?_set_self hk];rfl
theorem yV {a:Nat} {o:Op} (h:k.getD a default=l.getD a default):(eR m l i u v k o).getD a default=l.getD a default:=by
 unfold eR
 repeat' split
 ·exact gQ (gQ h)
 ·exact gQ h
 ·exact gQ h
 ·exact h
theorem qz {a:Nat}:∀ {ops:List Op} {k:List Pixel},k.getD a default=l.getD a default→(ft m l i u v k ops).getD a default=l.getD a default
 | [],_,h=>h
 | o :: ops,k,h=>qz (ops:=ops) (k:=eR m l i u v k o) (yV h)
theorem si {n:Nat} {o:Op} {a:Nat} (hn:∀ k:List Pixel,k.length=n→(eR m l i u v k o).getD a default=l.getD a default):∀ {ops:List Op} {k:List Pixel},k.length=n→o ∈ ops→(ft m l i u v k ops).getD a default=l.getD a default
 | [],_,_,h=>by cases h
 | p :: ops,k,hk,h=>by
  rcases List.mem_cons.1 h with e|e
  ·rw [← e]
   exact qz (ops:=ops) (k:=eR m l i u v k o) (hn k hk)
  ·exact si (ops:=ops) (k:=eR m l i u v k p) hn (by rw [nP];exact hk) e
theorem lG {P:Pixel→Prop} (hl:∀ a,a<k.length→P (l.getD a default)) (h:∀ p ∈ k,P p):∀ p ∈ gr m l k x y,P p:=fun p hp=>by
 unfold gr at hp
 split at hp
 ·rcases Nat.lt_or_ge (y * m.w+x).toNat k.length with q|q
  ·rcases List.mem_or_eq_of_mem_set hp with e|e
   ·exact h p e
   ·rw [e];exact hl _ q
  ·rw [List.set_eq_of_length_le q] at hp
   exact h p hp
 ·exact h p hp
theorem AG {P:Pixel→Prop} {o:Op} (hl:∀ a,a<k.length→P (l.getD a default)) (h:∀ p ∈ k,P p):∀ p ∈ eR m l i u v k o,P p:=by
 unfold eR
 repeat' split
 ·exact lG (by rw [lP];exact hl) (lG hl h)
 ·exact lG hl h
 ·exact lG hl h
 ·exact h
theorem ue {P:Pixel→Prop}:∀ {ops:List Op} {k:List Pixel},(∀ a,a<k.length→P (l.getD a default))→(∀ p ∈ k,P p)→∀ p ∈ ft m l i u v k ops,P p
 | [],_,_,h=>h
 | o :: ops,k,hl,h=>ue (ops:=ops) (k:=eR m l i u v k o) (by rw [nP];exact hl) (AG hl h)
end
theorem DQ {m : Image} {k : List Pixel} (hf : aW m = true) (hk : k.length = m.h.toNat * m.w.toNat) {x y : Int} (h : 0 ≤ x ∧ x < m.w ∧ 0 ≤ y ∧ y < m.h → k.getD (y * m.w + x).toNat default = (sQ m (m.h.toNat * m.w.toNat)).getD (y * m.w + x).toNat default) :
  dK (cY m.w m.h k) x y=dK m x y:=by
 obtain ⟨hfit,b1,b2,b3,b4,b5,b6⟩:=jy hf
 have hL:(k.length:Int)=m.w * m.h:=by rw [hk];exact b5
 unfold dK
 rw [show aW (cY m.w m.h k)=true from ta hfit hL,hf,show (cY m.w m.h k).w=m.w from rfl,show (cY m.w m.h k).h=m.h from rfl]
 by_cases c:true=false∨x<0∨m.w≤x∨y<0∨m.h≤y
 ·rw [if_pos c,if_pos c]
 rw [if_neg c,if_neg c]
 obtain ⟨X,hX⟩:∃ X:Nat,x=X:=⟨x.toNat,by omega⟩
 obtain ⟨Y,hY⟩:∃ Y:Nat,y=Y:=⟨y.toNat,by omega⟩
 obtain ⟨hi,e⟩:=Ej hL (x:=x) (y:=y) (by omega) (by omega) (by omega) (by omega)
 have ei:(y * m.w+x).toNat=Y * m.w.toNat+X:=by
  rw [hX,hY,show m.w=((m.w.toNat:Nat):Int) by omega,← Int.natCast_mul,← Int.natCast_add,Int.toNat_natCast,Int.toNat_natCast]
 rw [e,h (by omega)]
 rw [hk] at hi
 rw [ei] at hi ⊢
 rw [Fj hi,Dl rfl (by omega),hX,hY]
def mg (s:Script) (u v:Int) (g:Nat→List Pixel) (i:Nat):Image :=
 let m:=s.images.getD i default
 cY m.w m.h (ft m (sQ m (m.h.toNat * m.w.toNat)) i u v (g i) s.ops)
def fy (s:Script) (u v:Int) (g:Nat→List Pixel) (n:Nat):Script := { s with images:=(List.range n).map (mg s u v g) }
section
variable {s:Script} {m u v:Int} {g:Nat→List Pixel}
theorem ra {i:Nat}:fS s (i:Int)=s.images.getD i default:=by unfold fS;rw [Int.toNat_natCast]
theorem tf {i:Nat} (hi:i<s.images.length):fS (fy s u v g s.images.length) (i:Int)=mg s u v g i:=by
 rw [ra]
 unfold fy
 rw [List.getD_eq_getElem?_getD,List.getElem?_map,List.getElem?_range hi];rfl
theorem tu (hg : ∀ i, i < s.images.length → (g i).length = ((s.images.getD i default).h.toNat * (s.images.getD i default).w.toNat)) {i : Nat} (hi : i < s.images.length) :
  (ft (s.images.getD i default) (sQ (s.images.getD i default) ((s.images.getD i default).h.toNat * (s.images.getD i default).w.toNat)) i u v (g i) s.ops).length=(s.images.getD i default).h.toNat * (s.images.getD i default).w.toNat:=by
 rw [ly,hg i hi]
theorem Ib (C:Pt s m u v) (hg:∀ i,i<s.images.length→(g i).length=((s.images.getD i default).h.toNat * (s.images.getD i default).w.toNat)) (hp:∀ i,i<s.images.length→∀ p ∈ g i,PixV p m):oE (fy s u v g s.images.length):=by
 intro j h0 h1
 have hlen:(fy s u v g s.images.length).images.length=s.images.length:=by simp [fy]
 rw [hlen] at h1
 obtain ⟨i,rfl⟩:=Int.eq_ofNat_of_zero_le h0
 have hi:i<s.images.length:=by omega
 show ImgV (fS (fy s u v g s.images.length) i) (bz s.bits)
 rw [tf hi]
 have hv:=C.im i h0 h1
 rw [ra] at hv
 obtain ⟨hfit,b1,b2,b3,b4,b5,b6⟩:=jy hv.f
 refine zQ hfit (by rw [tu hg hi];exact b5) (ue (fun a ha => ?_) (by rw [C.mx];exact hp i hi))
 rw [hg i hi] at ha
 rw [Fj ha]
 have hW:0<(s.images.getD i default).w.toNat:=by omega
 have q1:=Nat.mod_lt a hW
 have q2:a / (s.images.getD i default).w.toNat<(s.images.getD i default).h.toNat:=(Nat.div_lt_iff_lt_mul hW).2 ha
 exact hv.p _ _ (Int.natCast_nonneg _) (by omega) (Int.natCast_nonneg _) (by omega)
theorem vB (C:Pt s m u v) (hg:∀ i,i<s.images.length→(g i).length=((s.images.getD i default).h.toNat * (s.images.getD i default).w.toNat)):dF s u v=dF (fy s u v g s.images.length) u v:=by
 have hlen:((List.range s.images.length).map (mg s u v g)).length=s.images.length:=by simp
 have key : ∀ (i : Nat), i < s.images.length → ∀ x y, (∀ k : List Pixel, k.length = (s.images.getD i default).h.toNat * (s.images.getD i default).w.toNat → 0 ≤ x ∧ x < (s.images.getD i default).w ∧ 0 ≤ y ∧ y < (s.images.getD i default).h →
   (ft (s.images.getD i default) (sQ (s.images.getD i default) ((s.images.getD i default).h.toNat * (s.images.getD i default).w.toNat)) i u v k s.ops).getD (y * (s.images.getD i default).w+x).toNat default=(sQ (s.images.getD i default) ((s.images.getD i default).h.toNat * (s.images.getD i default).w.toNat)).getD (y * (s.images.getD i default).w+x).toNat default) →
   dK (fS (fy s u v g s.images.length) i) x y=dK (fS s i) x y:=fun i hi x y h=>by
  have hv:=C.im i (by omega) (by omega)
  rw [tf hi,ra]
  rw [ra] at hv
  exact DQ hv.f (tu hg hi) (fun hx=>h _ (hg i hi) hx)
 have idx:∀ (i:Nat),i<s.images.length→∀ x y,0≤x∧x<(s.images.getD i default).w∧0≤y∧y<(s.images.getD i default).h→(y * (s.images.getD i default).w+x).toNat<(s.images.getD i default).h.toNat * (s.images.getD i default).w.toNat:=fun i hi x y hx=>by
  have hv:=C.im i (by omega) (by omega)
  rw [ra] at hv
  obtain ⟨hfit,b1,b2,b3,b4,b5,b6⟩:=jy hv.f
  have e1:y * (s.images.getD i default).w≤((s.images.getD i default).h - 1) * (s.images.getD i default).w:=aw (by omega) (Int.le_refl _) (by omega) (by omega)
  have e:((s.images.getD i default).h - 1) * (s.images.getD i default).w+(s.images.getD i default).w=(s.images.getD i default).w * (s.images.getD i default).h:=by rw [Int.sub_mul,Int.one_mul,Int.mul_comm (s.images.getD i default).h];omega
  have e0:0≤y * (s.images.getD i default).w:=aq (by omega) (by omega)
  omega
 refine xK C hlen (fun o ho h1 h2 h3 => ?_) (fun o ho h1 h2 => ?_)
 ·obtain ⟨i,hi⟩:=Int.eq_ofNat_of_zero_le h2
  rw [hi] at h3 ⊢
  have hil:i<s.images.length:=by omega
  refine key i hil _ _ fun k hk hx=>si (n:=(s.images.getD i default).h.toNat * (s.images.getD i default).w.toNat) (o:=o) (fun k hk => ?_) hk ho
  unfold eR
  have hc:o.kind=1∧o.image=i:=⟨h1,hi⟩
  rw [if_pos hc]
  have:=xa (l:=sQ (s.images.getD i default) ((s.images.getD i default).h.toNat * (s.images.getD i default).w.toNat)) (k:=k) hx (by rw [hk];exact idx i hil _ _ hx)
  split
  ·exact gQ this
  ·exact this
 ·obtain ⟨i,hi⟩:=Int.eq_ofNat_of_zero_le (show 0≤o.mask - 1 by omega)
  rw [hi]
  have hil:i<s.images.length:=by omega
  refine key i hil _ _ fun k hk hx=>si (n:=(s.images.getD i default).h.toNat * (s.images.getD i default).w.toNat) (o:=o) (fun k hk => ?_) hk ho
  unfold eR
  rw [if_pos (show o.mask=i+1 by omega)]
  refine xa hx ?_
  have:=idx i hil _ _ hx
  split
  ·rw [lP,hk];exact this
  ·rw [hk];exact this
end
end Go.Proofs.YtmfblbbemekkoaaGreatDoor
set_option maxHeartbeats 4000000
set_option maxRecDepth 16000
namespace Go.Proofs.YtmfblbbemekkoaaGreatDoor
open Go Go.SL
open Go.RowKit (wrap64)
theorem wL {S:Env} {f:FuncId} {args:List BV} {e sz n:Nat} {g:Nat→Nat→PV} (h:kj S f args e sz n g):aD S f args fun r=>r = .b (.c (.p (.lst sz n g))) :=
 ⟨h.1,fun ok w vs h1 h2 h3 h4=>(h.2 ok w vs h1 h2 h3 h4).mono fun ex w' ⟨v,xs,he,hB,h0,hown,hone,hd⟩=>by
  refine ⟨v,_,he,rfl,trivial,hB, ?_⟩
  rcases hown.2 with ⟨e1,e2⟩|⟨b,cap,cur,hv,hge,hh,hnc,_,hcs,htk⟩
  ·rw [e1]
   exact ⟨none,0,by rw [e2],by omega,fun h=>by omega⟩
  ·rw [hv]
   refine ⟨_,cap,rfl,hnc,fun _=>⟨b,0,rfl,⟨bq hh,fun q=>by omega⟩,fun i hi j hj => ?_⟩⟩
   have hlt:i * sz+j<n * sz:=cJ hi hj
   have hlt2:i * sz+j<cur.size:=by rw [hcs];exact Nat.lt_of_lt_of_le hlt (Nat.mul_le_mul_right _ hnc)
   have hlx:i * sz+j<xs.length:=by rw [hown.1];exact hlt
   have hxe:xs.getD (i * sz+j) undef=cur.getD (i * sz+j) undef:=by
    rw [← htk];simp [List.getElem?_take,hlt]
   refine ⟨cur.getD (i * sz+j) undef,by rw [Nat.zero_add];exact bn hh hlt2, ?_, ?_⟩
   ·rw [← hxe,List.getD_eq_getElem?_getD,List.getElem?_eq_getElem hlx]
    exact hone _ (List.getElem_mem hlx)
   ·rw [← hxe]
    exact aV.mono (fun b hb=>hb.elim) (hd i hi j hj)⟩
theorem wg (r : Row) (n m : Int) (hr : RowOk r) (hn : 0 ≤ n) (hn2 : n ≤ 1000000) (hm : u16 m) :
  kj Sg 34 [ag (yN r),I n,U m] 41 5 n.toNat (bd aH (aL r n.toNat m)):=by
 obtain ⟨⟨a1,a2⟩,hl,hlen⟩:=hr
 refine EJ Tryz.func34 rfl (rs:=[.tmp 6]) rfl rfl dZ (by decide +kernel) (Nat.le_of_ble_eq_true rfl) (bL (by simp (maxSteps:=999999)(disch:=omega) only [go_sem])) ?_
 repeat' (first|refine ak ?_|(refine ai (fun K hK => ?_);and_intros;all_goals first|(refine hK _ ?_;clear hK K)|try exact aa))
 refine aS (X:=Nat) (fun i=>aZ [(1, .b (I n)),(2, .b (U m)),(3, .b (.c (.ptr 0 0))),(7, .b (.c (.own 1 i))),(8, .b (I i))]
  [(0, .fix ((yN r).map CV.p)),(1, .arr 41 5 i (bd aH (aL r i m)))] 2) (fun i=>(i:Int)≤n) (fun i=>n.toNat - i) 0 ?_ ?_ ?_
 ·omega
 ·refine ay [(1,none)] ?_ ?_
  and_intros
  all_goals first|exact ao|skip
 ·intro i hi
  have hk:(if (r.l.length:Int)>0 then (i:Int) % r.l.length else i)=((if 0<r.l.length then i % r.l.length else i:Nat):Int):=by
   split <;> split <;> omega
  repeat' (first|refine ak ?_|(refine ai (fun K hK => ?_);and_intros;all_goals first|(refine hK _ ?_;clear hK K)|try exact aa)|(apply eE;(case hf=>rfl);(case hc=>exact eC);(all_goals first|(intro hb;(try simp only [qK] at hb))|skip))|exact bO|(refine bc (fun hb => ?_) (fun hb => ?_);all_goals try exact aJ)|(refine an ?_;(try clear hB KB);(try clear hK K)))
  ·refine pG ?_ ?_ (by simp (maxSteps:=999999)(disch:=omega) only [go_sem]) (qH (if (if 0<r.l.length then i % r.l.length else i)<r.l.length then r.l.getD (if 0<r.l.length then i % r.l.length else i) default else ⟨0,0,0,0,0⟩) m ?_ hm)
   try simp (maxSteps:=999999)(disch:=omega) only [go_sem]
   try (refine hK _ ?_;clear hK K)
   rotate_left
   ·simp only [hk,Int.toNat_natCast,Int.ofNat_lt]
    generalize (if 0<r.l.length then i % r.l.length else i)=k
    split <;> rfl
   ·generalize (if 0<r.l.length then i % r.l.length else i)=k
    split
    ·exact hl _ (by assumption)
    ·exact ⟨⟨by decide,by decide⟩,⟨by decide,by decide⟩,⟨by decide,by decide⟩,⟨by decide,by decide⟩,⟨by decide,by decide⟩⟩
   rw [← jj]
   repeat' (first|refine ak ?_|((first|refine ai (fun K hK => ?_)|refine ae (cl _ _ (by omega) (by omega)) ?_);and_intros;all_goals first|(refine hK _ ?_;clear hK K)|try exact aa)|(apply kn;(case hf=>rfl);(case hc=>exact eC);(all_goals first|(intro hb;(try simp only [qK] at hb))|skip))|exact bO)
   rw [ah]
   refine au (i+1) ?_ (by omega) (by omega)
   refine ay [(1,some 5)] ?_ ?_
   and_intros
   all_goals first|exact ao|skip
   have hlen:(aL r i m).length=i:=by simp [aL]
   have hx:aL r (i+1) m=aL r i m ++ [jr r m i]:=by simp [aL,List.range_succ]
   have key:=fun g hg=>dC (enc:=aH) (xs:=aL r i m) (x:=jr r m i) (s:=5) (g:=g) hg
   simp only [hlen,← hx] at key
   refine .inr (key _ fun j hj => ?_)
   have h5:j=0∨j=1∨j=2∨j=3∨j=4:=by omega
   have hp : jr r m i = if r.mood % 6 = 0 then ⟨0, 0, 0, 0, 0⟩ else if r.mood % 6 = 1 then { jj r m i with a := m, f := m }
     else if r.mood % 6=2 then (if (i:Int)>0 then (aL r i m).getD 0 default else jj r m i) else jj r m i:=by
    by_cases h2:r.mood % 6=2
    ·have h0:¬ r.mood % 6=0:=by omega
     have h1:¬ r.mood % 6=1:=by omega
     by_cases hi0:(i:Int)>0
     ·have:(aL r i m).getD 0 default=jr r m 0:=by
       have hi1:0<i:=by omega
       simp [aL,hi1]
      rw [if_neg h0,if_neg h1,if_pos h2,if_pos hi0,this]
      simp only [jr,if_neg h0,if_neg h1,if_pos h2]
     ·have:i=0:=by omega
      subst this
      rw [if_neg h0,if_neg h1,if_pos h2,if_neg hi0]
      simp only [jr,if_neg h0,if_neg h1,if_pos h2]
    ·simp only [jr,if_neg h2]
   rw [hp]
   by_cases m0:r.mood % 6=0
   ·simp only [if_pos m0];rcases h5 with rfl|rfl|rfl|rfl|rfl <;> rfl
   ·by_cases m1:r.mood % 6=1
    ·simp only [if_neg m0,if_pos m1];rcases h5 with rfl|rfl|rfl|rfl|rfl <;> rfl
    ·by_cases m2:r.mood % 6=2
     ·by_cases hi0:(i:Int)>0
      ·simp only [if_neg m0,if_neg m1,if_pos m2,if_pos hi0];rcases h5 with rfl|rfl|rfl|rfl|rfl <;> rfl
      ·simp only [if_neg m0,if_neg m1,if_pos m2,if_neg hi0];rcases h5 with rfl|rfl|rfl|rfl|rfl <;> rfl
     ·simp only [if_neg m0,if_neg m1,if_neg m2];rcases h5 with rfl|rfl|rfl|rfl|rfl <;> rfl
  ·have:i=n.toNat:=by omega
   subst this
   refine ⟨_,rfl,rfl,fun i hi j hj => ?_⟩
   have hivl:j=0∨j=1∨j=2∨j=3∨j=4:=by omega
   rcases hivl with rfl|rfl|rfl|rfl|rfl <;> exact ⟨_,rfl,rfl⟩
attribute [local go_sem] Int.toNat_natCast cU
theorem Jk {st : St} {bx : Nat → Option Bx} {nx q e sz n m : Nat} {F G : Nat → Nat → PV} {kf : Nat → SV} (hkf : st.kf = kf) (hkl : ∀ s, (kf s).lt nx) (hq : q < nx) (hbl : ∀ i y, bx i = some y → i < nx ∧ y.lt nx)
  (hoth:∀ i,i<nx→i≠q→st.bx i=bx i) (hqb:st.bx q=some (.arr e sz n F)) (hF:F=G∨∀ i,i<n→∀ j,j<sz→PV.le (F i j) (G i j)):Le st (ML [] (aA q (.arr e sz n G) bx) (nx+m) kf):=by
 refine Qm nx [] [] hkf hkl (Nat.le_add_right _ _) (by omega) trivial (fun i hi hn => ?_) (fun i hi=>by cases hi) rfl (fun i x hx => ?_)
 ·unfold aA at hi
  rw [if_neg (by omega)] at hi
  cases hb:bx i with
  | none=>exact absurd hb hi
  | some y=>have:=(hbl i y hb).1;omega
 ·unfold aA at hx
  by_cases hiq:i=q
  ·subst hiq
   rw [if_pos rfl] at hx
   cases hx
   refine .inr ⟨?_,by omega,trivial⟩
   unfold ku
   rw [rR hq]
   exact ⟨_,hqb,rfl,rfl,rfl,hF⟩
  ·rw [if_neg hiq] at hx
   obtain ⟨h1,h2⟩:=hbl i x hx
   exact .inl ⟨h1,(hoth i h1 hiq).trans hx,h2⟩
theorem xL {q:Nat} {A C:Bx} {bx:Nat→Option Bx}:Jo (aA q A (aA q C bx)) (aA q A bx):=fun i y h=>by
 unfold aA at h ⊢
 by_cases e:i=q
 ·rw [if_pos e] at h ⊢;exact h
 ·rw [if_neg e,if_neg e] at h
  rw [if_neg e];exact h
theorem CP (bx : Nat → Option Bx) (nx q n : Nat) (m : Image) (l k : List Pixel) (x y : Int) (hq : bx q = some (.arr 41 5 n (bd aH k))) (hqn : q < nx) (hl : l.length = n) (hk : k.length = n)
  (hn:(n:Int)=m.w * m.h) (hw1:1≤m.w∧m.w≤16777216) (hh1:1≤m.h∧m.h≤16777216) (hnn:n≤16777216) :
  kR Sg bx nx 35 [.c (.own q n), .c (.p (.lst 5 n (bd aH l))),ag (aY m),I x,I y] (.tup []) (aA q (.arr 41 5 n (bd aH (gr m l k x y))) bx) (nx+1):=by
 have e:bx=aA q (.arr 41 5 n (bd aH k)) bx:=bt hq
 refine IK Tryz.func35 rfl (rs:=[]) rfl rfl dZ (by decide +kernel) (Nat.le_of_ble_eq_true rfl) ?_ (fun kf hkf hbl => ?_)
 ·intro v hv
  simp only [List.mem_cons,List.not_mem_nil,or_false] at hv
  rcases hv with rfl|rfl|rfl|rfl|rfl
  ·exact hqn
  ·trivial
  ·exact fun c hc=>by (obtain ⟨x,_,rfl⟩:=List.mem_map.1 hc;trivial)
  ·trivial
  ·trivial
 rw [e]
 by_cases hin:0≤x∧x<m.w∧0≤y∧y<m.h
 ·have e1:y * m.w≤(m.h - 1) * m.w:=aw (by omega) (Int.le_refl _) (by omega) (by omega)
  have e2:(m.h - 1) * m.w+m.w=m.w * m.h:=by rw [Int.sub_mul,Int.one_mul,Int.mul_comm m.h];omega
  have e0:0≤y * m.w:=aq (by omega) (by omega)
  have g1:decide (x≥0)=true:=decide_eq_true (by omega)
  have g2:decide (x<m.w)=true:=decide_eq_true (by omega)
  have g3:decide (y≥0)=true:=decide_eq_true (by omega)
  have g4:decide (y<m.h)=true:=decide_eq_true (by omega)
  repeat' (first|refine aj (And.intro g1 (And.intro g2 (And.intro g3 g4))) ?_|(refine ai (fun K hK => ?_);and_intros;all_goals first|(refine hK _ ?_;clear hK K)|try exact aa))
  rw [nE]
  refine ⟨_,Jk (m:=1) ?_ hkf hqn hbl (fun i hi hiq => ?_) (by (first|(simp (maxSteps:=999999)(disch:=omega) only [go_sem];done)|(simp (maxSteps:=999999)(disch:=omega) only [go_sem];rfl))) (.inr fun a ha j hj => ?_),trivial,rfl,xL,rfl,rfl,fun v hv=>by cases hv⟩
  ·rfl
  ·simp (maxSteps:=999999)(disch:=omega) only [go_sem]
  ·unfold gr
   rw [if_pos hin]
   by_cases hai:a=(y * m.w+x).toNat
   ·rw [if_pos hai,if_pos ⟨Nat.zero_le _,hj⟩]
    have eg:(k.set (y * m.w+x).toNat (l.getD (y * m.w+x).toNat default)).getD a default=l.getD (y * m.w+x).toNat default:=by
     rw [hai,List.getD_eq_getElem?_getD,List.getElem?_set_self (by omega)];rfl
    unfold bd
    rw [eg]
    have hivl:j=0∨j=1∨j=2∨j=3∨j=4:=by omega
    rcases hivl with rfl|rfl|rfl|rfl|rfl <;> exact PV.le_refl _
   ·rw [if_neg hai]
    have eg:(k.set (y * m.w+x).toNat (l.getD (y * m.w+x).toNat default)).getD a default=k.getD a default:=by
     rw [List.getD_eq_getElem?_getD,List.getElem?_set_ne (fun h=>hai h.symm),← List.getD_eq_getElem?_getD]
    unfold bd
    rw [eg]
    exact PV.le_refl _
 ·have gn:(decide (x≥0) && decide (x<m.w) && decide (y≥0) && decide (y<m.h))=false:=by
   rw [← Bool.not_eq_true]
   simp only [Bool.and_eq_true,decide_eq_true_eq]
   omega
  repeat' (first|refine aj gn ?_|refine ak ?_|(refine ai (fun K hK => ?_);and_intros;all_goals first|(refine hK _ ?_;clear hK K)|try exact aa))
  refine ⟨_,Jk (m:=1) ?_ hkf hqn hbl (fun i hi hiq => ?_) (by (first|(simp (maxSteps:=999999)(disch:=omega) only [go_sem];done)|(simp (maxSteps:=999999)(disch:=omega) only [go_sem];rfl))) (.inr fun a ha j hj => ?_),trivial,rfl,xL,rfl,rfl,fun v hv=>by cases hv⟩
  ·rfl
  ·simp (maxSteps:=999999)(disch:=omega) only [go_sem]
  ·unfold gr
   rw [if_neg hin]
   exact PV.le_refl _
theorem lp {st : St} {K : SV → St → Prop} (q n : Nat) (m : Image) (l k : List Pixel) (x y : Int) (hq : st.bx q = some (.arr 41 5 n (bd aH k))) (hqn : q < st.nx) (hl : l.length = n) (hk : k.length = n)
  (hn:(n:Int)=m.w * m.h) (hw1:1≤m.w∧m.w≤16777216) (hh1:1≤m.h∧m.h≤16777216) (hnn:n≤16777216) (hw:∀ i,st.nx≤i→st.bx i=none)
  (hK:K (.tup []) (st.turn (aA q (.arr 41 5 n (bd aH (gr m l k x y))) st.bx) (st.nx+1))) :
  dj Sg st 35 [.c (.own q n), .c (.p (.lst 5 n (bd aH l))),ag (aY m),I x,I y] (Sl.of K):=by
 refine dd (CP st.bx st.nx q n m l k x y hq hqn hl hk hn hw1 hh1 hnn) rfl (fun i hi => ?_) (by omega) hK
 unfold aA
 rw [if_neg (by omega)]
 exact hw i (by omega)
end Go.Proofs.YtmfblbbemekkoaaGreatDoor
