/- Part of the proof: F6, F7, F14, F9, F15, F16, F17, D3, D5, D7, P7, U1, VB, R4, RP, RC, Q3, RE, N4. -/
import Derived.Test.YtcbifofjjpfbcaaGreatDoorM35
set_option linter.unusedSimpArgs false
set_option linter.unusedVariables false
set_option maxHeartbeats 1000000
set_option maxRecDepth 16000
namespace Go.Proofs.YtcbifofjjpfbcaaGreatDoor
open Go Go.SL
open Go.RowKit (wrap64)
theorem ov (r:Rect):aF Sg 117 [ag (bc r)] (fun x=>x = .b (ag (bc (gi r)))):=by
 refine aI Tryz.func117 [.cell 2 28] ?_
 repeat' (first|refine an ?_|((first|refine aj (fun K hK => ?_)|refine ae (bo _) ?_);and_intros;all_goals first|(refine hK _ ?_;clear hK K)|try exact aa)|(refine aH (fun hb => ?_) (fun hb => ?_);all_goals try exact ax)|(refine ai ?_;(try clear hB KB);(try clear hK K)))
 ·rw [gi,if_pos hb];rfl
 ·rw [gi,if_neg (by simp [hb])];rfl
theorem yG (r:Rect):aF Sg 99 [ag (bc r)] (fun x=>x = .b (I (iZ r))):=by
 refine aI Tryz.func99 [.tmp 2] ?_
 repeat' (first|((first|refine aj (fun K hK => ?_)|refine ae (ov _) ?_);and_intros;all_goals first|(refine hK _ ?_;clear hK K)|try exact aa)|(refine ai ?_;(try clear hB KB);(try clear hK K)))
 rw [xE]
theorem mP (b:Int):aF Sg 14 [I b] (fun x=>x = .tup [U (if b=8 then 255 else if b=16 then 65535 else 0),B (decide (b=8∨b=16))]):=by
 refine aI Tryz.func14 [.tmp 2, .tmp 3] ?_
 repeat' (first|refine an ?_|(refine aj (fun K hK => ?_);and_intros;all_goals first|(refine hK _ ?_;clear hK K)|try exact aa)|(refine aH (fun hb => ?_) (fun hb => ?_);all_goals try exact ax)|(refine ai ?_;(try clear hB KB);(try clear hK K)))
 ·subst hb;rfl
 ·subst hb;rfl
 ·rw [if_neg (by assumption),if_neg (by assumption),decide_eq_false (by omega)]
theorem vk (n:Int):aF Sg 100 [I n] (fun x=>x = .b (B (decide (n < -1048576∨1048576<n)))):=by
 refine aI Tryz.func100 [.tmp 2] ?_
 repeat' (first|(refine aj (fun K hK => ?_);and_intros;all_goals first|(refine hK _ ?_;clear hK K)|try exact aa)|(refine ai ?_;(try clear hB KB);(try clear hK K)))
 refine dS ?_
 (try simp only [Bool.and_eq_true,Bool.or_eq_true,Bool.not_eq_true',Bool.not_eq_false',decide_eq_true_eq,decide_eq_false_iff_not,ge_iff_le,gt_iff_lt,beq_iff_eq,bne_iff_ne,ne_eq,Bool.or_eq_false_iff,Bool.and_eq_false_imp,Bool.not_true,Bool.not_false])
 try omega
end Go.Proofs.YtcbifofjjpfbcaaGreatDoor
set_option maxHeartbeats 1000000
set_option maxRecDepth 16000
namespace Go.Proofs.YtcbifofjjpfbcaaGreatDoor
open Go Go.SL
open Go.RowKit (wrap64)
theorem Dq (o:Int):aF Sg 172 [I o] (fun x=>x = .b (.c (.p (.val (.string (yo o)))))):=by
 refine aI Tryz.func172 [.tmp 2] ?_
 repeat' (first|refine an ?_|(refine aj (fun K hK => ?_);and_intros;all_goals first|(refine hK _ ?_;clear hK K)|try exact aa)|(refine aH (fun hb => ?_) (fun hb => ?_);all_goals try exact ax)|(refine ai ?_;(try clear hB KB);(try clear hK K)))
 ·rw [yo,oe,if_neg (by omega)];rfl
 ·have:o=1∨o=2∨o=3∨o=4∨o=5∨o=6∨o=7∨o=8∨o=9∨o=10∨o=11∨o=12:=by omega
  rcases this with rfl|rfl|rfl|rfl|rfl|rfl|rfl|rfl|rfl|rfl|rfl|rfl <;> rfl
theorem zn (o:Int):aF Sg 173 [I o] (fun x=>x = .b (.c (.p (.val (.string (yR o)))))):=by
 refine aI Tryz.func173 [.tmp 2] ?_
 repeat' (first|refine an ?_|(refine aj (fun K hK => ?_);and_intros;all_goals first|(refine hK _ ?_;clear hK K)|try exact aa)|(refine aH (fun hb => ?_) (fun hb => ?_);all_goals try exact ax)|(refine ai ?_;(try clear hB KB);(try clear hK K)))
 ·rw [yR,if_neg (by omega)]
 ·have:o=1∨o=2∨o=3∨o=4∨o=5∨o=6∨o=7∨o=8∨o=9∨o=10∨o=11∨o=12:=by omega
  rcases this with rfl|rfl|rfl|rfl|rfl|rfl|rfl|rfl|rfl|rfl|rfl|rfl <;> rfl
theorem GK (o:Int):aF Sg 135 [I o] (fun x=>x = .b (B (jj o))):=by
 obtain ⟨_,_,_,_,h⟩:=nA o
 refine aI Tryz.func135 [.tmp 2] ?_
 repeat' (first|((first|refine aj (fun K hK => ?_)|refine ae (Dq _) ?_);and_intros;all_goals first|(refine hK _ ?_;clear hK K)|try exact aa)|(refine ai ?_;(try clear hB KB);(try clear hK K)))
 refine dS ?_
 rw [h];simp [jj]
theorem BI (o:Int):aF Sg 136 [I o] (fun x=>x = .b (B (jj o))):=by
 have h:=ub o
 refine aI Tryz.func136 [.tmp 2] ?_
 repeat' (first|((first|refine aj (fun K hK => ?_)|refine ae (zn _) ?_);and_intros;all_goals first|(refine hK _ ?_;clear hK K)|try exact aa)|(refine ai ?_;(try clear hB KB);(try clear hK K)))
 refine dS ?_
 rw [h];simp [jj]
end Go.Proofs.YtcbifofjjpfbcaaGreatDoor
set_option maxHeartbeats 2000000
set_option maxRecDepth 16000
namespace Go.Proofs.YtcbifofjjpfbcaaGreatDoor
open Go Go.SL
open Go.RowKit (wrap64)
theorem vU (l : List Int) (n : Int) (hl : l.length ≤ 4611686018427387904) :
  aF Sg 101 [.c (.p (eZ l)),I n] (fun r=>r = .tup [.c (.p (eZ (kS l n))),B (dt l n)]):=by
 refine fV ?_
 refine aI Tryz.func101 [.tmp 4, .tmp 5] ?_
 repeat' (first|refine an ?_|(refine aj (fun K hK => ?_);and_intros;all_goals first|(refine hK _ ?_;clear hK K)|try exact aa)|(refine aH (fun hb => ?_) (fun hb => ?_);all_goals try exact ax)|(refine ai ?_;(try clear hB KB);(try clear hK K)))
 ·have:dt l n=false:=by
   rw [dt,decide_eq_false (by omega)];rfl
  rw [kS,this]
  exact fe ⟨oi fq,ej trivial,trivial⟩
 refine aM (X:=Nat) (fun i=>bg [(0, .b (.c (.p (eZ l)))),(1, .b (I n)),(6, .b (.c (.own 2 n.toNat))),(7, .b (.c (.own 1 i))),(8, .b (I i))]
  [(1, .arr 3 1 i (dG Ha ((cZ l n).take i))),(2, .arr 4 1 n.toNat (BF (cZ l n) i))] 3) (fun i=>(i:Int)≤n∧∀ k,k<i→ke (cZ l n) n k=true) (fun i=>n.toNat - i) 0 ?_ ?_ ?_
 ·exact ⟨by omega,fun k hk=>by omega⟩
 ·refine aE [(1,none),(2,some 0)] ?_ ?_
  and_intros
  all_goals first|exact aw|skip
  refine .inr fun a ha j hj => ?_
  have:j=0:=by omega
  subst this
  exact PV.le_refl _
 ·rintro i ⟨hi,hok⟩
  have hx:i<n.toNat→(0≤n∧(l.length=0∨l.length=n))→(if 0<(l.length:Int) then l.getD (i:Int).toNat default else (i:Int))=(cZ l n).getD i 0:=fun h1 h2=>by
   rw [cZ,Int.toNat_natCast]
   by_cases h0:l.length=0
   ·rw [if_neg (by omega),if_pos h0,wJ h1]
   ·rw [if_pos (by omega),if_neg h0];rfl
  repeat' (first|refine an ?_|(refine aj (fun K hK => ?_);and_intros;all_goals first|(refine hK _ ?_;clear hK K)|try exact aa)|(apply aC;(case hf=>rfl);(case hc=>exact aS);(all_goals first|(intro hb;(try simp only [bZ] at hb))|skip))|exact ao|(refine aH (fun hb => ?_) (fun hb => ?_);all_goals try exact ax)|(refine ai ?_;(try clear hB KB);(try clear hK K)))
  ·rw [hx (by omega) (by omega)] at hb
   have:dt l n=false:=by
    refine Ag (i:=i) (by omega) (by omega) ?_
    rw [ke]
    by_cases h1:0≤(cZ l n).getD i 0∧(cZ l n).getD i 0<n
    ·rcases hb with h|h
     ·omega
     ·rw [Int.toNat_of_nonneg h1.1] at h
      rw [h];simp
    ·rw [decide_eq_false h1];rfl
   rw [kS,this]
   exact fe ⟨oi fq,ej trivial,trivial⟩
  ·rw [hx (by omega) (by omega)] at hb
   have hlen:=iH (l:=l) (n:=n) (by omega) (by omega)
   rw [ah]
   refine au (i+1) ?_ ⟨by omega,fun k hk => ?_⟩ (by omega)
   ·have e:(cZ l n).take (i+1)=(cZ l n).take i ++ [(cZ l n).getD i 0]:=by
     rw [List.take_add_one,List.getElem?_eq_getElem (by omega),List.getD_eq_getElem?_getD,List.getElem?_eq_getElem (by omega)];rfl
    have hlt:((cZ l n).take i).length=i:=by rw [List.length_take];omega
    refine aE [(1,some 4),(2,some 2)] ?_ ?_
    and_intros
    all_goals first|exact aw|skip
    ·have key:=fun g hg=>fy (enc:=Ha) (xs:=(cZ l n).take i) (x:=(cZ l n).getD i 0) (s:=1) (g:=g) hg
     simp only [hlt,← e] at key
     refine .inr (key _ fun j hj => ?_)
     have:j=0:=by omega
     subst this
     simp only [gt_iff_lt,hx (by omega) (by omega)]
     rfl
    ·refine .inr fun a ha j hj => ?_
     have:j=0:=by omega
     subst this
     simp only [gt_iff_lt,hx (by omega) (by omega)]
     rw [← xA (by omega) hb.1.1]
     by_cases h:a=((cZ l n).getD i 0).toNat
     ·rw [if_pos h,if_pos h];exact PV.le_refl _
     ·rw [if_neg h,if_neg h];exact PV.le_refl _
   ·by_cases h:k=i
    ·subst h
     rw [Int.toNat_of_nonneg hb.1.1] at hb
     rw [ke,decide_eq_true hb.1,hb.2];rfl
    ·exact hok k (by omega)
  ·have e:dt l n=true:=by
    rw [dt,decide_eq_true (by omega),Bool.true_and,List.all_eq_true]
    exact fun k hk=>hok k (by have:=List.mem_range.1 hk;omega)
   have hlen:=iH (l:=l) (n:=n) (by omega) (by omega)
   have hi2:i=n.toNat:=by omega
   rw [kS,if_pos e,e,List.take_of_length_le (by omega),hlen,hi2]
   exact fe ⟨ej trivial,ej trivial,trivial⟩
end Go.Proofs.YtcbifofjjpfbcaaGreatDoor
set_option maxHeartbeats 2000000
set_option maxRecDepth 16000
namespace Go.Proofs.YtcbifofjjpfbcaaGreatDoor
open Go Go.SL
open Go.RowKit (wrap64)
theorem Di (o:Op) (h1:1≤o.kind) (h3:o.kind≤3):aF Sg 134 [ag (eA o)] (fun x=>x = .b (B (!fc o))):=by
 refine aI Tryz.func134 [.tmp 2] ?_
 repeat' (first|refine an ?_|(refine aj (fun K hK => ?_);and_intros;all_goals first|(refine hK _ ?_;clear hK K)|try exact aa)|(apply aC;(case hf=>rfl);(case hc=>exact aS);(all_goals first|(intro hb;(try simp only [bZ] at hb))|skip))|exact ao|(refine aH (fun hb => ?_) (fun hb => ?_);all_goals try exact ax)|(refine ai ?_;(try clear hB KB);(try clear hK K)))
 ·refine congrArg (fun b=>SV.b (B (!b))) ?_
  rw [Bool.eq_iff_iff,fc,if_pos hb]
  simp
 ·refine congrArg (fun b=>SV.b (B (!b))) ?_
  rw [Bool.eq_iff_iff]
  by_cases k1:o.kind=1
  ·cases hi:o.isolated <;> cases hk:o.knockout <;> by_cases hm:o.mask=0 <;> simp [fc,k1,hi,hk,hm]
  ·have k2:o.kind=2:=by omega
   by_cases hm:o.mask=0 <;> by_cases q1:o.image=0 <;> by_cases q2:o.x=0 <;> by_cases q3:o.y=0 <;> simp [fc,k2,hm,q1,q2,q3]
end Go.Proofs.YtcbifofjjpfbcaaGreatDoor
set_option maxHeartbeats 2000000
set_option maxRecDepth 16000
namespace Go.Proofs.YtcbifofjjpfbcaaGreatDoor
open Go Go.SL
open Go.RowKit (wrap64)
theorem QU {s:Script} (h:¬(s.bits=8∨s.bits=16)):bD s=1:=by rw [bD,if_pos h]
theorem ou (s:Script) (hs:ScriptLen s):aF Sg 64 [ag (aL s)] (fun x=>x = .b (I (bD s))):=by
 obtain ⟨h1,h2,h3⟩:=hs
 refine aI Tryz.func64 [.tmp 2] ?_
 repeat' (first|refine an ?_|((first|refine aj (fun K hK => ?_)|refine ae (mP _) ?_|refine ae (bo _) ?_|refine aq (fun hg=>yG _) ?_|refine ae (ic _ _ _) ?_|refine ae (vU _ _ (by omega)) ?_|refine aq (fun hg=>vk _) ?_);and_intros;all_goals first|(refine hK _ ?_;clear hK K)|try exact aa)|(refine aH (fun hb => ?_) (fun hb => ?_);all_goals try exact ax)|(refine ai ?_;(try clear hB KB);(try clear hK K)))
 ·rw [QU hb]
 ·rw [Co ‹_› ?_]
  simp only [bJ,List.all_cons,List.all_nil,Bool.and_true,Bool.and_eq_false_imp,decide_eq_true_eq,decide_eq_false_iff_not]
  rcases hb with (h|h)|h
  ·exact .inl h
  ·exact .inr (by omega)
  ·exact .inr (by omega)
 all_goals
  have hw:bJ 1048576 [s.canvas.x0,s.canvas.y0]=true:=by
   simp only [bJ,List.all_cons,List.all_nil,Bool.and_true,Bool.and_eq_true,decide_eq_true_eq]
   omega
 ·rename_i q1 q
  rw [CC ⟨q1,q.1.1,hw⟩ hb]
 ·rename_i q1 q q2
  rw [Dr ⟨q1,q.1.1,hw⟩ q2 hb]
 ·rename_i q1 q q2 q3
  rw [qZ ⟨q1,q.1.1,hw⟩ q2 q3,if_pos (by omega)]
 ·rename_i q1 q q2 q3
  rw [qZ ⟨q1,q.1.1,hw⟩ q2 q3,if_neg (by omega)]
end Go.Proofs.YtcbifofjjpfbcaaGreatDoor
set_option maxHeartbeats 4000000
set_option maxRecDepth 16000
namespace Go.Proofs.YtcbifofjjpfbcaaGreatDoor
open Go Go.SL
open Go.RowKit (wrap64)
theorem zW {l:List Op}:gX l=false↔0<l.length∧((l.getD (l.length - 1) default).knockout=true∨(l.getD (l.length - 1) default).isolated=false):=by
 cases l with
 | nil=>simp [gX]
 | cons a r =>
  simp only [gX,List.isEmpty_cons,Bool.false_or,Bool.and_eq_false_imp,Bool.not_eq_false',List.length_cons,Nat.zero_lt_succ,true_and]
  generalize ((a :: r).getD (r.length+1 - 1) default).isolated=x
  generalize ((a :: r).getD (r.length+1 - 1) default).knockout=y
  cases x <;> cases y <;> decide
theorem Km {k a b c d:Int}:bJ k [a,b,c,d]=false↔¬ (-k≤a∧a≤k ∧ -k≤b∧b≤k ∧ -k≤c∧c≤k ∧ -k≤d∧d≤k):=by
 rw [← Bool.not_eq_true]
 simp only [bJ,List.all_cons,List.all_nil,Bool.and_true,Bool.and_eq_true,decide_eq_true_eq]
 omega
theorem yB (s:Script) (i:Int) (l:List Op) (hs:ScriptLen s) (hl:l.length≤4611686018427387904):aF Sg 102 [ag (aL s),I i, .c (.p (qB l))] (fun x=>x = .b (I (fW s i l))):=by
 obtain ⟨h1,h2,h3⟩:=hs
 refine aI Tryz.func102 [.tmp 6] ?_
 repeat' (first|refine an ?_|((first|refine aj (fun K hK => ?_)|refine ae (mP _) ?_|refine ae (Di _ (by omega) (by omega)) ?_|refine ae (GK _) ?_|refine ae (BI _) ?_|refine ae (vk _) ?_|refine aq (fun hg=>vk _) ?_);and_intros;all_goals first|(refine hK _ ?_;clear hK K)|try exact aa)|(refine aH (fun hb => ?_) (fun hb => ?_);all_goals try exact ax)|(refine ai ?_;(try clear hB KB);(try clear hK K)))
 all_goals
  refine Cj ?_
  have hmx:bA s.bits=if s.bits=8 then 255 else if s.bits=16 then 65535 else 0:=rfl
  have e:((l.length:Int) - 1).toNat=l.length - 1:=by omega
  simp only [fW,fC,Km,zW]
  try simp only [e] at *
  generalize s.ops.getD i.toNat default=o at *
  repeat (first|(with_reducible rfl)|(refine Eq.symm (Eq.trans (if_pos ?_) (Eq.symm ?_));focus (first|(assumption;done)|omega|(simp [*];done)))|(refine Eq.symm (Eq.trans (if_neg ?_) (Eq.symm ?_));focus (first|(assumption;done)|omega|(simp [*];done)))|(refine Eq.symm (Eq.trans (if_neg ?_) (Eq.symm ?_));focus (grind;done))|(refine Eq.symm (Eq.trans (if_pos ?_) (Eq.symm ?_));focus (grind;done)))
end Go.Proofs.YtcbifofjjpfbcaaGreatDoor
set_option maxHeartbeats 4000000
set_option maxRecDepth 16000
namespace Go.Proofs.YtcbifofjjpfbcaaGreatDoor
open Go Go.SL
open Go.RowKit (wrap64)
theorem oq (s:Script) (hs:ScriptLen s):aF Sg 65 [ag (aL s)] (fun x=>x = .tup [I (jh s).1,I (jh s).2]):=by
 have hf:=ou s hs
 obtain ⟨h1,h2,h3⟩:=id hs
 refine aI Tryz.func65 [.tmp 2, .tmp 3] ?_
 repeat' (first|refine an ?_|((first|refine aj (fun K hK => ?_)|refine ae (hf) ?_);and_intros;all_goals first|(refine hK _ ?_;clear hK K)|try exact aa)|(refine aH (fun hb => ?_) (fun hb => ?_);all_goals try exact ax)|(refine ai ?_;(try clear hB KB);(try clear hK K)))
 ·rw [jh,if_neg hb]
 have hfo:=qP hb
 rw [jh,if_pos hb]
 clear hf
 refine aM (X:=Nat × List Op × Nat × (Nat→Nat→PV)) (fun x=>bg [(1, .b (.c (.ptr 0 0))),(5, .b (.c (.own 1 x.2.1.length))),(6, .b (I x.1))]
  [(0, .fix ((aL s).map CV.p)),(1, .arr 74 12 x.2.2.1 x.2.2.2)] 2) (fun x=>x.1≤s.ops.length∧x.2.1.length≤x.1∧x.2.1.length≤x.2.2.1∧(∀ k,k<x.2.1.length→∀ j,j<12→x.2.2.2 k j=dG eA x.2.1 k j) ∧
   fR s.bits s.images.length x.1 (s.ops.drop x.1) x.2.1=fR s.bits s.images.length 0 s.ops []) (fun x=>s.ops.length - x.1) (0,[],0,fun _ _ => .any) ?_ ?_ ?_
 ·exact ⟨by omega,Nat.le_refl _,Nat.le_refl _,fun k hk=>by simp at hk,rfl⟩
 ·refine aE [(1,none)] ?_ ?_
  and_intros
  all_goals first|exact aw|skip
 ·rintro ⟨i,l,m,g⟩ ⟨hi,hl,hm,hg,hgo⟩
  dsimp only at hi hl hm hg hgo ⊢
  have hv:=yB s i l hs (by omega)
  have he:i<s.ops.length→fW s i l=fC s.bits s.images.length (s.ops.getD i default) l:=fun h=>by
   rw [fW,if_neg (by omega),Int.toNat_natCast]
  have hpop:i<s.ops.length→fW s i l=0→(s.ops.getD (i:Int).toNat default).kind=3→0<l.length:=fun h1 h2 h3=>by
   rw [he h1] at h2
   exact wB h2 h3
  repeat' (first|refine an ?_|(refine aj (fun K hK => ?_);and_intros;all_goals first|(refine hK _ ?_;clear hK K)|try exact aa)|(refine aH (fun hb => ?_) (fun hb => ?_);all_goals try exact ax)|(refine ai ?_;(try clear hB KB);(try clear hK K)))
  ·refine fk ?_ ?_ (by simp (maxSteps:=999999)(disch:=omega) only [go_sem]) ?_ (hv)
   try simp (maxSteps:=999999)(disch:=omega) only [go_sem]
   try (refine hK _ ?_;clear hK K)
   ·repeat' (first|refine an ?_|(refine aj (fun K hK => ?_);and_intros;all_goals first|(refine hK _ ?_;clear hK K)|try exact aa)|((first|apply aC|apply ay);(case hf=>rfl);(case hc=>exact aS);(all_goals first|(intro hb;(try simp only [bZ] at hb))|skip))|exact ao|(refine aH (fun hb => ?_) (fun hb => ?_);all_goals try exact ax)|(refine ai ?_;(try clear hB KB);(try clear hK K)))
    ·rw [he (by omega)] at hb ⊢
     rw [← hgo,lO (by omega),if_neg hb]
    ·have hn:∀ l',cI l (s.ops.getD i default)=l'→fR s.bits s.images.length (i+1) (s.ops.drop (i+1)) l'=fR s.bits s.images.length 0 s.ops []:=by
      rintro l' rfl
      have q:=lO (b:=s.bits) (n:=s.images.length) (l:=l) (show i<s.ops.length by omega)
      rw [if_pos (by rw [← he (by omega)];exact hb)] at q
      rw [← q,hgo]
     rw [ah]
     simp only [Int.toNat_natCast] at hpop ⊢
     by_cases hk2:(s.ops.getD i default).kind=2
     ·have e2:((s.ops.getD i default).kind == 2)=true:=by rw [hk2];rfl
      simp only [e2,St.ite_t]
      refine au (i+1,l ++ [s.ops.getD i default],l.length+1,dG eA (l ++ [s.ops.getD i default])) ?_ ⟨by omega,by simp;omega,by simp,fun _ _ _ _=>rfl,hn _ (by rw [cI,if_pos hk2])⟩ (by dsimp only;omega)
      refine aE [(1,some 3)] ?_ ?_
      and_intros
      all_goals first|exact aw|skip
      ·simp
      ·refine .inr fun a ha j hj=>xz hg (fun j hj => ?_) a (by simpa using ha) j hj
       have hivl:j=0∨j=1∨j=2∨j=3∨j=4∨j=5∨j=6∨j=7∨j=8∨j=9∨j=10∨j=11:=by omega
       rcases hivl with rfl|rfl|rfl|rfl|rfl|rfl|rfl|rfl|rfl|rfl|rfl|rfl <;> rfl
     ·have e2:((s.ops.getD i default).kind == 2)=false:=by simpa using hk2
      simp only [e2,St.ite_f]
      by_cases hk3:(s.ops.getD i default).kind=3
      ·have e3:((s.ops.getD i default).kind == 3)=true:=by rw [hk3];rfl
       simp only [e3,St.ite_t]
       have hp:=hpop (by omega) hb hk3
       refine au (i+1,l.dropLast,m,g) ?_ ⟨by omega,by rw [List.length_dropLast];dsimp only;omega,by rw [List.length_dropLast];dsimp only;omega,Au hg,hn _ (by rw [cI,if_neg hk2,if_pos hk3])⟩ (by dsimp only;omega)
       refine aE [(1,some 1)] ?_ ?_
       and_intros
       all_goals first|exact aw|skip
       rw [List.length_dropLast];omega
      ·have e3:((s.ops.getD i default).kind == 3)=false:=by simpa using hk3
       simp only [e3,St.ite_f]
       refine au (i+1,l,m,g) ?_ ⟨by omega,by dsimp only;omega,hm,hg,hn _ (by rw [cI,if_neg hk2,if_neg hk3])⟩ (by dsimp only;omega)
       refine aE [(1,some 1)] ?_ ?_
       and_intros
       all_goals first|exact aw|skip
   ·simp (maxSteps:=1000000) (disch:=omega) only [go_sem,dU,eE]
    rw [if_pos hm]
    exact ⟨lq,lq,wQ hg⟩
   ·trivial
  ·have hi2:i=s.ops.length:=by omega
   (try rw [jh,if_pos (by assumption)]);rw [← hgo,hi2,List.drop_length,fR,if_pos (by omega)]
  ·have hi2:i=s.ops.length:=by omega
   (try rw [jh,if_pos (by assumption)]);rw [← hgo,hi2,List.drop_length,fR,if_neg (by omega)]
end Go.Proofs.YtcbifofjjpfbcaaGreatDoor
set_option maxHeartbeats 1000000
set_option maxRecDepth 16000
namespace Go.Proofs.YtcbifofjjpfbcaaGreatDoor
open Go Go.SL
open Go.RowKit (wrap64)
attribute [local go_sem] AA Am
theorem dD (r q:Rect):aF Sg 80 [ag (bc r),ag (bc q)] (fun x=>x = .b (ag (bc (eS r q)))):=by
 refine aI Tryz.func80 [.cell 4 28] ?_
 repeat' (first|refine an ?_|((first|refine aj (fun K hK => ?_)|refine ae (bo _) ?_|refine aq (fun hg=>bo _) ?_|refine ae (ov ⟨max r.x0 q.x0,max r.y0 q.y0,min r.x1 q.x1,min r.y1 q.y1⟩) ?_);and_intros;all_goals first|(refine hK _ ?_;clear hK K)|try exact aa)|(refine aH (fun hb => ?_) (fun hb => ?_);all_goals try exact ax)|(refine ai ?_;(try clear hB KB);(try clear hK K)))
 ·rw [eS,if_pos hb];rfl
 ·rw [eS,if_neg (by rw [hb.1,hb.2];simp)];rfl
theorem iv (o:Int):aF Sg 162 [I o] (fun x=>x = .b (B (cQ o))):=by
 refine aI Tryz.func162 [.tmp 2] ?_
 repeat' (first|with_reducible exact aK|refine an ?_|((first|refine aj (fun K hK => ?_)|refine aY ?_);and_intros;all_goals first|(refine hK _ ?_;clear hK K)|try exact aa)|((first|apply aC|apply ay);(case hf=>rfl);(case hc=>exact aS);(all_goals first|(intro hb;(try simp only [bZ] at hb))|skip))|exact ao|(refine aH (fun hb => ?_) (fun hb => ?_);all_goals try exact ax)|refine ar (fun KB hB => ?_)|(refine hB _ ?_;clear hB KB)|refine aA (S:=Sg) (by assumption) ?_|(refine ai ?_;(try clear hB KB);(try clear hK K)))
 refine dS ?_
 (try simp only [cQ,Bool.and_eq_true,Bool.or_eq_true,Bool.not_eq_true',Bool.not_eq_false',decide_eq_true_eq,decide_eq_false_iff_not,ge_iff_le,gt_iff_lt,beq_iff_eq,bne_iff_ne,ne_eq,Bool.or_eq_false_iff,Bool.and_eq_false_imp,Bool.not_true,Bool.not_false])
 try omega
theorem Cg (l:List Rect) (hl:l.length≤4611686018427387904):aF Sg 164 [.c (.p (zy l))] (fun x=>x = .b (ag (bc (dd l)))):=by
 refine aI Tryz.func164 [.cell 2 28] ?_
 repeat' (first|with_reducible exact aK|refine an ?_|((first|refine aj (fun K hK => ?_)|refine aY ?_);and_intros;all_goals first|(refine hK _ ?_;clear hK K)|try exact aa)|((first|apply aC|apply ay);(case hf=>rfl);(case hc=>exact aS);(all_goals first|(intro hb;(try simp only [bZ] at hb))|skip))|exact ao|(refine aH (fun hb => ?_) (fun hb => ?_);all_goals try exact ax)|refine ar (fun KB hB => ?_)|(refine hB _ ?_;clear hB KB)|refine aA (S:=Sg) (by assumption) ?_|(refine ai ?_;(try clear hB KB);(try clear hK K)))
 refine aM (X:=Nat × Rect) (fun x=>bg [(0, .b (.c (.p (zy l)))),(2, .b (.c (.ptr 0 0))),(3, .b (.c (.ptr 1 0))),(4, .b (I x.1))] [(0, .fix ((bc cX).map CV.p)),(1, .fix ((bc x.2).map CV.p))] 2)
  (fun x=>x.1≤l.length∧x.2=dd (l.take x.1)) (fun x=>l.length - x.1) (0,cX) ?_ ?_ ?_
 ·exact ⟨by dsimp only;omega,rfl⟩
 ·refine aE [(1,some 1)] ?_ ?_
  and_intros
  all_goals first|exact aw|skip
 ·rintro ⟨i,h⟩ ⟨hi,hh⟩
  dsimp only at hi hh ⊢
  have e0:=wR (l:=l) (i:=i)
  cases he:aU (l.getD i default) with
  | true =>
   repeat' (first|with_reducible exact aK|refine ak he ?_|refine an ?_|((first|refine aj (fun K hK => ?_)|refine aY ?_|refine ae (bo (l.getD i default)) ?_|refine aq (fun hg=>bo (l.getD i default)) ?_|refine ae (bo h) ?_|refine aq (fun hg=>bo h) ?_);and_intros;all_goals first|(refine hK _ ?_;clear hK K)|try exact aa)|((first|apply aC|apply ay);(case hf=>rfl);(case hc=>exact aS);(all_goals first|(intro hb;(try simp only [bZ] at hb))|skip))|exact ao|(refine aH (fun hb => ?_) (fun hb => ?_);all_goals try exact ax)|refine ar (fun KB hB => ?_)|(refine hB _ ?_;clear hB KB)|refine aA (S:=Sg) (by assumption) ?_|(refine ai ?_;(try clear hB KB);(try clear hK K)))
   ·rw [ah]
    refine au (i+1,h) ?_ ⟨by dsimp only;omega,by rw [e0 (by omega),fS,if_pos he,hh]⟩ (by dsimp only;omega)
    refine aE [(1,some 1)] ?_ ?_
    and_intros
    all_goals first|exact aw|skip
   ·rw [hh,show i=l.length by omega,List.take_length];rfl
  | false =>
   cases he2:aU h with
   | true =>
    repeat' (first|with_reducible exact aK|refine ak (And.intro he he2) ?_|refine an ?_|((first|refine aj (fun K hK => ?_)|refine aY ?_|refine ae (bo (l.getD i default)) ?_|refine aq (fun hg=>bo (l.getD i default)) ?_|refine ae (bo h) ?_|refine aq (fun hg=>bo h) ?_);and_intros;all_goals first|(refine hK _ ?_;clear hK K)|try exact aa)|((first|apply aC|apply ay);(case hf=>rfl);(case hc=>exact aS);(all_goals first|(intro hb;(try simp only [bZ] at hb))|skip))|exact ao|(refine aH (fun hb => ?_) (fun hb => ?_);all_goals try exact ax)|refine ar (fun KB hB => ?_)|(refine hB _ ?_;clear hB KB)|refine aA (S:=Sg) (by assumption) ?_|(refine ai ?_;(try clear hB KB);(try clear hK K)))
    ·rw [ah]
     refine au (i+1,l.getD i default) ?_ ⟨by dsimp only;omega,by rw [e0 (by omega),fS,if_neg (by rw [he];simp),← hh,if_pos he2]⟩ (by dsimp only;omega)
     refine aE [(1,some 1)] ?_ ?_
     and_intros
     all_goals first|exact aw|skip
    ·rw [hh,show i=l.length by omega,List.take_length];rfl
   | false =>
    repeat' (first|with_reducible exact aK|refine ak (And.intro he he2) ?_|refine an ?_|((first|refine aj (fun K hK => ?_)|refine aY ?_|refine ae (bo (l.getD i default)) ?_|refine aq (fun hg=>bo (l.getD i default)) ?_|refine ae (bo h) ?_|refine aq (fun hg=>bo h) ?_);and_intros;all_goals first|(refine hK _ ?_;clear hK K)|try exact aa)|((first|apply aC|apply ay);(case hf=>rfl);(case hc=>exact aS);(all_goals first|(intro hb;(try simp only [bZ] at hb))|skip))|exact ao|(refine aH (fun hb => ?_) (fun hb => ?_);all_goals try exact ax)|refine ar (fun KB hB => ?_)|(refine hB _ ?_;clear hB KB)|refine aA (S:=Sg) (by assumption) ?_|(refine ai ?_;(try clear hB KB);(try clear hK K)))
    ·rw [ah]
     refine au (i+1,⟨min (l.getD i default).x0 h.x0,min (l.getD i default).y0 h.y0,max (l.getD i default).x1 h.x1,max (l.getD i default).y1 h.y1⟩) ?_ ⟨by dsimp only;omega,by rw [e0 (by omega),fS,if_neg (by rw [he];simp),← hh,if_neg (by rw [he2];simp)];rw [Int.min_comm _ h.x0,Int.min_comm _ h.y0,Int.max_comm _ h.x1,Int.max_comm _ h.y1]⟩ (by dsimp only;omega)
     refine aE [(1,some 1)] ?_ ?_
     and_intros
     all_goals first|exact aw|skip
    ·rw [hh,show i=l.length by omega,List.take_length];rfl
def Cc (a b c d:Int) (k:Nat):Int:=[a,b,c,d].getD k 0
theorem Hw {a b c d:Int} {k:Nat} (hk:k<4) (h:iB (Cc a b c d k)=true):(iB c || iB d || iB a || iB b)=true:=by
 have:k=0∨k=1∨k=2∨k=3:=by omega
 rcases this with rfl|rfl|rfl|rfl <;> simp only [Cc,List.getD_cons_zero,List.getD_cons_succ] at h <;> simp [h]
theorem FL {a b c d:Int} (h:∀ j,j<4→iB (Cc a b c d j)=false):iB a=false∧iB b=false∧iB c=false∧iB d=false :=
 ⟨h 0 (by omega),h 1 (by omega),h 2 (by omega),h 3 (by omega)⟩
theorem jl (s:Script) (i x y:Int) (hs:ScriptLen s):aF Sg 187 [ag (aL s),I i,I x,I y] (fun r=>r = .b (ag (bc (dP s i x y)))):=by
 obtain ⟨h1,h2,h3⟩:=id hs
 refine aI Tryz.func187 [.cell 8 28] ?_
 repeat' (first|with_reducible exact aK|refine an ?_|((first|refine aj (fun K hK => ?_)|refine aY ?_);and_intros;all_goals first|(refine hK _ ?_;clear hK K)|try exact aa)|((first|apply aC|apply ay);(case hf=>rfl);(case hc=>exact aS);(all_goals first|(intro hb;(try simp only [bZ] at hb))|skip))|exact ao|(refine aH (fun hb => ?_) (fun hb => ?_);all_goals try exact ax)|refine ar (fun KB hB => ?_)|(refine hB _ ?_;clear hB KB)|refine aA (S:=Sg) (by assumption) ?_|(refine ai ?_;(try clear hB KB);(try clear hK K)))
 ·rw [dP,if_pos (by omega)];rfl
 refine aM (X:=Nat) (fun k=>bg [(2, .b (I x)),(3, .b (I y)),(4, .b (.c (.ptr 0 0))),(8, .b (.c (.ptr 1 0))),(9, .b (.c (.own 2 4))),(10, .b (I k))]
  [(0, .fix ((aL s).map CV.p)),(1, .fix ((bc cX).map CV.p)),(2, .arr 3 1 4 (fun a _=>PI (Cc (s.images.getD i.toNat default).w (s.images.getD i.toNat default).h x y a)))] 3)
  (fun k=>k≤4∧∀ j,j<k→iB (Cc (s.images.getD i.toNat default).w (s.images.getD i.toNat default).h x y j)=false) (fun k=>4 - k) 0 ?_ ?_ ?_
 ·exact ⟨by omega,fun j hj=>absurd hj (Nat.not_lt_zero _)⟩
 ·refine aE [(1,some 1),(2,some 2)] ?_ ?_
  and_intros
  all_goals first|exact aw|skip
  refine .inr fun a ha j hj => ?_
  have h2:j=0:=by omega
  subst h2
  have h1:a=0∨a=1∨a=2∨a=3:=by omega
  rcases h1 with rfl|rfl|rfl|rfl <;> exact fun _ _ _ h=>h
 ·rintro k ⟨hk,hf⟩
  rcases Nat.lt_or_ge k 4 with hk4|hk4
  ·repeat' (first|with_reducible exact aK|refine an ?_|((first|refine aj (fun K hK => ?_)|refine aY ?_);and_intros;all_goals first|(refine hK _ ?_;clear hK K)|try exact aa)|((first|apply aC|apply ay);(case hf=>rfl);(case hc=>exact aS);(all_goals first|(intro hb;(try simp only [bZ] at hb))|skip))|exact ao|(refine aH (fun hb => ?_) (fun hb => ?_);all_goals try exact ax)|refine ar (fun KB hB => ?_)|(refine hB _ ?_;clear hB KB)|refine aA (S:=Sg) (by assumption) ?_|(refine ai ?_;(try clear hB KB);(try clear hK K)))
   ·rw [dP,if_neg (by omega),if_pos (Hw hk4 (by simp only [Int.toNat_natCast] at hb;simp only [iB,decide_eq_true_eq];omega))];rfl
   ·rw [ah]
    refine au (k+1) ?_ ⟨by omega,fun j hj => ?_⟩ (by omega)
    ·refine aE [(1,some 1),(2,some 2)] ?_ ?_
     and_intros
     all_goals first|exact aw|skip
    ·by_cases e:j=k
     ·rw [e];simp only [Int.toNat_natCast] at hb;simp only [iB,decide_eq_false_iff_not];omega
     ·exact hf j (by omega)
  ·have hk5:k=4:=by omega
   subst hk5
   obtain ⟨n1,n2,n3,n4⟩:=FL hf
   have f1:=mh n1
   have f2:=mh n2
   have f3:=mh n3
   have f4:=mh n4
   have e1:Cc (s.images.getD i.toNat default).w (s.images.getD i.toNat default).h x y 0=(s.images.getD i.toNat default).w:=rfl
   have e2:Cc (s.images.getD i.toNat default).w (s.images.getD i.toNat default).h x y 1=(s.images.getD i.toNat default).h:=rfl
   repeat' (first|with_reducible exact aK|refine an ?_|((first|refine aj (fun K hK => ?_)|refine aY ?_|refine ae (dD ⟨x,y,x+(s.images.getD i.toNat default).w,y+(s.images.getD i.toNat default).h⟩ s.canvas) ?_|refine aq (fun hg=>dD ⟨x,y,x+(s.images.getD i.toNat default).w,y+(s.images.getD i.toNat default).h⟩ s.canvas) ?_);and_intros;all_goals first|(refine hK _ ?_;clear hK K)|try exact aa)|((first|apply aC|apply ay);(case hf=>rfl);(case hc=>exact aS);(all_goals first|(intro hb;(try simp only [bZ] at hb))|skip))|exact ao|(refine aH (fun hb => ?_) (fun hb => ?_);all_goals try exact ax)|refine ar (fun KB hB => ?_)|(refine hB _ ?_;clear hB KB)|refine aA (S:=Sg) (by assumption) ?_|(refine ai ?_;(try clear hB KB);(try clear hK K)))
   rw [dP,if_neg (by omega),if_neg (by rw [n1,n2,n3,n4];simp)];rfl
theorem fU (s:Script) (o:Op) (hs:ScriptLen s):aF Sg 163 [ag (aL s),ag (eA o)] (fun r=>r = .b (ag (bc (bE s o)))):=by
 refine aI Tryz.func163 [.cell 4 28] ?_
 repeat' (first|with_reducible exact aK|refine an ?_|((first|refine aj (fun K hK => ?_)|refine aY ?_|refine ae (jl s o.image o.x o.y hs) ?_|refine aq (fun hg=>jl s o.image o.x o.y hs) ?_);and_intros;all_goals first|(refine hK _ ?_;clear hK K)|try exact aa)|((first|apply aC|apply ay);(case hf=>rfl);(case hc=>exact aS);(all_goals first|(intro hb;(try simp only [bZ] at hb))|skip))|exact ao|(refine aH (fun hb => ?_) (fun hb => ?_);all_goals try exact ax)|refine ar (fun KB hB => ?_)|(refine hB _ ?_;clear hB KB)|refine aA (S:=Sg) (by assumption) ?_|(refine ai ?_;(try clear hB KB);(try clear hK K)))
 ·rw [bE,if_neg (by omega)];rfl
 ·rw [bE,if_pos (by omega)];rfl
theorem gJ (s:Script) (o:Op) (hs:ScriptLen s) (hm:0≤o.mask∧o.mask≤1000000):aF Sg 165 [ag (aL s),ag (eA o)] (fun r=>r = .b (ag (bc (bT s o)))):=by
 obtain ⟨m1,m2⟩:=hm
 refine aI Tryz.func165 [.cell 4 28] ?_
 repeat' (first|with_reducible exact aK|refine an ?_|((first|refine aj (fun K hK => ?_)|refine aY ?_|refine ae (dD s.canvas s.canvas) ?_|refine aq (fun hg=>dD s.canvas s.canvas) ?_|refine ae (jl s (o.mask - 1) o.maskX o.maskY hs) ?_|refine aq (fun hg=>jl s (o.mask - 1) o.maskX o.maskY hs) ?_);and_intros;all_goals first|(refine hK _ ?_;clear hK K)|try exact aa)|((first|apply aC|apply ay);(case hf=>rfl);(case hc=>exact aS);(all_goals first|(intro hb;(try simp only [bZ] at hb))|skip))|exact ao|(refine aH (fun hb => ?_) (fun hb => ?_);all_goals try exact ax)|refine ar (fun KB hB => ?_)|(refine hB _ ?_;clear hB KB)|refine aA (S:=Sg) (by assumption) ?_|(refine ai ?_;(try clear hB KB);(try clear hK K)))
 ·rw [bT,if_pos (by omega)];rfl
 ·rw [bT,if_neg (by omega)];rfl
end Go.Proofs.YtcbifofjjpfbcaaGreatDoor
set_option maxHeartbeats 1000000
set_option maxRecDepth 16000
namespace Go.Proofs.YtcbifofjjpfbcaaGreatDoor
open Go Go.SL
open Go.RowKit (wrap64)
attribute [local go_sem] lU Int.toNat_natCast
attribute [local go_sem] lL
theorem wL (s:Script) (V:VOps s):aF Sg 84 [.c (.p (qB s.ops))] (fun x=>x = .tup [.c (.p (ee s.ops.length (aR s.ops))),I 0]):=by
 have hn:=V.cnt
 have W:=V.wf
 refine aI Tryz.func84 [.tmp 2, .tmp 3] ?_
 repeat' (first|with_reducible exact aK|refine an ?_|((first|refine aj (fun K hK => ?_)|refine aY ?_);and_intros;all_goals first|(refine hK _ ?_;clear hK K)|try exact aa)|((first|apply aC|apply ay);(case hf=>rfl);(case hc=>exact aS);(all_goals first|(intro hb;(try simp only [bZ] at hb))|skip))|exact ao|(refine aH (fun hb => ?_) (fun hb => ?_);all_goals try exact ax)|refine ar (fun KB hB => ?_)|(refine hB _ ?_;clear hB KB)|refine aA (S:=Sg) (by assumption) ?_|(refine ai ?_;(try clear hB KB);(try clear hK K)))
 refine aM (X:=Nat × List Nat) (fun x=>bg [(0, .b (.c (.p (qB s.ops)))),(2, .b (.c (.p (.val (.slice none 0 0))))),(3, .b (I 0)),(4, .b (.c (.own 0 s.ops.length))),(5, .b (.c (.own 1 (bI s.ops x.1).length))),(6, .b (I x.1))]
  [(0, .arr 3 1 s.ops.length (fun a _=>PI (sG s.ops x.1 a))),(1, .arr 3 1 ((bI s.ops x.1).length+x.2.length) (fun a _=>PI (Gn (bI s.ops x.1) x.2 a)))] 2)
  (fun x=>x.1≤s.ops.length) (fun x=>s.ops.length - x.1) (0,[]) ?_ ?_ ?_
 ·exact Nat.zero_le _
 ·refine aE [(1,none)] ?_ ?_
  and_intros
  all_goals first|exact aw|skip
  refine .inr fun a ha j hj => ?_
  have h2:j=0:=by omega
  subst h2
  exact fun _ _ _ h=>h
 ·rintro ⟨i,junk⟩ hi
  dsimp only at hi ⊢
  have hsl:=te s.ops i
  rcases Nat.lt_or_ge i s.ops.length with hlt|hge
  ·rcases W.kinds i hlt with hk|hk|hk
   ·have hk2:(s.ops.getD i default).kind=1:=hk
    repeat' (first|with_reducible exact aK|refine an ?_|((first|refine aj (fun K hK => ?_)|refine aY ?_);and_intros;all_goals first|(refine hK _ ?_;clear hK K)|try exact aa)|((first|apply aC|apply ay);(case hf=>rfl);(case hc=>exact aS);(all_goals first|(intro hb;(try simp only [bZ] at hb))|skip))|exact ao|(refine aH (fun hb => ?_) (fun hb => ?_);all_goals try exact ax)|refine ar (fun KB hB => ?_)|(refine hB _ ?_;clear hB KB)|refine aA (S:=Sg) (by assumption) ?_|(refine ai ?_;(try clear hB KB);(try clear hK K)))
    rw [ah]
    refine au (i+1,junk) ?_ (by dsimp only;omega) (by dsimp only;omega)
    dsimp only
    rw [cr hk]
    refine aE [(1,some 1)] ?_ ?_
    and_intros
    all_goals first|exact aw|skip
    refine .inr fun a ha j hj => ?_
    have h2:j=0:=by omega
    subst h2
    by_cases e:a=i
    ·rw [if_pos e,if_pos (by omega),e,sG,if_neg (by omega),bV];exact fun _ _ _ h=>h
    ·rw [if_neg e,sG,if_neg (by omega),cC _ _ e];exact fun _ _ _ h=>h
   ·have hk2:(s.ops.getD i default).kind=2:=hk
    repeat' (first|with_reducible exact aK|refine an ?_|((first|refine aj (fun K hK => ?_)|refine aY ?_);and_intros;all_goals first|(refine hK _ ?_;clear hK K)|try exact aa)|((first|apply aC|apply ay);(case hf=>rfl);(case hc=>exact aS);(all_goals first|(intro hb;(try simp only [bZ] at hb))|skip))|exact ao|(refine aH (fun hb => ?_) (fun hb => ?_);all_goals try exact ax)|refine ar (fun KB hB => ?_)|(refine hB _ ?_;clear hB KB)|refine aA (S:=Sg) (by assumption) ?_|(refine ai ?_;(try clear hB KB);(try clear hK K)))
    rw [ah]
    refine au (i+1,[]) ?_ (by dsimp only;omega) (by dsimp only;omega)
    dsimp only
    rw [ct hk]
    refine aE [(1,some 3)] ?_ ?_
    and_intros
    all_goals first|exact aw|skip
    ·refine .inr fun a ha j hj => ?_
     have h2:j=0:=by omega
     subst h2
     by_cases e:a=i
     ·rw [if_pos e,if_pos (by omega),e,sG,if_neg (by omega),bV];exact fun _ _ _ h=>h
     ·rw [if_neg e,sG,if_neg (by omega),cC _ _ e];exact fun _ _ _ h=>h
    refine .inr fun a ha j hj => ?_
    have h2:j=0:=by omega
    subst h2
    unfold gh
    by_cases h:a<(bI s.ops i).length
    ·rw [if_pos h,yy h];exact fun _ _ _ h=>h
    ·have ea:a=(bI s.ops i).length:=by omega
     rw [if_neg h,ea,lL,Nat.sub_self];exact fun _ _ _ h=>h
   ·have hk2:(s.ops.getD i default).kind=3:=hk
    cases hs:bI s.ops i with
    | nil=>exact absurd hs (W.pops i hlt hk)
    | cons p t =>
     have hp:p<i:=dR (ops:=s.ops) (by rw [hs];exact List.mem_cons_self ..)
     have htl:t.length≤4096:=by rw [hs] at hsl;simp at hsl;omega
     repeat' (first|with_reducible exact aK|refine an ?_|((first|refine aj (fun K hK => ?_)|refine aY ?_);and_intros;all_goals first|(refine hK _ ?_;clear hK K)|try exact aa)|((first|apply aC|apply ay);(case hf=>rfl);(case hc=>exact aS);(all_goals first|(intro hb;(try simp only [bZ] at hb))|skip))|exact ao|(refine aH (fun hb => ?_) (fun hb => ?_);all_goals try exact ax)|refine ar (fun KB hB => ?_)|(refine hB _ ?_;clear hB KB)|refine aA (S:=Sg) (by assumption) ?_|(refine ai ?_;(try clear hB KB);(try clear hK K)))
     rw [ah]
     refine au (i+1,p :: junk) ?_ (by dsimp only;omega) (by dsimp only;omega)
     dsimp only
     rw [dQ hk,hs]
     refine aE [(1,some 1)] ?_ ?_
     and_intros
     all_goals first|exact aw|skip
     ·refine .inr fun a ha j hj => ?_
      have h2:j=0:=by omega
      subst h2
      rw [sG,if_pos hk,hs]
      dsimp only [List.headD]
      by_cases e:a=p
      ·rw [if_pos e,e,bV];exact fun _ _ _ h=>h
      ·rw [if_neg e,cC _ _ e]
       by_cases e2:a=i
       ·rw [if_pos e2,e2,bV];exact fun _ _ _ h=>h
       ·rw [if_neg e2,cC _ _ e2];exact fun _ _ _ h=>h
     ·show _=t.length+(junk.length+1);omega
     ·exact .inl (by rw [yg];rfl)
  ·have hi2:i=s.ops.length:=by omega
   subst hi2
   rw [W.fin]
   repeat' (first|with_reducible exact aK|refine an ?_|((first|refine aj (fun K hK => ?_)|refine aY ?_);and_intros;all_goals first|(refine hK _ ?_;clear hK K)|try exact aa)|((first|apply aC|apply ay);(case hf=>rfl);(case hc=>exact aS);(all_goals first|(intro hb;(try simp only [bZ] at hb))|skip))|exact ao|(refine aH (fun hb => ?_) (fun hb => ?_);all_goals try exact ax)|refine ar (fun KB hB => ?_)|(refine hB _ ?_;clear hB KB)|refine aA (S:=Sg) (by assumption) ?_|(refine ai ?_;(try clear hB KB);(try clear hK K)))
   rfl
end Go.Proofs.YtcbifofjjpfbcaaGreatDoor
set_option maxHeartbeats 2000000
set_option maxRecDepth 16000
namespace Go.Proofs.YtcbifofjjpfbcaaGreatDoor
open Go Go.SL
open Go.RowKit (wrap64)
attribute [local go_sem] Int.toNat_natCast
theorem EL {s:Script} {o:Op} {r:Rect} (h:cQ o.operator=false):s.canvas=fK s o r:=by rw [fK,if_pos h]
theorem DY {s:Script} {o:Op} {r:Rect} (h:cQ o.operator=true) (h2:o.opacity=0):cX=fK s o r:=by rw [fK,if_neg (by rw [h];simp),if_pos h2]
theorem Ed {s:Script} {o:Op} {r:Rect} (h:cQ o.operator=true) (h2:¬ o.opacity=0):eS r (bT s o)=fK s o r:=by rw [fK,if_neg (by rw [h];simp),if_neg h2]
theorem zh {e:Nat→Nat} {b:Nat}:∀ {l:List Nat} {a:Nat},KV e a b l→(∀ k ∈ l,k≤e k)→a+l.length≤b
 | [],a,h,_=>by have:a=b:=h;simp;omega
 | k :: l,a,⟨h1,h2⟩,h=>by
  have:=zh h2 fun q hq=>h q (List.mem_cons_of_mem _ hq)
  have:=h k (List.mem_cons_self ..)
  simp
  omega
theorem Hr {l:List Nat} {f:Nat→Rect} {a:Nat} (h:a<l.length):(l.map f).getD a default=f (l.getD a 0):=by
 simp [List.getD_eq_getElem?_getD,h]
theorem OV {l:List Nat} {m:Nat} (h:m<l.length):l.getD m 0=l[m]:=by simp [List.getD_eq_getElem?_getD,h]
theorem GB (s : Script) (V : VOps s) (hs : ScriptLen s) : ∀ (d i : Nat), i + d = s.ops.length → i < s.ops.length → (aB s.ops i).kind ≠ 3 →
  aF Sg 122 [ag (aL s), .c (.p (ee s.ops.length (aR s.ops))),I i] (fun x=>x = .b (ag (bc (bn s i)))):=by
 intro d
 induction d using Nat.strongRecOn with
 | _ d ih =>
 intro i hd hi hk
 have hn:=V.cnt
 have W:=V.wf
 have hm:=yZ V hi hk
 rcases W.kinds i hi with k|k|k
 ·have hk2:(s.ops.getD i default).kind=1:=k
  rw [vi W hi k]
  refine aI Tryz.func122 [.cell 6 28] ?_
  repeat' (first|with_reducible exact aK|refine ak hk2 ?_|refine an ?_|((first|refine aj (fun K hK => ?_)|refine aY ?_|refine ae (iv (s.ops.getD i default).operator) ?_|refine aq (fun hg=>iv (s.ops.getD i default).operator) ?_|refine ae (fU s (s.ops.getD i default) hs) ?_|refine aq (fun hg=>fU s (s.ops.getD i default) hs) ?_|refine ae (gJ s (s.ops.getD i default) hs hm) ?_|refine aq (fun hg=>gJ s (s.ops.getD i default) hs hm) ?_|refine ae (dD (bE s (s.ops.getD i default)) (bT s (s.ops.getD i default))) ?_|refine aq (fun hg=>dD (bE s (s.ops.getD i default)) (bT s (s.ops.getD i default))) ?_);and_intros;all_goals first|(refine hK _ ?_;clear hK K)|try exact aa)|((first|apply aC|apply ay);(case hf=>rfl);(case hc=>exact aS);(all_goals first|(intro hb;(try simp only [bZ] at hb))|skip))|exact ao|(refine aH (fun hb => ?_) (fun hb => ?_);all_goals try exact ax)|refine ar (fun KB hB => ?_)|(refine hB _ ?_;clear hB KB)|refine aA (S:=Sg) (by assumption) ?_|(refine ai ?_;(try clear hB KB);(try clear hK K)))
  ·rw [← EL (s:=s) (o:=aB s.ops i) hb];rfl
  ·rename_i hb2
   rw [← DY (s:=s) (o:=aB s.ops i) hb2 hb];rfl
  ·rename_i hb2
   rw [← Ed (s:=s) (o:=aB s.ops i) hb2 hb];rfl
 ·have hk2:(s.ops.getD i default).kind=2:=k
  obtain ⟨l,w1,w2,w3⟩:=Ao W hi k
  have hel:=fT W hi
  have hep:=gY W hi k
  rw [w3]
  refine aI Tryz.func122 [.cell 6 28] ?_
  repeat' (first|with_reducible exact aK|refine ak hk2 ?_|refine an ?_|((first|refine aj (fun K hK => ?_)|refine aY ?_|refine ae (iv (s.ops.getD i default).operator) ?_|refine aq (fun hg=>iv (s.ops.getD i default).operator) ?_|refine ae (fU s (s.ops.getD i default) hs) ?_|refine aq (fun hg=>fU s (s.ops.getD i default) hs) ?_);and_intros;all_goals first|(refine hK _ ?_;clear hK K)|try exact aa)|((first|apply aC|apply ay);(case hf=>rfl);(case hc=>exact aS);(all_goals first|(intro hb;(try simp only [bZ] at hb))|skip))|exact ao|(refine aH (fun hb => ?_) (fun hb => ?_);all_goals try exact ax)|refine ar (fun KB hB => ?_)|(refine hB _ ?_;clear hB KB)|refine aA (S:=Sg) (by assumption) ?_|(refine ai ?_;(try clear hB KB);(try clear hK K)))
  ·rw [← EL (s:=s) (o:=aB s.ops i) hb];rfl
  ·rename_i hb2
   rw [← DY (s:=s) (o:=aB s.ops i) hb2 hb];rfl
  rename_i hb2
  have hfin:=Ed (s:=s) (o:=aB s.ops i) (r:=dd (l.map (bn s))) hb2 hb
  refine aM (X:=Nat × Nat) (fun x=>bg [(1, .b (.c (.p (ee s.ops.length (aR s.ops))))),(2, .b (I i)),(3, .b (.c (.ptr 0 0))),(6, .b (.c (.ptr 1 0))),(7, .b (.c (.ptr 2 0))),(8, .b (.c (.ptr 3 0))),(9, .b (.c (.own 4 x.1))),(10, .b (I x.2))]
   [(0, .fix ((aL s).map CV.p)),(1, .fix ((bc cX).map CV.p)),(2, .fix ((eA (aB s.ops i)).map CV.p)),(3, .fix ((bc (bE s (aB s.ops i))).map CV.p)),(4, .arr 28 4 x.1 (fun a j=>(bc (bn s (l.getD a 0))).getD j .any))] 5)
   (fun x=>x.1≤l.length∧KV (aR s.ops) x.2 (aR s.ops i) (l.drop x.1)) (fun x=>l.length - x.1) (0,i+1) ?_ ?_ ?_
  ·exact ⟨Nat.zero_le _,w1⟩
  ·refine aE [(1,some 1),(2,some 2),(3,some 3),(4,none)] ?_ ?_
   and_intros
   all_goals first|exact aw|skip
   skip
  ·rintro ⟨m,k⟩ ⟨hml,hw⟩
   dsimp only at hml hw ⊢
   rcases Nat.lt_or_ge m l.length with hmlt|hmge
   ·rw [List.drop_eq_getElem_cons hmlt] at hw
    obtain ⟨rfl,hw⟩:=hw
    have hkl:=w2 l[m] (List.getElem_mem hmlt)
    have hel2:=fT W (show l[m]<s.ops.length by omega)
    have hlen:l.length≤4096:=by
     have:=zh w1 fun k hk=>tY W (by have:=(w2 k hk).1;omega)
     omega
    have hrec:=ih (s.ops.length - l[m]) (by omega) l[m] (by omega) (by omega) hkl.2
    repeat' (first|with_reducible exact aK|refine an ?_|((first|refine aj (fun K hK => ?_)|refine aY ?_|refine ae (hrec) ?_|refine aq (fun hg=>hrec) ?_);and_intros;all_goals first|(refine hK _ ?_;clear hK K)|try exact aa)|((first|apply aC|apply ay);(case hf=>rfl);(case hc=>exact aS);(all_goals first|(intro hb;(try simp only [bZ] at hb))|skip))|exact ao|(refine aH (fun hb => ?_) (fun hb => ?_);all_goals try exact ax)|refine ar (fun KB hB => ?_)|(refine hB _ ?_;clear hB KB)|refine aA (S:=Sg) (by assumption) ?_|(refine ai ?_;(try clear hB KB);(try clear hK K)))
    rw [ah]
    refine au (m+1,aR s.ops l[m]+1) ?_ ⟨by dsimp only;omega,hw⟩ (by dsimp only;omega)
    dsimp only
    refine aE [(1,some 1),(2,some 2),(3,some 3),(4,some 6)] ?_ ?_
    and_intros
    all_goals first|exact aw|skip
    refine .inr fun a ha j hj => ?_
    unfold gh
    by_cases h:a<m
    ·rw [if_pos h];exact fun _ _ _ h=>h
    ·have ea:a=m:=by omega
     rw [if_neg h,ea,Nat.sub_self,OV hmlt]
     have hivl:j=0∨j=1∨j=2∨j=3:=by omega
     rcases hivl with rfl|rfl|rfl|rfl <;> exact fun _ _ _ h=>h
   ·rw [List.drop_eq_nil_of_le hmge] at hw
    have hw:k=aR s.ops i:=hw
    have hm2:m=l.length:=by omega
    subst hm2
    have hlen:l.length≤4096:=by
     have:=zh w1 fun k hk=>tY W (by have:=(w2 k hk).1;omega)
     omega
    repeat' (first|with_reducible exact aK|refine an ?_|((first|refine aj (fun K hK => ?_)|refine aY ?_);and_intros;all_goals first|(refine hK _ ?_;clear hK K)|try exact aa)|((first|apply aC|apply ay);(case hf=>rfl);(case hc=>exact aS);(all_goals first|(intro hb;(try simp only [bZ] at hb))|skip))|exact ao|(refine aH (fun hb => ?_) (fun hb => ?_);all_goals try exact ax)|refine ar (fun KB hB => ?_)|(refine hB _ ?_;clear hB KB)|refine aA (S:=Sg) (by assumption) ?_|(refine ai ?_;(try clear hB KB);(try clear hK K)))
    refine fk ?_ ?_ (by simp (maxSteps:=999999)(disch:=omega) only [go_sem]) ?_ (Cg (l.map (bn s)) (by rw [List.length_map];omega))
    try simp (maxSteps:=999999)(disch:=omega) only [go_sem]
    try (refine hK _ ?_;clear hK K)
    ·repeat' (first|with_reducible exact aK|refine an ?_|((first|refine aj (fun K hK => ?_)|refine aY ?_|refine ae (gJ s (aB s.ops i) hs hm) ?_|refine aq (fun hg=>gJ s (aB s.ops i) hs hm) ?_|refine ae (dD (dd (l.map (bn s))) (bT s (aB s.ops i))) ?_|refine aq (fun hg=>dD (dd (l.map (bn s))) (bT s (aB s.ops i))) ?_);and_intros;all_goals first|(refine hK _ ?_;clear hK K)|try exact aa)|((first|apply aC|apply ay);(case hf=>rfl);(case hc=>exact aS);(all_goals first|(intro hb;(try simp only [bZ] at hb))|skip))|exact ao|(refine aH (fun hb => ?_) (fun hb => ?_);all_goals try exact ax)|refine ar (fun KB hB => ?_)|(refine hB _ ?_;clear hB KB)|refine aA (S:=Sg) (by assumption) ?_|(refine ai ?_;(try clear hB KB);(try clear hK K)))
     rw [← hfin];rfl
    ·simp (maxSteps:=1000000) (disch:=omega) only [go_sem,dU,eE,List.length_map]
     refine mA (gj fun a ha j hj => ?_)
     unfold dG
     rw [Hr ha]
     rfl
    ·exact qH _
 ·exact absurd k hk
def Dz (s:Script):Nat→Nat→Rect
 | 0=>fun _=>cX
 | i+1=>if (aB s.ops i).kind=3 then Dz s i else upd (upd (Dz s i) i (bn s i)) (aR s.ops i) (bn s i)
theorem Jc {s:Script} (W:Wf s.ops) {i:Nat} (hi:i<s.ops.length) (hk:(aB s.ops i).kind≠3):bn s (aR s.ops i)=bn s i:=by
 rcases W.kinds i hi with h|h|h
 ·rw [gn W hi h]
 ·obtain ⟨j,t,h1,h2,h3,h4⟩:=mK W (s.ops.length - (i+1)) (i+1) (by omega) (by rw [ct h];exact List.mem_cons_self ..)
  rw [fP W h2 h3 h4,yd W h2 h3,h4]
  rfl
 ·exact absurd h hk
theorem Hu {s:Script} (W:Wf s.ops):∀ i,i≤s.ops.length→∀ j,(j<i∧(aB s.ops j).kind≠3∨∃ p,p<i∧(aB s.ops p).kind≠3∧aR s.ops p=j)→Dz s i j=bn s j
 | 0,_,j,h=>by rcases h with h|⟨p,h,_⟩ <;> omega
 | i+1,hi,j,h=>by
  have ih:=Hu W i (by omega) j
  rw [Dz]
  split
  ·rename_i hk
   refine ih ?_
   rcases h with ⟨h1,h2⟩|⟨p,h1,h2,h3⟩
   ·exact .inl ⟨by have:j≠i:=fun e=>h2 (e ▸ hk);omega,h2⟩
   ·exact .inr ⟨p,by have:p≠i:=fun e=>h2 (e ▸ hk);omega,h2,h3⟩
  ·rename_i hk
   by_cases e1:j=aR s.ops i
   ·rw [e1,bV,Jc W (by omega) hk]
   ·rw [cC _ _ e1]
    by_cases e2:j=i
    ·rw [e2,bV]
    ·rw [cC _ _ e2]
     refine ih ?_
     rcases h with ⟨h1,h2⟩|⟨p,h1,h2,h3⟩
     ·exact .inl ⟨by omega,h2⟩
     ·exact .inr ⟨p,by have:p≠i:=fun e=>e1 (by rw [← h3,e]);omega,h2,h3⟩
theorem OP {s:Script} (W:Wf s.ops) {j:Nat} (hj:j<s.ops.length):Dz s s.ops.length j=bn s j:=by
 refine Hu W _ (Nat.le_refl _) j ?_
 by_cases hk:(aB s.ops j).kind=3
 ·cases hs:bI s.ops j with
  | nil=>exact absurd hs (W.pops j hj hk)
  | cons p t =>
   have hp:p<j:=dR (ops:=s.ops) (by rw [hs];exact List.mem_cons_self ..)
   have hk2:(aB s.ops p).kind=2:=fO (i:=j) (by rw [hs];exact List.mem_cons_self ..)
   exact .inr ⟨p,by omega,by omega,fP W hj hk hs⟩
 ·exact .inl ⟨hj,hk⟩
theorem If {s:Script} (W:Wf s.ops) {j:Nat} (hj:s.ops.length≤j):∀ i,i≤s.ops.length→(dc s i).1 j=cX
 | 0,_=>rfl
 | i+1,hi=>by
  have ih:=If W hj i (by omega)
  rcases W.kinds i (by omega) with k|k|k
  ·rw [dc,if_neg (by omega),if_pos k];dsimp only;rw [cC _ _ (by omega)];exact ih
  ·rw [dc,if_pos k];exact ih
  ·have:=dR (qq (W.pops i (by omega) k))
   rw [dc,if_neg (by omega),if_neg (by omega)];dsimp only;rw [cC _ _ (by omega),cC _ _ (by omega)];exact ih
theorem Ec {s:Script} (W:Wf s.ops) {j:Nat} (hj:s.ops.length≤j):∀ i,i≤s.ops.length→Dz s i j=cX
 | 0,_=>rfl
 | i+1,hi=>by
  have ih:=Ec W hj i (by omega)
  have:=fT W (show i<s.ops.length by omega)
  rw [Dz]
  split
  ·exact ih
  ·rw [cC _ _ (by omega),cC _ _ (by omega)];exact ih
theorem Su {s:Script} (W:Wf s.ops):Dz s s.ops.length=bn s:=by
 funext j
 rcases Nat.lt_or_ge j s.ops.length with h|h
 ·exact OP W h
 ·rw [Ec W h _ (Nat.le_refl _),bn,If W h _ (Nat.le_refl _)]
theorem zM (s:Script) (V:VOps s) (hs:ScriptLen s):aF Sg 83 [ag (aL s)] (fun x=>x = .tup [.c (.p (oJ s.ops.length (bn s))),I 0]):=by
 have hn:=V.cnt
 have W:=V.wf
 have ho:=oq s hs
 rw [DX V] at ho
 have he:=wL s V
 refine aI Tryz.func83 [.tmp 2, .tmp 3] ?_
 repeat' (first|with_reducible exact aK|refine an ?_|((first|refine aj (fun K hK => ?_)|refine aY ?_|refine ae (ho) ?_|refine aq (fun hg=>ho) ?_|refine ae (he) ?_|refine aq (fun hg=>he) ?_);and_intros;all_goals first|(refine hK _ ?_;clear hK K)|try exact aa)|((first|apply aC|apply ay);(case hf=>rfl);(case hc=>exact aS);(all_goals first|(intro hb;(try simp only [bZ] at hb))|skip))|exact ao|(refine aH (fun hb => ?_) (fun hb => ?_);all_goals try exact ax)|refine ar (fun KB hB => ?_)|(refine hB _ ?_;clear hB KB)|refine aA (S:=Sg) (by assumption) ?_|(refine ai ?_;(try clear hB KB);(try clear hK K)))
 ·simp at hb
 refine aM (X:=Nat) (fun i=>bg [(1, .b (.c (.ptr 0 0))),(2, .b (.c (.p (.val (.slice none 0 0))))),(3, .b (I 0)),(6, .b (.c (.p (ee s.ops.length (aR s.ops))))),(8, .b (.c (.own 1 s.ops.length))),(9, .b (I i))]
  [(0, .fix ((aL s).map CV.p)),(1, .arr 28 4 s.ops.length (fun a j=>(bc (Dz s i a)).getD j .any))] 2) (fun i=>i≤s.ops.length) (fun i=>s.ops.length - i) 0 ?_ ?_ ?_
 ·exact Nat.zero_le _
 ·refine aE [(1,some 1)] ?_ ?_
  and_intros
  all_goals first|exact aw|skip
  refine .inr fun a ha j hj => ?_
  have hivl:j=0∨j=1∨j=2∨j=3:=by omega
  rcases hivl with rfl|rfl|rfl|rfl <;> exact fun _ _ _ h=>h
 ·intro i hi
  rcases Nat.lt_or_ge i s.ops.length with hlt|hge
  ·have hel:=fT W hlt
   by_cases hk:(aB s.ops i).kind=3
   ·have hk2:(s.ops.getD i default).kind=3:=hk
    repeat' (first|with_reducible exact aK|refine ak hk2 ?_|refine an ?_|((first|refine aj (fun K hK => ?_)|refine aY ?_);and_intros;all_goals first|(refine hK _ ?_;clear hK K)|try exact aa)|((first|apply aC|apply ay);(case hf=>rfl);(case hc=>exact aS);(all_goals first|(intro hb;(try simp only [bZ] at hb))|skip))|exact ao|(refine aH (fun hb => ?_) (fun hb => ?_);all_goals try exact ax)|refine ar (fun KB hB => ?_)|(refine hB _ ?_;clear hB KB)|refine aA (S:=Sg) (by assumption) ?_|(refine ai ?_;(try clear hB KB);(try clear hK K)))
    rw [ah]
    refine au (i+1) ?_ (by omega) (by omega)
    rw [show Dz s (i+1)=Dz s i from by rw [Dz,if_pos hk]]
    refine aE [(1,some 1)] ?_ ?_
    and_intros
    all_goals first|exact aw|skip
   ·have hk2:¬ (s.ops.getD i default).kind=3:=hk
    have hr:=GB s V hs (s.ops.length - i) i (by omega) hlt hk
    have hk3:((s.ops.getD i default).kind != 3)=true:=by simpa using hk2
    repeat' (first|with_reducible exact aK|refine ak hk3 ?_|refine an ?_|((first|refine aj (fun K hK => ?_)|refine aY ?_|refine ae (hr) ?_|refine aq (fun hg=>hr) ?_);and_intros;all_goals first|(refine hK _ ?_;clear hK K)|try exact aa)|((first|apply aC|apply ay);(case hf=>rfl);(case hc=>exact aS);(all_goals first|(intro hb;(try simp only [bZ] at hb))|skip))|exact ao|(refine aH (fun hb => ?_) (fun hb => ?_);all_goals try exact ax)|refine ar (fun KB hB => ?_)|(refine hB _ ?_;clear hB KB)|refine aA (S:=Sg) (by assumption) ?_|(refine ai ?_;(try clear hB KB);(try clear hK K)))
    rw [ah]
    refine au (i+1) ?_ (by omega) (by omega)
    rw [show Dz s (i+1)=upd (upd (Dz s i) i (bn s i)) (aR s.ops i) (bn s i) from by rw [Dz,if_neg hk]]
    refine aE [(1,some 1)] ?_ ?_
    and_intros
    all_goals first|exact aw|skip
    refine .inr fun a ha j hj => ?_
    by_cases e:a=aR s.ops i
    ·rw [if_pos e,if_pos (by omega),e,bV]
     have hivl:j=0∨j=1∨j=2∨j=3:=by omega
     rcases hivl with rfl|rfl|rfl|rfl <;> exact fun _ _ _ h=>h
    ·rw [if_neg e,cC _ _ e]
     by_cases e2:a=i
     ·rw [if_pos e2,if_pos (by omega),e2,bV]
      have hivl:j=0∨j=1∨j=2∨j=3:=by omega
      rcases hivl with rfl|rfl|rfl|rfl <;> exact fun _ _ _ h=>h
     ·rw [if_neg e2,cC _ _ e2];exact fun _ _ _ h=>h
  ·have hi2:i=s.ops.length:=by omega
   subst hi2
   repeat' (first|with_reducible exact aK|refine an ?_|((first|refine aj (fun K hK => ?_)|refine aY ?_);and_intros;all_goals first|(refine hK _ ?_;clear hK K)|try exact aa)|((first|apply aC|apply ay);(case hf=>rfl);(case hc=>exact aS);(all_goals first|(intro hb;(try simp only [bZ] at hb))|skip))|exact ao|(refine aH (fun hb => ?_) (fun hb => ?_);all_goals try exact ax)|refine ar (fun KB hB => ?_)|(refine hB _ ?_;clear hB KB)|refine aA (S:=Sg) (by assumption) ?_|(refine ai ?_;(try clear hB KB);(try clear hK K)))
   rw [Su W];rfl
end Go.Proofs.YtcbifofjjpfbcaaGreatDoor
set_option maxHeartbeats 1000000
namespace Go.Proofs.YtcbifofjjpfbcaaGreatDoor
section
variable {s:Script} {m:Int}
def pf (s:Script) (r:Rect):Nat:=((List.range s.ops.length).filter fun i=>eV s r i && decide ((aB s.ops i).kind≠3)).length
theorem Eh {r:Rect}:pf s r≤s.ops.length:=by
 unfold pf
 have:=List.length_filter_le (fun i=>eV s r i && decide ((aB s.ops i).kind≠3)) (List.range s.ops.length)
 rw [List.length_range] at this
 exact this
end
end Go.Proofs.YtcbifofjjpfbcaaGreatDoor
set_option maxHeartbeats 2000000
set_option maxRecDepth 16000
namespace Go.Proofs.YtcbifofjjpfbcaaGreatDoor
open Go Go.SL
open Go.RowKit (wrap64)
theorem kD (p:Pixel) (m:Int):aF Sg 47 [ag (aW p),U m] (fun r=>r = .b (B (kv p m))):=by
 refine aI Tryz.func47 [.tmp 4] ?_
 repeat' (first|(refine aj (fun K hK => ?_);and_intros;all_goals first|(refine hK _ ?_;clear hK K)|try exact aa)|(refine ai ?_;(try clear hB KB);(try clear hK K)))
 refine dS ?_
 (try simp only [kv,Bool.and_eq_true,Bool.or_eq_true,Bool.not_eq_true',Bool.not_eq_false',decide_eq_true_eq,decide_eq_false_iff_not,ge_iff_le,gt_iff_lt,beq_iff_eq,bne_iff_ne,ne_eq,Bool.or_eq_false_iff,Bool.and_eq_false_imp,Bool.not_true,Bool.not_false])
 try omega
end Go.Proofs.YtcbifofjjpfbcaaGreatDoor
set_option maxHeartbeats 2000000
set_option maxRecDepth 16000
namespace Go.Proofs.YtcbifofjjpfbcaaGreatDoor
open Go Go.SL
open Go.RowKit (wrap64)
theorem we (m:Image) (mx:Int) (hm:Full mx) (h:ImgV m mx):aF Sg 17 [ag (bl m),U mx] (fun r=>r = .b (I 0)):=by
 have hf:=h.f
 have h1:=gN m.w m.h
 have h2:=qS m
 have hff:=hf
 rw [show bp m=(cl m.w m.h && eG m) from rfl,Bool.and_eq_true] at hff
 obtain ⟨b1,b2,b3,b4⟩:=hP hf
 rw [hff.1] at h1
 rw [hff.2] at h2
 have ht:True:=trivial
 by_cases hs:m.solid=true
 ·have hv:=kD m.color mx
  have hc:=qF h hs
  rw [jZ hc] at hv
  refine aI Tryz.func17 [.tmp 4] ?_
  repeat' (first|with_reducible exact aK|refine ak hs ?_|refine an ?_|((first|refine aj (fun K hK => ?_)|refine ae (h1) ?_|refine ae (h2) ?_|refine ae (hv) ?_);and_intros;all_goals first|(refine hK _ ?_;clear hK K)|try exact aa)|(refine ai ?_;(try clear hB KB);(try clear hK K)))
 ·have hs':m.solid=false:=by simpa using hs
  refine aI Tryz.func17 [.tmp 4] ?_
  repeat' (first|(apply gZ;(case hc=>exact aS);(case ht=>(simp only [Int.toNat_natCast,Int.reduceBEq,Int.reduceBNe,Int.reduceLT,Int.reduceLE,decide_true,decide_false,oZ,hs'];done)))|refine an ?_|((first|refine aj (fun K hK => ?_)|refine ae (h1) ?_|refine ae (h2) ?_);and_intros;all_goals first|(refine hK _ ?_;clear hK K)|try exact aa))
  refine aM (X:=Nat) (fun y=>bg [(1, .b (U mx)),(2, .b (.c (.ptr 0 0))),(5, .b (I y))] [(0, .fix ((bl m).map CV.p))] 1) (fun y=>(y:Int)≤m.h) (fun y=>m.h.toNat - y) 0 ?_ ?_ ?_
  ·omega
  ·refine aE [] ?_ ?_
   and_intros
   all_goals first|exact aw|skip
  ·intro y hy
   rcases Int.lt_or_le y m.h with hyl|hyg
   ·repeat' (first|refine an ?_|(refine aj (fun K hK => ?_);and_intros;all_goals first|(refine hK _ ?_;clear hK K)|try exact aa)|(refine aH (fun hb => ?_) (fun hb => ?_);all_goals try exact ax))
    refine aM (X:=Nat) (fun x=>bg [(1, .b (U mx)),(2, .b (.c (.ptr 0 0))),(5, .b (I y)),(6, .b (I x))] [(0, .fix ((bl m).map CV.p))] 1) (fun x=>(x:Int)≤m.w) (fun x=>m.w.toNat - x) 0 ?_ ?_ ?_
    ·omega
    ·refine aE [] ?_ ?_
     and_intros
     all_goals first|exact aw|skip
    ·intro x hx
     rcases Int.lt_or_le x m.w with hxl|hxg
     ·have hp:=BS m x y hf (by omega) hxl (by omega) hyl
      have hv:=kD (eF m x y) mx
      rw [jZ (h.p x y (by omega) hxl (by omega) hyl)] at hv
      generalize eF m x y=q at *
      repeat' (first|((first|apply gZ|apply iz);(case hc=>exact aS);(case ht=>(simp only [Int.toNat_natCast,Int.reduceBEq,Int.reduceBNe,Int.reduceLT,Int.reduceLE,decide_true,decide_false,oZ,hs'];done)))|refine an ?_|((first|refine aj (fun K hK => ?_)|refine ae (hp) ?_|refine ae (hv) ?_);and_intros;all_goals first|(refine hK _ ?_;clear hK K)|try exact aa)|(refine aH (fun hb => ?_) (fun hb => ?_);all_goals try exact ax))
      rw [ah]
      refine au (x+1) ?_ (by omega) (by omega)
      refine aE [] ?_ ?_
      and_intros
      all_goals first|exact aw|skip
     ·repeat' (first|refine an ?_|(refine aj (fun K hK => ?_);and_intros;all_goals first|(refine hK _ ?_;clear hK K)|try exact aa)|(refine aH (fun hb => ?_) (fun hb => ?_);all_goals try exact ax))
      rw [ah]
      refine au (y+1) ?_ (by omega) (by omega)
      refine aE [] ?_ ?_
      and_intros
      all_goals first|exact aw|skip
   ·repeat' (first|with_reducible exact aK|refine an ?_|(refine aj (fun K hK => ?_);and_intros;all_goals first|(refine hK _ ?_;clear hK K)|try exact aa)|(refine aH (fun hb => ?_) (fun hb => ?_);all_goals try exact ax)|(refine ai ?_;(try clear hB KB);(try clear hK K)))
end Go.Proofs.YtcbifofjjpfbcaaGreatDoor
set_option maxHeartbeats 4000000
set_option maxRecDepth 16000
namespace Go.Proofs.YtcbifofjjpfbcaaGreatDoor
open Go Go.SL
open Go.RowKit (wrap64)
attribute [local go_sem] Int.toNat_natCast
theorem KJ (r : Rect) (w h i : Int) (hc : Small r) (ho : TileOk r w h) (hi : 0 ≤ i ∧ i < aX r w h * bz r w h) :
  aF Sg 56 [ag (bc r),I w,I h,I i] (fun x=>x = .tup [ag (bc (mr r w h (aX r w h) i)),B true]):=by
 have hct:=ic r w h
 have hok:=lj hc ho
 obtain ⟨htx,hty⟩:=nM hc ho
 obtain ⟨x0,x1,y0,y1,hW,hH⟩:=hc
 obtain ⟨hw,hh⟩:=ho
 rw [hok] at hct
 generalize aX r w h=nx at *
 generalize bz r w h=ny at *
 obtain ⟨⟨b1,b2⟩,⟨b3,b4⟩,⟨b5,b6⟩,b7,b8⟩:=vN (w:=w) (h:=h) htx hty hi (by omega) (by omega)
 have b9:0≤nx * ny∧nx * ny≤5 * 4:=⟨by omega,Int.mul_le_mul (by omega) (by omega) (by omega) (by omega)⟩
 unfold mr
 refine aI Tryz.func56 [.cell 8 28, .tmp 9] ?_
 repeat' (first|with_reducible exact aK|refine ak hok ?_|((first|((with_reducible refine bC (id:=4) [] (by decide +kernel) (by decide +kernel) ?_ (fun K hK => ?_));(first|(refine And.intro (fun iw hiw => ?_) ?_;(focus ((try simp (maxSteps:=999999)(disch:=omega) only [go_sem] at hiw ⊢);(repeat (refine Eq.trans (if_neg ?_) ?_;(focus omega)));(first|exact hw iw (by omega)|rfl)));(focus (first|exact Nat.zero_le _|(simp (maxSteps:=999999)(disch:=omega) only [go_sem];done)|(simp (maxSteps:=999999)(disch:=omega) only [go_sem];omega))))|exact cS))|((with_reducible refine ch (id:=4) [] (by decide +kernel) (by decide +kernel) ?_ (fun K hK => ?_));(first|(refine And.intro (fun iw hiw => ?_) ?_;(focus ((try simp (maxSteps:=999999)(disch:=omega) only [go_sem] at hiw ⊢);(repeat (refine Eq.trans (if_neg ?_) ?_;(focus omega)));(first|exact hw iw (by omega)|rfl)));(focus (first|exact Nat.zero_le _|(simp (maxSteps:=999999)(disch:=omega) only [go_sem];done)|(simp (maxSteps:=999999)(disch:=omega) only [go_sem];omega))))|exact cS)));(try simp (maxSteps:=999999)(disch:=omega) only [go_sem]);and_intros;(all_goals first|(refine hK _ (by simp (maxSteps:=999999)(disch:=omega) only [go_sem]) ?_;clear hK K)|exact aa|skip))|refine an ?_|((first|refine aj (fun K hK => ?_)|refine aY ?_|refine ae (hct) ?_|refine aq (fun hg=>hct) ?_);and_intros;all_goals first|(refine hK _ ?_;clear hK K)|try exact aa)|((first|apply aC|apply ay);(case hf=>rfl);(case hc=>exact aS);(all_goals first|(intro hb;(try simp only [bZ] at hb))|skip))|exact ao|(refine aH (fun hb => ?_) (fun hb => ?_);all_goals try exact ax)|refine ar (fun KB hB => ?_)|(refine hB _ ?_;clear hB KB)|refine aA (S:=Sg) (by assumption) ?_|(refine ai ?_;(try clear hB KB);(try clear hK K)))
 ·exfalso
  simp only [Bool.false_eq_true,false_or] at hb
  omega
 ·rfl
end Go.Proofs.YtcbifofjjpfbcaaGreatDoor
set_option maxHeartbeats 1000000
namespace Go.Proofs.YtcbifofjjpfbcaaGreatDoor
def jS (s:Script) (L:List Rect):Nat:=(L.map (pf s)).sum
def uO (s:Script):Nat:=jS s (cU s)
theorem Cp {s:Script} {L:List Rect} {r:Rect}:jS s (L ++ [r])=jS s L+pf s r:=by simp [jS]
theorem vg {s:Script}:∀ {L:List Rect},jS s L≤L.length * s.ops.length
 | []=>Nat.zero_le _
 | t :: L=>by
  have h1:=vg (s:=s) (L:=L)
  have h2:=Eh (s:=s) (r:=t)
  have e:jS s (t :: L)=pf s t+jS s L:=by simp [jS]
  rw [e,List.length_cons,Nat.succ_mul]
  omega
def oc (s:Script) (r:Rect) (i:Nat):Nat:=((List.range i).filter fun i=>eV s r i && decide ((aB s.ops i).kind≠3)).length
theorem wy {s:Script} {r:Rect}:oc s r s.ops.length=pf s r:=rfl
theorem ug {s:Script} {r:Rect} {i:Nat}:oc s r (i+1)=oc s r i+if (eV s r i && decide ((aB s.ops i).kind≠3))=true then 1 else 0:=by
 unfold oc
 rw [List.range_succ,List.filter_append,List.length_append]
 congr 1
 by_cases h:(eV s r i && decide ((aB s.ops i).kind≠3))=true
 ·rw [if_pos h,List.filter_cons,if_pos h];rfl
 ·rw [if_neg h,List.filter_cons,if_neg h];rfl
def GG (s:Script):Int:=if (bQ s).1=0 then (uO s:Int) else 0
end Go.Proofs.YtcbifofjjpfbcaaGreatDoor
set_option maxHeartbeats 4000000
set_option maxRecDepth 16000
namespace Go.Proofs.YtcbifofjjpfbcaaGreatDoor
open Go Go.SL
open Go.RowKit (wrap64)
attribute [local go_sem] Int.toNat_natCast oJ
theorem Fa {s:Script} {r:Rect} {i j:Nat}:zO s r i (j+1)=(zO s r i j && (!(decide ((aB s.ops j).kind=2) && decide (i<aR s.ops j)) || eM s r j)):=by
 unfold zO
 rw [List.range_succ,List.all_append,List.all_cons,List.all_nil,Bool.and_true,Bool.and_assoc]
theorem Jl {s:Script} {r:Rect} (W:Wf s.ops) {i:Nat} (hi:i<s.ops.length):zO s r i i=eV s r i:=by
 unfold zO eV
 cases hm:eM s r i with
 | false=>rfl
 | true =>
  rw [Bool.true_and,Bool.true_and,Bool.eq_iff_iff,List.all_eq_true,List.all_eq_true]
  constructor
  ·intro h g hg
   have hgl:g<i:=dR (ops:=s.ops) hg
   obtain ⟨k2,hle⟩:=(lx W (by omega) hgl).1 hg
   by_cases e:aR s.ops g=i
   ·have hk:(aB s.ops i).kind=3:=by
     obtain ⟨j,t,q1,q2,q3,q4⟩:=mK W (s.ops.length - i) i (by omega) hg
     have:=fP W q2 q3 q4
     rw [e] at this
     rw [this];exact q3
    have hb:=yd W hi hk
    have hh:(bI s.ops i).headD 0=g:=by
     cases hs:bI s.ops i with
     | nil=>rw [hs] at hg;cases hg
     | cons p t =>
      have hp:p ∈ bI s.ops i:=by rw [hs];exact List.mem_cons_self ..
      have e2:=fP W hi hk hs
      show p=g
      have hpl:p<i:=dR (ops:=s.ops) hp
      obtain ⟨j,t2,q1,q2,q3,q4⟩:=mK W (s.ops.length - i) i (by omega) hg
      have e3:=fP W q2 q3 q4
      rw [e] at e3
      subst e3
      rw [hs] at q4
      exact (List.cons.inj q4).1
    rw [hh] at hb
    unfold eM at hm ⊢
    rw [← hb];exact hm
   ·have:=h g (List.mem_range.2 hgl)
    rw [decide_eq_true k2,decide_eq_true (show i<aR s.ops g by omega)] at this
    simpa using this
  ·intro h k hk
   have hk:=List.mem_range.1 hk
   by_cases q:(aB s.ops k).kind=2∧i<aR s.ops k
   ·rw [h k ((lx W (by omega) hk).2 ⟨q.1,by omega⟩),Bool.or_true]
   ·have:(decide ((aB s.ops k).kind=2) && decide (i<aR s.ops k))=false:=by
     rw [← Bool.not_eq_true,Bool.and_eq_true,decide_eq_true_eq,decide_eq_true_eq];exact q
    rw [this];rfl
theorem Jb {s:Script} {r:Rect} (W:Wf s.ops) {i a j:Nat} (hi:i<s.ops.length):yH s r i i a j=ri s r (i+1) a j:=by
 unfold yH ri
 rw [Jl W hi,uC rfl]
attribute [local go_sem] En
theorem Ds (s:Script) (r:Rect) (V:VOps s) (hs:ScriptLen s):aF Sg 57 [ag (aL s),ag (bc r)] (fun x=>x = .tup [.c (.p (zd s r)),I 0]):=by
 have ht:True:=trivial
 have hn:=V.cnt
 have W:=V.wf
 have h1:=zM s V hs
 have h2:=wL s V
 refine fV ?_
 refine aI Tryz.func57 [.tmp 4, .tmp 5] ?_
 repeat' (first|with_reducible exact aK|refine ak ht ?_|refine an ?_|((first|refine aj (fun K hK => ?_)|refine aY ?_|refine ae (h1) ?_|refine aq (fun hg=>h1) ?_|refine ae (h2) ?_|refine aq (fun hg=>h2) ?_);and_intros;all_goals first|(refine hK _ ?_;clear hK K)|try exact aa)|((first|apply aC|apply ay);(case hf=>rfl);(case hc=>exact aS);(all_goals first|(intro hb;(try simp only [bZ] at hb))|skip))|exact ao|(refine aH (fun hb => ?_) (fun hb => ?_);all_goals try exact ax)|refine ar (fun KB hB => ?_)|(refine hB _ ?_;clear hB KB)|refine aA (S:=Sg) (by assumption) ?_|(refine ai ?_;(try clear hB KB);(try clear hK K)))
 refine aM (X:=Nat) (fun i=>bg [(2, .b (.c (.ptr 0 0))),(3, .b (.c (.ptr 1 0))),(4, .b (.c (.p (.val (.slice none 0 0))))),(5, .b (I 0)),(6, .b (.c (.p (oJ s.ops.length (bn s))))),(8, .b (.c (.p (ee s.ops.length (aR s.ops))))),(10, .b (.c (.own 2 s.ops.length))),(11, .b (I i))]
  [(0, .fix ((aL s).map CV.p)),(1, .fix ((bc r).map CV.p)),(2, .arr 4 1 s.ops.length (ri s r i))] 3) (fun i=>i≤s.ops.length) (fun i=>s.ops.length - i) 0 ?_ ?_ ?_
 ·exact Nat.zero_le _
 ·refine aE [(1,some 1),(2,some 2)] ?_ ?_
  and_intros
  all_goals first|exact aw|skip
  refine .inr fun a ha j hj => ?_
  obtain rfl:j=0:=by omega
  exact PV.le_refl _
 intro i hi
 rcases Nat.lt_or_ge i s.ops.length with h|h
 ·have g1:decide ((i:Int)<s.ops.length)=true:=decide_eq_true (by omega)
  have h3:=dD (bn s i) r
  have h4:=bo (eS (bn s i) r)
  repeat' (first|with_reducible exact aK|refine ak g1 ?_|refine an ?_|((first|refine aj (fun K hK => ?_)|refine aY ?_|refine ae (h3) ?_|refine aq (fun hg=>h3) ?_|refine ae (h4) ?_|refine aq (fun hg=>h4) ?_);and_intros;all_goals first|(refine hK _ ?_;clear hK K)|try exact aa)|((first|apply aC|apply ay);(case hf=>rfl);(case hc=>exact aS);(all_goals first|(intro hb;(try simp only [bZ] at hb))|skip))|exact ao|(refine aH (fun hb => ?_) (fun hb => ?_);all_goals try exact ax)|refine ar (fun KB hB => ?_)|(refine hB _ ?_;clear hB KB)|refine aA (S:=Sg) (by assumption) ?_|(refine ai ?_;(try clear hB KB);(try clear hK K)))
  refine aM (X:=Nat) (fun k=>bg [(2, .b (.c (.ptr 0 0))),(3, .b (.c (.ptr 1 0))),(4, .b (.c (.p (.val (.slice none 0 0))))),(5, .b (I 0)),(6, .b (.c (.p (oJ s.ops.length (bn s))))),(8, .b (.c (.p (ee s.ops.length (aR s.ops))))),(10, .b (.c (.own 2 s.ops.length))),(11, .b (I i)),(12, .b (I k))]
   [(0, .fix ((aL s).map CV.p)),(1, .fix ((bc r).map CV.p)),(2, .arr 4 1 s.ops.length (yH s r i k))] 3) (fun k=>k≤i) (fun k=>i - k) 0 ?_ ?_ ?_
  ·exact Nat.zero_le _
  ·refine aE [(1,some 1),(2,some 2)] ?_ ?_
   and_intros
   all_goals first|exact aw|skip
   refine .inr fun a ha j hj => ?_
   obtain rfl:j=0:=by omega
   have e:zO s r i 0 = !aU (eS (bn s i) r):=Bool.and_true _
   unfold yH ri
   rw [e]
   by_cases q:a=i
   ·simp only [if_pos q]
    exact PV.le_refl _
   ·simp only [if_neg q]
    exact PV.le_refl _
  intro k hk
  rcases Nat.lt_or_ge k i with h5|h5
  ·have g2:decide ((k:Int)<i)=true:=decide_eq_true (by omega)
   have h6:=dD (bn s k) r
   have h7:=bo (eS (bn s k) r)
   have hnx:=Fa (s:=s) (r:=r) (i:=i) (j:=k)
   by_cases q:(aB s.ops k).kind=2∧i<aR s.ops k
   ·have q1:(s.ops.getD k default).kind=2:=q.1
    have q2:decide ((aR s.ops k:Int)>i)=true:=decide_eq_true (by omega)
    rw [decide_eq_true q.1,decide_eq_true q.2] at hnx
    have e:eM s r k = !aU (eS (bn s k) r):=rfl
    rw [e] at hnx
    generalize aU (eS (bn s k) r)=v at *
    repeat' (first|with_reducible exact aK|refine ak (And.intro g2 (And.intro q1 q2)) ?_|refine an ?_|((first|refine aj (fun K hK => ?_)|refine aY ?_|refine ae (h6) ?_|refine aq (fun hg=>h6) ?_|refine ae (h7) ?_|refine aq (fun hg=>h7) ?_);and_intros;all_goals first|(refine hK _ ?_;clear hK K)|try exact aa)|((first|apply aC|apply ay);(case hf=>rfl);(case hc=>exact aS);(all_goals first|(intro hb;(try simp only [bZ] at hb))|skip))|exact ao|(refine aH (fun hb => ?_) (fun hb => ?_);all_goals try exact ax)|refine ar (fun KB hB => ?_)|(refine hB _ ?_;clear hB KB)|refine aA (S:=Sg) (by assumption) ?_|(refine ai ?_;(try clear hB KB);(try clear hK K)))
    rw [ah]
    refine au (k+1) ?_ (by omega) (by omega)
    refine aE [(1,some 1),(2,some 2)] ?_ ?_
    and_intros
    all_goals first|exact aw|skip
    refine .inr fun a ha j hj => ?_
    obtain rfl:j=0:=by omega
    unfold yH
    rw [hnx]
    by_cases e:a=i
    ·simp only [if_pos e]
     rw [if_pos ⟨Nat.le_refl _,by decide⟩]
     exact PV.le_refl _
    ·simp only [if_neg e]
     exact PV.le_refl _
   ·rw [show (decide ((aB s.ops k).kind=2) && decide (i<aR s.ops k))=false by rw [← Bool.not_eq_true,Bool.and_eq_true,decide_eq_true_eq,decide_eq_true_eq];exact q,Bool.not_false,Bool.true_or,Bool.and_true] at hnx
    have hrow:yH s r i (k+1)=yH s r i k:=by unfold yH;rw [hnx]
    by_cases q1:(s.ops.getD k default).kind=2
    ·have q2:decide ((aR s.ops k:Int)>i)=false:=decide_eq_false (fun h=>q ⟨q1,by omega⟩)
     repeat' (first|with_reducible exact aK|refine ak (And.intro g2 (And.intro q1 q2)) ?_|refine an ?_|((first|refine aj (fun K hK => ?_)|refine aY ?_);and_intros;all_goals first|(refine hK _ ?_;clear hK K)|try exact aa)|((first|apply aC|apply ay);(case hf=>rfl);(case hc=>exact aS);(all_goals first|(intro hb;(try simp only [bZ] at hb))|skip))|exact ao|(refine aH (fun hb => ?_) (fun hb => ?_);all_goals try exact ax)|refine ar (fun KB hB => ?_)|(refine hB _ ?_;clear hB KB)|refine aA (S:=Sg) (by assumption) ?_|(refine ai ?_;(try clear hB KB);(try clear hK K)))
     rw [ah]
     refine au (k+1) ?_ (by omega) (by omega)
     rw [hrow]
     refine aE [(1,some 1),(2,some 2)] ?_ ?_
     and_intros
     all_goals first|exact aw|skip
    ·have q2:((s.ops.getD k default).kind == 2)=false:=beq_eq_false_iff_ne.2 q1
     repeat' (first|with_reducible exact aK|refine ak (And.intro g2 q2) ?_|refine an ?_|((first|refine aj (fun K hK => ?_)|refine aY ?_);and_intros;all_goals first|(refine hK _ ?_;clear hK K)|try exact aa)|((first|apply aC|apply ay);(case hf=>rfl);(case hc=>exact aS);(all_goals first|(intro hb;(try simp only [bZ] at hb))|skip))|exact ao|(refine aH (fun hb => ?_) (fun hb => ?_);all_goals try exact ax)|refine ar (fun KB hB => ?_)|(refine hB _ ?_;clear hB KB)|refine aA (S:=Sg) (by assumption) ?_|(refine ai ?_;(try clear hB KB);(try clear hK K)))
     rw [ah]
     refine au (k+1) ?_ (by omega) (by omega)
     rw [hrow]
     refine aE [(1,some 1),(2,some 2)] ?_ ?_
     and_intros
     all_goals first|exact aw|skip
  ·have g2:decide ((k:Int)<i)=false:=decide_eq_false (by omega)
   obtain rfl:k=i:=by omega
   repeat' (first|with_reducible exact aK|refine ak g2 ?_|refine an ?_|((first|refine aj (fun K hK => ?_)|refine aY ?_);and_intros;all_goals first|(refine hK _ ?_;clear hK K)|try exact aa)|((first|apply aC|apply ay);(case hf=>rfl);(case hc=>exact aS);(all_goals first|(intro hb;(try simp only [bZ] at hb))|skip))|exact ao|(refine aH (fun hb => ?_) (fun hb => ?_);all_goals try exact ax)|refine ar (fun KB hB => ?_)|(refine hB _ ?_;clear hB KB)|refine aA (S:=Sg) (by assumption) ?_|(refine ai ?_;(try clear hB KB);(try clear hK K)))
   rw [ah]
   refine au (k+1) ?_ (by omega) (by omega)
   refine aE [(1,some 1),(2,some 2)] ?_ ?_
   and_intros
   all_goals first|exact aw|skip
   refine .inr fun a ha j hj => ?_
   rw [Jb W h]
   exact PV.le_refl _
 ·have g1:decide ((i:Int)<s.ops.length)=false:=decide_eq_false (by omega)
  obtain rfl:i=s.ops.length:=by omega
  repeat' (first|with_reducible exact aK|refine ak g1 ?_|refine an ?_|((first|refine aj (fun K hK => ?_)|refine aY ?_);and_intros;all_goals first|(refine hK _ ?_;clear hK K)|try exact aa)|((first|apply aC|apply ay);(case hf=>rfl);(case hc=>exact aS);(all_goals first|(intro hb;(try simp only [bZ] at hb))|skip))|exact ao|(refine aH (fun hb => ?_) (fun hb => ?_);all_goals try exact ax)|refine ar (fun KB hB => ?_)|(refine hB _ ?_;clear hB KB)|refine aA (S:=Sg) (by assumption) ?_|(refine ai ?_;(try clear hB KB);(try clear hK K)))
  refine fe ⟨oi (gj fun a ha j hj => ?_),ej trivial,trivial⟩
  obtain rfl:j=0:=by omega
  rw [Bp ha]
end Go.Proofs.YtcbifofjjpfbcaaGreatDoor
set_option maxHeartbeats 4000000
set_option maxRecDepth 16000
namespace Go.Proofs.YtcbifofjjpfbcaaGreatDoor
open Go Go.SL
open Go.RowKit (wrap64)
theorem uT (m:Image) (mx:Int) (hm:Full mx) (h:Ci m mx):aF Sg 17 [ag (bl m),U mx] (fun r=>r = .b (I (dJ m mx))):=by
 by_cases hv:ImgV m mx
 ·rw [uf hv];exact we m mx hm hv
 have h1:=gN m.w m.h
 have h2:=qS m
 have h3:=kD m.color mx
 have ht:True:=trivial
 have hfe:bp m=(cl m.w m.h && eG m):=rfl
 unfold dJ
 cases hf:cl m.w m.h
 ·rw [if_pos rfl]
  rw [hf] at h1
  refine aI Tryz.func17 [.tmp 4] ?_
  repeat' (first|with_reducible exact aK|refine ak ht ?_|refine an ?_|((first|refine aj (fun K hK => ?_)|refine ae (h1) ?_);and_intros;all_goals first|(refine hK _ ?_;clear hK K)|try exact aa)|(refine ai ?_;(try clear hB KB);(try clear hK K)))
 rw [if_neg (by decide)]
 rw [hf] at h1
 cases hp:eG m
 ·rw [hfe,hf,hp,if_pos (by decide)]
  rw [hp] at h2
  refine aI Tryz.func17 [.tmp 4] ?_
  repeat' (first|with_reducible exact aK|refine ak ht ?_|refine an ?_|((first|refine aj (fun K hK => ?_)|refine ae (h1) ?_|refine ae (h2) ?_);and_intros;all_goals first|(refine hK _ ?_;clear hK K)|try exact aa)|(refine ai ?_;(try clear hB KB);(try clear hK K)))
 have hfo:bp m=true:=by rw [hfe,hf,hp];rfl
 rw [hfo,if_neg (by decide)]
 rw [hp] at h2
 have hs:m.solid=true:=by
  rcases h with h|h|h
  ·exact absurd h hv
  ·rw [hfo] at h;cases h
  ·exact h
 cases hk:kv m.color mx
 ·rw [if_pos ⟨hs,rfl⟩]
  rw [hk] at h3
  refine aI Tryz.func17 [.tmp 4] ?_
  repeat' (first|with_reducible exact aK|refine ak hs ?_|refine an ?_|((first|refine aj (fun K hK => ?_)|refine ae (h1) ?_|refine ae (h2) ?_|refine ae (h3) ?_);and_intros;all_goals first|(refine hK _ ?_;clear hK K)|try exact aa)|(refine ai ?_;(try clear hB KB);(try clear hK K)))
 ·rw [if_neg (by rintro ⟨_,q⟩;cases q)]
  rw [hk] at h3
  refine aI Tryz.func17 [.tmp 4] ?_
  repeat' (first|with_reducible exact aK|refine ak hs ?_|refine an ?_|((first|refine aj (fun K hK => ?_)|refine ae (h1) ?_|refine ae (h2) ?_|refine ae (h3) ?_);and_intros;all_goals first|(refine hK _ ?_;clear hK K)|try exact aa)|(refine ai ?_;(try clear hB KB);(try clear hK K)))
theorem Df (s:Script) (hs:ScriptLen s) (hT:bD s=0→Full (bA s.bits)∧∀ m ∈ s.images,Ci m (bA s.bits)):aF Sg 36 [ag (aL s)] (fun r=>r = .tup [I (bQ s).1,I (bQ s).2]):=by
 have h1:=ou s hs
 have h2:=oq s hs
 have h3:aF Sg 14 [I s.bits] (fun x=>x = .tup [U (bA s.bits),B (decide (s.bits=8∨s.bits=16))]):=mP s.bits
 unfold bQ
 by_cases hf:bD s=0
 ·obtain ⟨hm,hi⟩:=hT hf
  rw [if_neg (by rw [Decidable.not_not];exact hf)]
  rw [hf] at h1
  have ht:True:=trivial
  obtain ⟨R,hR⟩:∃ R,(if (dW (bA s.bits) 0 s.images).1≠0 then dW (bA s.bits) 0 s.images else jh s)=R:=⟨_,rfl⟩
  rw [hR]
  refine aI Tryz.func36 [.tmp 2, .tmp 3] ?_
  repeat' (first|refine ak ht ?_|refine an ?_|((first|refine aj (fun K hK => ?_)|refine ae (h1) ?_|refine ae (h3) ?_);and_intros;all_goals first|(refine hK _ ?_;clear hK K)|try exact aa))
  refine aM (X:=Nat) (fun i=>bg [(1, .b (.c (.ptr 0 0))),(5, .b (U (bA s.bits))),(7, .b (I i))] [(0, .fix ((aL s).map CV.p))] 1) (fun i=>i≤s.images.length∧dW (bA s.bits) 0 s.images=dW (bA s.bits) i (s.images.drop i)) (fun i=>s.images.length - i) 0 ?_ ?_ ?_
  ·exact ⟨Nat.zero_le _,by rw [List.drop_zero]⟩
  ·refine aE [] ?_ ?_
   and_intros
   all_goals first|exact aw|skip
  ·rintro i ⟨hil,hgo⟩
   have hlen:=hs.images
   rcases Nat.lt_or_ge i s.images.length with h|h
   ·rw [rv h] at hgo
    have hmem:s.images.getD i default ∈ s.images:=by
     rw [List.getD_eq_getElem?_getD,List.getElem?_eq_getElem h]
     exact List.getElem_mem _
    have hv:=uT (s.images.getD i default) (bA s.bits) hm (hi _ hmem)
    by_cases h0:dJ (s.images.getD i default) (bA s.bits)=0
    ·rw [if_pos h0] at hgo
     rw [h0] at hv
     repeat' (first|refine ak ht ?_|refine an ?_|((first|refine aj (fun K hK => ?_)|refine ae (hv) ?_);and_intros;all_goals first|(refine hK _ ?_;clear hK K)|try exact aa)|(refine aH (fun hb => ?_) (fun hb => ?_);all_goals try exact ax))
     rw [ah]
     refine au (i+1) ?_ ⟨by omega,hgo⟩ (by omega)
     refine aE [] ?_ ?_
     and_intros
     all_goals first|exact aw|skip
    ·rw [if_neg h0] at hgo
     have g0:(dJ (s.images.getD i default) (bA s.bits) != 0)=true:=by rw [bne_iff_ne];exact h0
     have hR2:R=(dJ (s.images.getD i default) (bA s.bits),(i:Int)):=by rw [← hR,hgo,if_pos h0]
     rw [hR2]
     repeat' (first|with_reducible exact aK|refine ak g0 ?_|refine an ?_|((first|refine aj (fun K hK => ?_)|refine ae (hv) ?_);and_intros;all_goals first|(refine hK _ ?_;clear hK K)|try exact aa)|(refine aH (fun hb => ?_) (fun hb => ?_);all_goals try exact ax)|(refine ai ?_;(try clear hB KB);(try clear hK K)))
   ·have e:s.images.drop i=[]:=List.drop_eq_nil_of_le h
    rw [e] at hgo
    have hR2:R=jh s:=by rw [← hR,hgo,if_neg (by simp [dW])]
    rw [← hR2] at h2
    repeat' (first|with_reducible exact aK|refine an ?_|((first|refine aj (fun K hK => ?_)|refine ae (h2) ?_);and_intros;all_goals first|(refine hK _ ?_;clear hK K)|try exact aa)|(refine aH (fun hb => ?_) (fun hb => ?_);all_goals try exact ax)|(refine ai ?_;(try clear hB KB);(try clear hK K)))
 ·rw [if_pos hf]
  have g0:(bD s != 0)=true:=by rw [bne_iff_ne];exact hf
  refine aI Tryz.func36 [.tmp 2, .tmp 3] ?_
  repeat' (first|with_reducible exact aK|refine ak g0 ?_|refine an ?_|((first|refine aj (fun K hK => ?_)|refine ae (h1) ?_);and_intros;all_goals first|(refine hK _ ?_;clear hK K)|try exact aa)|(refine ai ?_;(try clear hB KB);(try clear hK K)))
end Go.Proofs.YtcbifofjjpfbcaaGreatDoor
set_option maxHeartbeats 4000000
set_option maxRecDepth 16000
namespace Go.Proofs.YtcbifofjjpfbcaaGreatDoor
open Go Go.SL
open Go.RowKit (wrap64)
attribute [local go_sem] Int.toNat_natCast zJ zd
theorem IJ {α:Type} {f:α→Nat} {L M:List α} (h:L.Perm M):(L.map f).sum=(M.map f).sum:=by
 induction h with
 | nil=>rfl
 | cons x _ ih=>simp [ih]
 | swap x y l=>simp;omega
 | trans _ _ h1 h2=>exact h1.trans h2
theorem Ky {l:List Int} {n:Int} (h:dt l n=true):(cZ l n).Perm (kB n.toNat):=by
 have hall:=fun k=>EM h (k:=k)
 have hin:=fun k=>Cq h (k:=k)
 have h':=h
 unfold dt at h'
 rw [Bool.and_eq_true,decide_eq_true_eq,List.all_eq_true] at h'
 obtain ⟨⟨h0,h1,h2⟩,h3⟩:=h'
 have hlen:=iH (l:=l) (n:=n) h0 h2
 have nd:(cZ l n).Nodup:=by
  rw [List.Nodup,List.pairwise_iff_getElem]
  intro i j hi hj hij e
  have:=h3 j (List.mem_range.2 (by omega))
  unfold ke at this
  rw [List.getD_eq_getElem?_getD,List.getElem?_eq_getElem hj,Bool.and_eq_true,Option.getD_some] at this
  have q2:((cZ l n).take j).contains (cZ l n)[j]=true:=List.contains_iff_mem.2 (by
   rw [← e]
   exact List.mem_take_iff_getElem.2 ⟨i,by omega,rfl⟩)
  have q3:=this.2
  rw [q2] at q3
  cases q3
 refine (List.perm_ext_iff_of_nodup nd (jL _)).2 fun a=>⟨fun ha => ?_,fun ha => ?_⟩
 ·have:=hin a ha
  unfold kB
  exact List.mem_map.2 ⟨a.toNat,List.mem_range.2 (by omega),by omega⟩
 ·unfold kB at ha
  obtain ⟨k,hk,rfl⟩:=List.mem_map.1 ha
  have:=List.mem_range.1 hk
  exact hall _ ⟨by omega,by omega⟩
def pZ (s:Script) (i:Nat):Nat:=((List.range i).map fun j=>pf s (qm s (j:Nat))).sum
theorem oC {s:Script} {i:Nat}:pZ s (i+1)=pZ s i+pf s (qm s (i:Nat)):=by
 unfold pZ
 rw [List.range_succ,List.map_append,List.sum_append]
 simp
theorem Hb {s:Script} (h:FrOk s):pZ s (dN s).toNat=uO s:=by
 unfold uO jS cU
 rw [List.map_map,IJ (Ky h.o)]
 unfold pZ kB
 rw [List.map_map];rfl
theorem zK {s:Script}:∀ i,pZ s i≤i * s.ops.length
 | 0=>Nat.zero_le _
 | i+1=>by
  have h1:=zK (s:=s) i
  have h2:=Eh (s:=s) (r:=qm s (i:Nat))
  rw [oC,Nat.succ_mul];omega
theorem Je {a n:Nat} (h:a≤20) (hn:n≤4096):a * n≤81920:=Nat.le_trans (Nat.mul_le_mul h hn) (by decide)
theorem wt {s:Script} {L:List Rect} {i:Nat} (h:i<L.length):jS s (L.take (i+1))=jS s (L.take i)+pf s (L.getD i default):=by
 rw [List.take_add_one,List.getElem?_eq_getElem h,Option.toList_some,Cp,List.getD_eq_getElem?_getD,List.getElem?_eq_getElem h];rfl
theorem Mr (s:Script) (E:EvOk s) (hc:(bQ s).1=0→Small s.canvas):aF Sg 29 [ag (aL s)] (fun r=>r = .tup [I (GG s),I (bQ s).1]):=by
 have ht:True:=trivial
 have h1:=oX s E.len (fun h=>⟨ij h,fun m hm=>(E.im h m hm).1⟩)
 unfold GG
 by_cases h0:(bQ s).1=0
 ·obtain ⟨hf,V,hI,hm⟩:=E.zero h0
  have hF:FrOk s:=⟨hc h0,hf⟩
  have hn:=V.cnt
  have h2:=xl s hF E.len
  have h3:∀ r,aF Sg 55 [ag (aL s),ag (bc r)] (fun x=>x = .tup [.c (.p (zd s r)),I 0]):=fun r=>xr s r V E.len
  have hT:=hF.len.1
  have hN:=hF.n
  have hW:uO s=jS s ((cU s).take (cU s).length):=by rw [List.take_length];rfl
  have hb:∀ i,i≤(cU s).length→jS s ((cU s).take i)≤81920:=fun i hi=>by
   refine Nat.le_trans vg (Je ?_ hn)
   rw [List.length_take];omega
  rw [if_pos h0,h0,hW]
  rw [h0] at h1
  generalize cU s=T at *
  refine aI Tryz.func29 [.tmp 2, .tmp 3] ?_
  repeat' (first|with_reducible exact aK|refine ak ht ?_|refine an ?_|((first|refine aj (fun K hK => ?_)|refine aY ?_|refine ae (h1) ?_|refine aq (fun hg=>h1) ?_|refine ae (h2) ?_|refine aq (fun hg=>h2) ?_);and_intros;all_goals first|(refine hK _ ?_;clear hK K)|try exact aa)|((first|apply aC|apply ay);(case hf=>rfl);(case hc=>exact aS);(all_goals first|(intro hb;(try simp only [bZ] at hb))|skip))|exact ao|(refine aH (fun hb => ?_) (fun hb => ?_);all_goals try exact ax)|refine ar (fun KB hB => ?_)|(refine hB _ ?_;clear hB KB)|refine aA (S:=Sg) (by assumption) ?_|(refine ai ?_;(try clear hB KB);(try clear hK K)))
  refine aM (X:=Nat) (fun i=>bg [(1, .b (.c (.ptr 0 0))),(2, .b (I 0)),(3, .b (I 0)),(6, .b (I (jS s (T.take i)))),(22, .b (.c (.p (zJ T)))),(23, .b (I T.length)),(24, .b (I i))] [(0, .fix ((aL s).map CV.p))] 1) (fun i=>i≤T.length) (fun i=>T.length - i) 0 ?_ ?_ ?_
  ·exact Nat.zero_le _
  ·refine aE [] ?_ ?_
   and_intros
   all_goals first|exact aw|skip
  intro i hi
  have hbi:=hb i hi
  rcases Nat.lt_or_ge i T.length with h|h
  ·have g1:decide ((i:Int)<T.length)=true:=decide_eq_true (by omega)
   have h4:=h3 (T.getD i default)
   have hb2:=hb (i+1) (by omega)
   rw [wt h] at hb2
   repeat' (first|with_reducible exact aK|refine ak g1 ?_|refine an ?_|((first|refine aj (fun K hK => ?_)|refine aY ?_|refine ae (h4) ?_|refine aq (fun hg=>h4) ?_);and_intros;all_goals first|(refine hK _ ?_;clear hK K)|try exact aa)|((first|apply aC|apply ay);(case hf=>rfl);(case hc=>exact aS);(all_goals first|(intro hb;(try simp only [bZ] at hb))|skip))|exact ao|(refine aH (fun hb => ?_) (fun hb => ?_);all_goals try exact ax)|refine ar (fun KB hB => ?_)|(refine hB _ ?_;clear hB KB)|refine aA (S:=Sg) (by assumption) ?_|(refine ai ?_;(try clear hB KB);(try clear hK K)))
   refine aM (X:=Nat) (fun k=>bg [(1, .b (.c (.ptr 0 0))),(2, .b (I 0)),(3, .b (I 0)),(6, .b (I (jS s (T.take i)+oc s (T.getD i default) k:Nat))),(22, .b (.c (.p (zJ T)))),(23, .b (I T.length)),(24, .b (I i)),(34, .b (.c (.p (zd s (T.getD i default))))),(35, .b (I s.ops.length)),(36, .b (I k))] [(0, .fix ((aL s).map CV.p))] 1) (fun k=>k≤s.ops.length) (fun k=>s.ops.length - k) 0 ?_ ?_ ?_
   ·exact Nat.zero_le _
   ·refine aE [] ?_ ?_
    and_intros
    all_goals first|exact aw|skip
   intro k hk
   rcases Nat.lt_or_ge k s.ops.length with h5|h5
   ·have g2:decide ((k:Int)<s.ops.length)=true:=decide_eq_true (by omega)
    have hle:oc s (T.getD i default) k≤k:=by
     unfold oc
     refine Nat.le_trans (List.length_filter_le _ _) ?_
     rw [List.length_range];exact Nat.le_refl _
    have hnx:=ug (s:=s) (r:=T.getD i default) (i:=k)
    cases ha:eV s (T.getD i default) k with
    | false =>
     rw [ha,Bool.false_and,if_neg (by decide),Nat.add_zero] at hnx
     repeat' (first|with_reducible exact aK|refine ak (And.intro g2 ha) ?_|refine an ?_|((first|refine aj (fun K hK => ?_)|refine aY ?_);and_intros;all_goals first|(refine hK _ ?_;clear hK K)|try exact aa)|((first|apply aC|apply ay);(case hf=>rfl);(case hc=>exact aS);(all_goals first|(intro hb;(try simp only [bZ] at hb))|skip))|exact ao|(refine aH (fun hb => ?_) (fun hb => ?_);all_goals try exact ax)|refine ar (fun KB hB => ?_)|(refine hB _ ?_;clear hB KB)|refine aA (S:=Sg) (by assumption) ?_|(refine ai ?_;(try clear hB KB);(try clear hK K)))
     rw [ah]
     refine au (k+1) ?_ (by omega) (by omega)
     refine aE [] ?_ ?_
     and_intros
     all_goals first|exact aw|skip
     exact .inl (by rw [hnx];rfl)
    | true =>
     by_cases hk3:(aB s.ops k).kind=3
     ·have q:(s.ops.getD k default).kind=3:=hk3
      rw [ha,Bool.true_and,decide_eq_false (by omega),if_neg (by decide),Nat.add_zero] at hnx
      repeat' (first|with_reducible exact aK|refine ak (And.intro g2 (And.intro ha q)) ?_|refine an ?_|((first|refine aj (fun K hK => ?_)|refine aY ?_);and_intros;all_goals first|(refine hK _ ?_;clear hK K)|try exact aa)|((first|apply aC|apply ay);(case hf=>rfl);(case hc=>exact aS);(all_goals first|(intro hb;(try simp only [bZ] at hb))|skip))|exact ao|(refine aH (fun hb => ?_) (fun hb => ?_);all_goals try exact ax)|refine ar (fun KB hB => ?_)|(refine hB _ ?_;clear hB KB)|refine aA (S:=Sg) (by assumption) ?_|(refine ai ?_;(try clear hB KB);(try clear hK K)))
      rw [ah]
      refine au (k+1) ?_ (by omega) (by omega)
      refine aE [] ?_ ?_
      and_intros
      all_goals first|exact aw|skip
      exact .inl (by rw [hnx];rfl)
     ·have q:((s.ops.getD k default).kind != 3)=true:=bne_iff_ne.2 hk3
      rw [ha,Bool.true_and,decide_eq_true hk3,if_pos rfl] at hnx
      repeat' (first|with_reducible exact aK|refine ak (And.intro g2 (And.intro ha q)) ?_|refine an ?_|((first|refine aj (fun K hK => ?_)|refine aY ?_);and_intros;all_goals first|(refine hK _ ?_;clear hK K)|try exact aa)|((first|apply aC|apply ay);(case hf=>rfl);(case hc=>exact aS);(all_goals first|(intro hb;(try simp only [bZ] at hb))|skip))|exact ao|(refine aH (fun hb => ?_) (fun hb => ?_);all_goals try exact ax)|refine ar (fun KB hB => ?_)|(refine hB _ ?_;clear hB KB)|refine aA (S:=Sg) (by assumption) ?_|(refine ai ?_;(try clear hB KB);(try clear hK K)))
      rw [ah]
      refine au (k+1) ?_ (by omega) (by omega)
      refine aE [] ?_ ?_
      and_intros
      all_goals first|exact aw|skip
      exact .inl (by rw [hnx,← Nat.add_assoc];rfl)
   ·have g2:decide ((k:Int)<s.ops.length)=false:=decide_eq_false (by omega)
    obtain rfl:k=s.ops.length:=by omega
    repeat' (first|with_reducible exact aK|refine ak g2 ?_|refine an ?_|((first|refine aj (fun K hK => ?_)|refine aY ?_);and_intros;all_goals first|(refine hK _ ?_;clear hK K)|try exact aa)|((first|apply aC|apply ay);(case hf=>rfl);(case hc=>exact aS);(all_goals first|(intro hb;(try simp only [bZ] at hb))|skip))|exact ao|(refine aH (fun hb => ?_) (fun hb => ?_);all_goals try exact ax)|refine ar (fun KB hB => ?_)|(refine hB _ ?_;clear hB KB)|refine aA (S:=Sg) (by assumption) ?_|(refine ai ?_;(try clear hB KB);(try clear hK K)))
    rw [ah]
    refine au (i+1) ?_ (by omega) (by omega)
    rw [wt h,wy]
    refine aE [] ?_ ?_
    and_intros
    all_goals first|exact aw|skip
  ·have g1:decide ((i:Int)<T.length)=false:=decide_eq_false (by omega)
   obtain rfl:i=T.length:=by omega
   repeat' (first|with_reducible exact aK|refine ak g1 ?_|refine an ?_|((first|refine aj (fun K hK => ?_)|refine aY ?_);and_intros;all_goals first|(refine hK _ ?_;clear hK K)|try exact aa)|((first|apply aC|apply ay);(case hf=>rfl);(case hc=>exact aS);(all_goals first|(intro hb;(try simp only [bZ] at hb))|skip))|exact ao|(refine aH (fun hb => ?_) (fun hb => ?_);all_goals try exact ax)|refine ar (fun KB hB => ?_)|(refine hB _ ?_;clear hB KB)|refine aA (S:=Sg) (by assumption) ?_|(refine ai ?_;(try clear hB KB);(try clear hK K)))
 ·have g0:((bQ s).1 != 0)=true:=bne_iff_ne.2 h0
  rw [if_neg h0]
  refine aI Tryz.func29 [.tmp 2, .tmp 3] ?_
  repeat' (first|with_reducible exact aK|refine ak g0 ?_|refine an ?_|((first|refine aj (fun K hK => ?_)|refine aY ?_|refine ae (h1) ?_|refine aq (fun hg=>h1) ?_);and_intros;all_goals first|(refine hK _ ?_;clear hK K)|try exact aa)|((first|apply aC|apply ay);(case hf=>rfl);(case hc=>exact aS);(all_goals first|(intro hb;(try simp only [bZ] at hb))|skip))|exact ao|(refine aH (fun hb => ?_) (fun hb => ?_);all_goals try exact ax)|refine ar (fun KB hB => ?_)|(refine hB _ ?_;clear hB KB)|refine aA (S:=Sg) (by assumption) ?_|(refine ai ?_;(try clear hB KB);(try clear hK K)))
theorem KG (s:Script) (E:EvOk s) (hc:(bQ s).1=0→Small s.canvas):aF Sg 30 [ag (aL s)] (fun r=>r = .tup [I (GG s),I (bQ s).1]):=by
 have ht:True:=trivial
 have h1:=Df s E.len (fun h=>⟨ij h,fun m hm=>(E.im h m hm).1⟩)
 unfold GG
 by_cases h0:(bQ s).1=0
 ·obtain ⟨hf,V,hI,hm⟩:=E.zero h0
  have hF:FrOk s:=⟨hc h0,hf⟩
  have hn:=V.cnt
  have h2:=ic s.canvas s.tileW s.tileH
  have h3:∀ r,aF Sg 57 [ag (aL s),ag (bc r)] (fun x=>x = .tup [.c (.p (zd s r)),I 0]):=fun r=>Ds s r V E.len
  have hN:=hF.n
  obtain ⟨N,eN⟩:∃ N:Nat,(N:Int)=dN s:=⟨(dN s).toNat,by omega⟩
  have hW:=Hb hF
  rw [← eN,Int.toNat_natCast] at hW
  have h4:∀ i:Nat,i<N→aF Sg 56 [ag (bc s.canvas),I s.tileW,I s.tileH,I i] (fun x=>x = .tup [ag (bc (qm s (i:Nat))),B true]):=fun i hi =>
   KJ s.canvas s.tileW s.tileH i hF.c hF.t ⟨by omega,by show _<dN s;omega⟩
  have hb:∀ i,i≤N→pZ s i≤81920:=fun i hi=>Nat.le_trans (zK i) (Je (by omega) hn)
  have hww:IntKind.i64.wrap (aX s.canvas s.tileW s.tileH * bz s.canvas s.tileW s.tileH)=N:=by
   rw [(fu _ _ _).1,eN];rfl
  rw [if_pos h0,h0,← hW]
  rw [h0] at h1
  generalize aX s.canvas s.tileW s.tileH=nx at *
  generalize bz s.canvas s.tileW s.tileH=ny at *
  refine aI Tryz.func30 [.tmp 2, .tmp 3] ?_
  repeat' (first|with_reducible exact aK|refine ak ht ?_|refine an ?_|((first|refine aj (fun K hK => ?_)|refine aY ?_|refine ae (h1) ?_|refine aq (fun hg=>h1) ?_|refine ae (h2) ?_|refine aq (fun hg=>h2) ?_);and_intros;all_goals first|(refine hK _ ?_;clear hK K)|try exact aa)|((first|apply aC|apply ay);(case hf=>rfl);(case hc=>exact aS);(all_goals first|(intro hb;(try simp only [bZ] at hb))|skip))|exact ao|(refine aH (fun hb => ?_) (fun hb => ?_);all_goals try exact ax)|refine ar (fun KB hB => ?_)|(refine hB _ ?_;clear hB KB)|refine aA (S:=Sg) (by assumption) ?_|(refine ai ?_;(try clear hB KB);(try clear hK K)))
  refine aM (X:=Nat) (fun i=>bg [(1, .b (.c (.ptr 0 0))),(2, .b (I 0)),(3, .b (I 0)),(6, .b (I nx)),(7, .b (I ny)),(9, .b (I (pZ s i))),(10, .b (I i))] [(0, .fix ((aL s).map CV.p))] 1) (fun i=>i≤N) (fun i=>N - i) 0 ?_ ?_ ?_
  ·exact Nat.zero_le _
  ·refine aE [] ?_ ?_
   and_intros
   all_goals first|exact aw|skip
  intro i hi
  have hbi:=hb i hi
  rcases Nat.lt_or_ge i N with h|h
  ·have g1:decide ((i:Int)<IntKind.i64.wrap (nx * ny))=true:=decide_eq_true (by omega)
   have h5:=h4 i h
   have h6:=h3 (qm s (i:Nat))
   have hb2:=hb (i+1) (by omega)
   rw [oC] at hb2
   generalize hR:qm s (i:Nat)=R at *
   repeat' (first|with_reducible exact aK|refine ak g1 ?_|refine an ?_|((first|refine aj (fun K hK => ?_)|refine aY ?_|refine ae (h5) ?_|refine aq (fun hg=>h5) ?_|refine ae (h6) ?_|refine aq (fun hg=>h6) ?_);and_intros;all_goals first|(refine hK _ ?_;clear hK K)|try exact aa)|((first|apply aC|apply ay);(case hf=>rfl);(case hc=>exact aS);(all_goals first|(intro hb;(try simp only [bZ] at hb))|skip))|exact ao|(refine aH (fun hb => ?_) (fun hb => ?_);all_goals try exact ax)|refine ar (fun KB hB => ?_)|(refine hB _ ?_;clear hB KB)|refine aA (S:=Sg) (by assumption) ?_|(refine ai ?_;(try clear hB KB);(try clear hK K)))
   refine aM (X:=Nat) (fun k=>bg [(1, .b (.c (.ptr 0 0))),(2, .b (I 0)),(3, .b (I 0)),(6, .b (I nx)),(7, .b (I ny)),(9, .b (I (pZ s i+oc s R k:Nat))),(10, .b (I i)),(13, .b (.c (.p (zd s R)))),(15, .b (I k))] [(0, .fix ((aL s).map CV.p))] 1) (fun k=>k≤s.ops.length) (fun k=>s.ops.length - k) 0 ?_ ?_ ?_
   ·exact Nat.zero_le _
   ·refine aE [] ?_ ?_
    and_intros
    all_goals first|exact aw|skip
   intro k hk
   rcases Nat.lt_or_ge k s.ops.length with h5|h5
   ·have g2:decide ((k:Int)<s.ops.length)=true:=decide_eq_true (by omega)
    have hle:oc s R k≤k:=by
     unfold oc
     refine Nat.le_trans (List.length_filter_le _ _) ?_
     rw [List.length_range];exact Nat.le_refl _
    have hnx:=ug (s:=s) (r:=R) (i:=k)
    cases ha:eV s R k with
    | false =>
     rw [ha,Bool.false_and,if_neg (by decide),Nat.add_zero] at hnx
     repeat' (first|with_reducible exact aK|refine ak (And.intro g2 ha) ?_|refine an ?_|((first|refine aj (fun K hK => ?_)|refine aY ?_);and_intros;all_goals first|(refine hK _ ?_;clear hK K)|try exact aa)|((first|apply aC|apply ay);(case hf=>rfl);(case hc=>exact aS);(all_goals first|(intro hb;(try simp only [bZ] at hb))|skip))|exact ao|(refine aH (fun hb => ?_) (fun hb => ?_);all_goals try exact ax)|refine ar (fun KB hB => ?_)|(refine hB _ ?_;clear hB KB)|refine aA (S:=Sg) (by assumption) ?_|(refine ai ?_;(try clear hB KB);(try clear hK K)))
     rw [ah]
     refine au (k+1) ?_ (by omega) (by omega)
     refine aE [] ?_ ?_
     and_intros
     all_goals first|exact aw|skip
     exact .inl (by rw [hnx];rfl)
    | true =>
     by_cases hk3:(aB s.ops k).kind=3
     ·have q:(s.ops.getD k default).kind=3:=hk3
      rw [ha,Bool.true_and,decide_eq_false (by omega),if_neg (by decide),Nat.add_zero] at hnx
      repeat' (first|with_reducible exact aK|refine ak (And.intro g2 (And.intro ha q)) ?_|refine an ?_|((first|refine aj (fun K hK => ?_)|refine aY ?_);and_intros;all_goals first|(refine hK _ ?_;clear hK K)|try exact aa)|((first|apply aC|apply ay);(case hf=>rfl);(case hc=>exact aS);(all_goals first|(intro hb;(try simp only [bZ] at hb))|skip))|exact ao|(refine aH (fun hb => ?_) (fun hb => ?_);all_goals try exact ax)|refine ar (fun KB hB => ?_)|(refine hB _ ?_;clear hB KB)|refine aA (S:=Sg) (by assumption) ?_|(refine ai ?_;(try clear hB KB);(try clear hK K)))
      rw [ah]
      refine au (k+1) ?_ (by omega) (by omega)
      refine aE [] ?_ ?_
      and_intros
      all_goals first|exact aw|skip
      exact .inl (by rw [hnx];rfl)
     ·have q:((s.ops.getD k default).kind != 3)=true:=bne_iff_ne.2 hk3
      rw [ha,Bool.true_and,decide_eq_true hk3,if_pos rfl] at hnx
      repeat' (first|with_reducible exact aK|refine ak (And.intro g2 (And.intro ha q)) ?_|refine an ?_|((first|refine aj (fun K hK => ?_)|refine aY ?_);and_intros;all_goals first|(refine hK _ ?_;clear hK K)|try exact aa)|((first|apply aC|apply ay);(case hf=>rfl);(case hc=>exact aS);(all_goals first|(intro hb;(try simp only [bZ] at hb))|skip))|exact ao|(refine aH (fun hb => ?_) (fun hb => ?_);all_goals try exact ax)|refine ar (fun KB hB => ?_)|(refine hB _ ?_;clear hB KB)|refine aA (S:=Sg) (by assumption) ?_|(refine ai ?_;(try clear hB KB);(try clear hK K)))
      rw [ah]
      refine au (k+1) ?_ (by omega) (by omega)
      refine aE [] ?_ ?_
      and_intros
      all_goals first|exact aw|skip
      exact .inl (by rw [hnx,← Nat.add_assoc];rfl)
   ·have g2:decide ((k:Int)<s.ops.length)=false:=decide_eq_false (by omega)
    obtain rfl:k=s.ops.length:=by omega
    repeat' (first|with_reducible exact aK|refine ak g2 ?_|refine an ?_|((first|refine aj (fun K hK => ?_)|refine aY ?_);and_intros;all_goals first|(refine hK _ ?_;clear hK K)|try exact aa)|((first|apply aC|apply ay);(case hf=>rfl);(case hc=>exact aS);(all_goals first|(intro hb;(try simp only [bZ] at hb))|skip))|exact ao|(refine aH (fun hb => ?_) (fun hb => ?_);all_goals try exact ax)|refine ar (fun KB hB => ?_)|(refine hB _ ?_;clear hB KB)|refine aA (S:=Sg) (by assumption) ?_|(refine ai ?_;(try clear hB KB);(try clear hK K)))
    rw [ah]
    refine au (i+1) ?_ (by omega) (by omega)
    rw [oC,hR,wy]
    refine aE [] ?_ ?_
    and_intros
    all_goals first|exact aw|skip
  ·have g1:decide ((i:Int)<IntKind.i64.wrap (nx * ny))=false:=decide_eq_false (by omega)
   obtain rfl:i=N:=by omega
   repeat' (first|with_reducible exact aK|refine ak g1 ?_|refine an ?_|((first|refine aj (fun K hK => ?_)|refine aY ?_);and_intros;all_goals first|(refine hK _ ?_;clear hK K)|try exact aa)|((first|apply aC|apply ay);(case hf=>rfl);(case hc=>exact aS);(all_goals first|(intro hb;(try simp only [bZ] at hb))|skip))|exact ao|(refine aH (fun hb => ?_) (fun hb => ?_);all_goals try exact ax)|refine ar (fun KB hB => ?_)|(refine hB _ ?_;clear hB KB)|refine aA (S:=Sg) (by assumption) ?_|(refine ai ?_;(try clear hB KB);(try clear hK K)))
 ·have g0:((bQ s).1 != 0)=true:=bne_iff_ne.2 h0
  rw [if_neg h0]
  refine aI Tryz.func30 [.tmp 2, .tmp 3] ?_
  repeat' (first|with_reducible exact aK|refine ak g0 ?_|refine an ?_|((first|refine aj (fun K hK => ?_)|refine aY ?_|refine ae (h1) ?_|refine aq (fun hg=>h1) ?_);and_intros;all_goals first|(refine hK _ ?_;clear hK K)|try exact aa)|((first|apply aC|apply ay);(case hf=>rfl);(case hc=>exact aS);(all_goals first|(intro hb;(try simp only [bZ] at hb))|skip))|exact ao|(refine aH (fun hb => ?_) (fun hb => ?_);all_goals try exact ax)|refine ar (fun KB hB => ?_)|(refine hB _ ?_;clear hB KB)|refine aA (S:=Sg) (by assumption) ?_|(refine ai ?_;(try clear hB KB);(try clear hK K)))
end Go.Proofs.YtcbifofjjpfbcaaGreatDoor
set_option maxHeartbeats 4000000
set_option maxRecDepth 16000
namespace Go.Proofs.YtcbifofjjpfbcaaGreatDoor
open Go Go.SL
open Go.RowKit (wrap64)
attribute [local go_sem] Int.toNat_natCast
theorem Ko (c:Scene) (hc:SceneOk c):aF Sg 7 [ag (gI c)] (fun r=>r = .b (B true)):=by
 have ht:True:=trivial
 have hg:=lW c hc
 have hO:=SU c
 have hsm:=hO.small
 have h0:bQ (aD c)=(0,0):=lv hO.V hO.im
 have h1:=Mr (aD c) hO.ev (fun _=>hsm)
 have h2:=KG (aD c) hO.ev (fun _=>hsm)
 have ew:GG (aD c)=uO (aD c):=by unfold GG;rw [h0,if_pos rfl]
 rw [ew,h0] at h1 h2
 have h3:=ic (aD c).canvas (aD c).tileW (aD c).tileH
 have haw:=oH
 have hF:FrOk (aD c):=⟨hsm,hO.V.frame⟩
 have hw:=hF.len.1
 have hn:=hF.n
 have hle:uO (aD c)≤(cU (aD c)).length * (aD c).ops.length:=vg
 have hcnt:=hO.V.cnt
 have hnw:=(fu (aD c).canvas (aD c).tileW (aD c).tileH).1
 have e:((cU (aD c)).length:Int)=aX (aD c).canvas (aD c).tileW (aD c).tileH * bz (aD c).canvas (aD c).tileW (aD c).tileH:=hw
 generalize (cU (aD c)).length=T at *
 generalize uO (aD c)=k at *
 generalize aD c=s at *
 have g:decide ((k:Int)≤IntKind.i64.wrap (aX s.canvas s.tileW s.tileH * bz s.canvas s.tileW s.tileH * s.ops.length))=true:=by
  have hl:T * s.ops.length≤20 * 4096:=Nat.mul_le_mul (by omega) hcnt
  rw [← e,← Int.natCast_mul,fA (by omega) (by omega)]
  exact decide_eq_true (by omega)
 refine aI Tryz.func7 [.tmp 2] ?_
 repeat' (first|with_reducible exact aK|refine ak ht ?_|refine an ?_|((first|refine aj (fun K hK => ?_)|refine aY ?_|refine ae (hg) ?_|refine aq (fun hg=>hg) ?_|refine ae (h1) ?_|refine aq (fun hg=>h1) ?_|refine ae (h2) ?_|refine aq (fun hg=>h2) ?_|refine ae (h3) ?_|refine aq (fun hg=>h3) ?_|refine ae (haw) ?_|refine aq (fun hg=>haw) ?_);and_intros;all_goals first|(refine hK _ ?_;clear hK K)|try exact aa)|((first|apply aC|apply ay);(case hf=>rfl);(case hc=>exact aS);(all_goals first|(intro hb;(try simp only [bZ] at hb))|skip))|exact ao|(refine aH (fun hb => ?_) (fun hb => ?_);all_goals try exact ax)|refine ar (fun KB hB => ?_)|(refine hB _ ?_;clear hB KB)|refine aA (S:=Sg) (by assumption) ?_|(refine ai ?_;(try clear hB KB);(try clear hK K)))
 refine congrArg (fun b=>SV.b (B b)) (?_:_=true)
 rw [g]
 simp only [beq_self_eq_true,Bool.and_self,Bool.true_and,Bool.and_true]
end Go.Proofs.YtcbifofjjpfbcaaGreatDoor
