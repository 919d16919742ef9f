/- Part of the proof: D3, D5, D7, P7, R4, RP, BrW, RC, RK, RE, RG, N5. -/
import Derived.Test.YtcbifofjjpfbcaaGreatDoorM36
set_option linter.unusedSimpArgs false
set_option linter.unusedVariables false
set_option maxHeartbeats 8000000
set_option maxRecDepth 16000
namespace Go.Proofs.YtcbifofjjpfbcaaGreatDoor
open Go Go.SL
open Go.RowKit (wrap64)
section
attribute [local go_sem] BY Bs
theorem jA (o:Int):aA Sg 162 [I o] (fun x=>x = .b (B (du o))):=by
 refine aD Tryz.func162 [.tmp 2] ?_;repeat' (first|with_reducible exact bq|refine bU ?_|((first|refine an (fun K hK => ?_)|refine fc ?_);and_intros;all_goals first|(refine hK _ ?_;clear hK K)|try exact ai)|((first|apply bn|apply ba);(case hf=>rfl);(case hc=>exact bM);(all_goals first|(intro hb;(try simp only [gL] at hb))|skip))|exact aG|(refine aK (fun hb => ?_) (fun hb => ?_);all_goals try exact aE)|refine aU (fun KB hB => ?_)|(refine hB _ ?_;clear hB KB)|refine bt (S:=Sg) (by assumption) ?_|(refine ct ?_;(try clear hB KB);(try clear hK K)))
 refine eV ?_
 (try simp only [du,Bool.and_eq_true,Bool.or_eq_true,Bool.not_eq_true',Bool.not_eq_false',decide_eq_true_eq,decide_eq_false_iff_not,ge_iff_le,gt_iff_lt,beq_iff_eq,bne_iff_ne,ne_eq,Bool.or_eq_false_iff,Bool.and_eq_false_imp,Bool.not_true,Bool.not_false])
 try omega
theorem Ee (l:List Rect) (hl:l.length≤4611686018427387904):aA Sg 164 [.c (.p (Ce l))] (fun x=>x = .b (ag (aQ (dZ l)))):=by
 refine aD Tryz.func164 [.cell 2 28] ?_;repeat' (first|with_reducible exact bq|refine bU ?_|((first|refine an (fun K hK => ?_)|refine fc ?_);and_intros;all_goals first|(refine hK _ ?_;clear hK K)|try exact ai)|((first|apply bn|apply ba);(case hf=>rfl);(case hc=>exact bM);(all_goals first|(intro hb;(try simp only [gL] at hb))|skip))|exact aG|(refine aK (fun hb => ?_) (fun hb => ?_);all_goals try exact aE)|refine aU (fun KB hB => ?_)|(refine hB _ ?_;clear hB KB)|refine bt (S:=Sg) (by assumption) ?_|(refine ct ?_;(try clear hB KB);(try clear hK K)))
 refine aH (X:=Nat × Rect) (fun x=>aT [(0, .b (.c (.p (Ce l)))),(2, .b (.c (.ptr 0 0))),(3, .b (.c (.ptr 1 0))),(4, .b (I x.1))] [(0, .fix ((aQ dt).map CV.p)),(1, .fix ((aQ x.2).map CV.p))] 2)
  (fun x=>x.1≤l.length∧x.2=dZ (l.take x.1)) (fun x=>l.length - x.1) (0,dt) ?_ ?_ ?_
 ·exact ⟨by dsimp only;omega,rfl⟩
 ·refine au [(1,some 1)] ?_ ?_;and_intros;all_goals try exact aj
 ·rintro ⟨i,h⟩ ⟨hi,hh⟩;dsimp only at hi hh ⊢;have e0:=yY (l:=l) (i:=i);cases he:aP (l.getD i default) with
  | true =>
   repeat' (first|with_reducible exact bq|refine ah he ?_|refine bU ?_|((first|refine an (fun K hK => ?_)|refine fc ?_|refine aa (bl (l.getD i default)) ?_|refine aw (fun hg=>bl (l.getD i default)) ?_|refine aa (bl h) ?_|refine aw (fun hg=>bl h) ?_);and_intros;all_goals first|(refine hK _ ?_;clear hK K)|try exact ai)|((first|apply bn|apply ba);(case hf=>rfl);(case hc=>exact bM);(all_goals first|(intro hb;(try simp only [gL] at hb))|skip))|exact aG|(refine aK (fun hb => ?_) (fun hb => ?_);all_goals try exact aE)|refine aU (fun KB hB => ?_)|(refine hB _ ?_;clear hB KB)|refine bt (S:=Sg) (by assumption) ?_|(refine ct ?_;(try clear hB KB);(try clear hK K)))
   ·rw [ae];refine ak (i+1,h) ?_ ⟨by dsimp only;omega,by rw [e0 (by omega),jg,if_pos he,hh]⟩ (by dsimp only;omega);refine au [(1,some 1)] ?_ ?_;and_intros;all_goals try exact aj
   ·rw [hh,show i=l.length by omega,List.take_length];rfl
  | false =>
   cases he2:aP h with
   | true =>
    repeat' (first|with_reducible exact bq|refine ah (And.intro he he2) ?_|refine bU ?_|((first|refine an (fun K hK => ?_)|refine fc ?_|refine aa (bl (l.getD i default)) ?_|refine aw (fun hg=>bl (l.getD i default)) ?_|refine aa (bl h) ?_|refine aw (fun hg=>bl h) ?_);and_intros;all_goals first|(refine hK _ ?_;clear hK K)|try exact ai)|((first|apply bn|apply ba);(case hf=>rfl);(case hc=>exact bM);(all_goals first|(intro hb;(try simp only [gL] at hb))|skip))|exact aG|(refine aK (fun hb => ?_) (fun hb => ?_);all_goals try exact aE)|refine aU (fun KB hB => ?_)|(refine hB _ ?_;clear hB KB)|refine bt (S:=Sg) (by assumption) ?_|(refine ct ?_;(try clear hB KB);(try clear hK K)))
    ·rw [ae];refine ak (i+1,l.getD i default) ?_ ⟨by dsimp only;omega,by rw [e0 (by omega),jg,if_neg (by rw [he];simp),← hh,if_pos he2]⟩ (by dsimp only;omega);refine au [(1,some 1)] ?_ ?_;and_intros;all_goals try exact aj
    ·rw [hh,show i=l.length by omega,List.take_length];rfl
   | false =>
    repeat' (first|with_reducible exact bq|refine ah (And.intro he he2) ?_|refine bU ?_|((first|refine an (fun K hK => ?_)|refine fc ?_|refine aa (bl (l.getD i default)) ?_|refine aw (fun hg=>bl (l.getD i default)) ?_|refine aa (bl h) ?_|refine aw (fun hg=>bl h) ?_);and_intros;all_goals first|(refine hK _ ?_;clear hK K)|try exact ai)|((first|apply bn|apply ba);(case hf=>rfl);(case hc=>exact bM);(all_goals first|(intro hb;(try simp only [gL] at hb))|skip))|exact aG|(refine aK (fun hb => ?_) (fun hb => ?_);all_goals try exact aE)|refine aU (fun KB hB => ?_)|(refine hB _ ?_;clear hB KB)|refine bt (S:=Sg) (by assumption) ?_|(refine ct ?_;(try clear hB KB);(try clear hK K)))
    ·rw [ae];refine ak (i+1,⟨min (l.getD i default).x0 h.x0,min (l.getD i default).y0 h.y0,max (l.getD i default).x1 h.x1,max (l.getD i default).y1 h.y1⟩) ?_ ⟨by dsimp only;omega,by rw [e0 (by omega),jg,if_neg (by rw [he];simp),← hh,if_neg (by rw [he2];simp)];rw [Int.min_comm _ h.x0,Int.min_comm _ h.y0,Int.max_comm _ h.x1,Int.max_comm _ h.y1]⟩ (by dsimp only;omega);refine au [(1,some 1)] ?_ ?_;and_intros;all_goals try exact aj
    ·rw [hh,show i=l.length by omega,List.take_length];rfl
theorem JG {a b c d:Int} {k:Nat} (hk:k<4) (h:jD (BL a b c d k)=true):(jD c || jD d || jD a || jD b)=true:=by
 have:k=0∨k=1∨k=2∨k=3:=by omega
 rcases this with rfl|rfl|rfl|rfl <;> simp only [BL,List.getD_cons_zero,List.getD_cons_succ] at h <;> simp [h]
theorem Ja {a b c d:Int} (h:∀ j,j<4→jD (BL a b c d j)=false):jD a=false∧jD b=false∧jD c=false∧jD d=false :=
 ⟨h 0 (by omega),h 1 (by omega),h 2 (by omega),h 3 (by omega)⟩
theorem kx (s:Script) (i x y:Int) (hs:ScriptLen s):aA Sg 187 [ag (aF s),I i,I x,I y] (fun r=>r = .b (ag (aQ (eC s i x y)))):=by
 obtain ⟨h1,h2,h3⟩:=id hs;refine aD Tryz.func187 [.cell 8 28] ?_;repeat' (first|with_reducible exact bq|refine bU ?_|((first|refine an (fun K hK => ?_)|refine fc ?_);and_intros;all_goals first|(refine hK _ ?_;clear hK K)|try exact ai)|((first|apply bn|apply ba);(case hf=>rfl);(case hc=>exact bM);(all_goals first|(intro hb;(try simp only [gL] at hb))|skip))|exact aG|(refine aK (fun hb => ?_) (fun hb => ?_);all_goals try exact aE)|refine aU (fun KB hB => ?_)|(refine hB _ ?_;clear hB KB)|refine bt (S:=Sg) (by assumption) ?_|(refine ct ?_;(try clear hB KB);(try clear hK K)))
 ·rw [eC,if_pos (by omega)];rfl
 refine aH (X:=Nat) (fun k=>aT [(2, .b (I x)),(3, .b (I y)),(4, .b (.c (.ptr 0 0))),(8, .b (.c (.ptr 1 0))),(9, .b (.c (.own 2 4))),(10, .b (I k))]
  [(0, .fix ((aF s).map CV.p)),(1, .fix ((aQ dt).map CV.p)),(2, .arr 3 1 4 (fun a _=>PI (BL (s.images.getD i.toNat default).w (s.images.getD i.toNat default).h x y a)))] 3)
  (fun k=>k≤4∧∀ j,j<k→jD (BL (s.images.getD i.toNat default).w (s.images.getD i.toNat default).h x y j)=false) (fun k=>4 - k) 0 ?_ ?_ ?_
 ·exact ⟨by omega,fun j hj=>absurd hj (Nat.not_lt_zero _)⟩
 ·refine au [(1,some 1),(2,some 2)] ?_ ?_;and_intros;all_goals try exact aj
  refine .inr fun a ha j hj => ?_;have h2:j=0:=by omega
  subst h2;have h1:a=0∨a=1∨a=2∨a=3:=by omega
  rcases h1 with rfl|rfl|rfl|rfl <;> exact fun _ _ _ h=>h
 ·rintro k ⟨hk,hf⟩;rcases Nat.lt_or_ge k 4 with hk4|hk4
  ·repeat' (first|with_reducible exact bq|refine bU ?_|((first|refine an (fun K hK => ?_)|refine fc ?_);and_intros;all_goals first|(refine hK _ ?_;clear hK K)|try exact ai)|((first|apply bn|apply ba);(case hf=>rfl);(case hc=>exact bM);(all_goals first|(intro hb;(try simp only [gL] at hb))|skip))|exact aG|(refine aK (fun hb => ?_) (fun hb => ?_);all_goals try exact aE)|refine aU (fun KB hB => ?_)|(refine hB _ ?_;clear hB KB)|refine bt (S:=Sg) (by assumption) ?_|(refine ct ?_;(try clear hB KB);(try clear hK K)))
   ·rw [eC,if_neg (by omega),if_pos (JG hk4 (by simp only [Int.toNat_natCast] at hb;simp only [jD,decide_eq_true_eq];omega))];rfl
   ·rw [ae];refine ak (k+1) ?_ ⟨by omega,fun j hj => ?_⟩ (by omega)
    ·refine au [(1,some 1),(2,some 2)] ?_ ?_;and_intros;all_goals try exact aj
    ·by_cases e:j=k
     ·rw [e];simp only [Int.toNat_natCast] at hb;simp only [jD,decide_eq_false_iff_not];omega
     ·exact hf j (by omega)
  ·have hk5:k=4:=by omega
   subst hk5;obtain ⟨n1,n2,n3,n4⟩:=Ja hf;have f1:=ob n1;have f2:=ob n2;have f3:=ob n3;have f4:=ob n4;have e1:BL (s.images.getD i.toNat default).w (s.images.getD i.toNat default).h x y 0=(s.images.getD i.toNat default).w:=rfl;have e2:BL (s.images.getD i.toNat default).w (s.images.getD i.toNat default).h x y 1=(s.images.getD i.toNat default).h:=rfl;repeat' (first|with_reducible exact bq|refine bU ?_|((first|refine an (fun K hK => ?_)|refine fc ?_|refine aa (dQ ⟨x,y,x+(s.images.getD i.toNat default).w,y+(s.images.getD i.toNat default).h⟩ s.canvas) ?_|refine aw (fun hg=>dQ ⟨x,y,x+(s.images.getD i.toNat default).w,y+(s.images.getD i.toNat default).h⟩ s.canvas) ?_);and_intros;all_goals first|(refine hK _ ?_;clear hK K)|try exact ai)|((first|apply bn|apply ba);(case hf=>rfl);(case hc=>exact bM);(all_goals first|(intro hb;(try simp only [gL] at hb))|skip))|exact aG|(refine aK (fun hb => ?_) (fun hb => ?_);all_goals try exact aE)|refine aU (fun KB hB => ?_)|(refine hB _ ?_;clear hB KB)|refine bt (S:=Sg) (by assumption) ?_|(refine ct ?_;(try clear hB KB);(try clear hK K)))
   rw [eC,if_neg (by omega),if_neg (by rw [n1,n2,n3,n4];simp)];rfl
theorem ir (s:Script) (o:Op) (hs:ScriptLen s):aA Sg 163 [ag (aF s),ag (fZ o)] (fun r=>r = .b (ag (aQ (bB s o)))):=by
 refine aD Tryz.func163 [.cell 4 28] ?_;repeat' (first|with_reducible exact bq|refine bU ?_|((first|refine an (fun K hK => ?_)|refine fc ?_|refine aa (kx s o.image o.x o.y hs) ?_|refine aw (fun hg=>kx s o.image o.x o.y hs) ?_);and_intros;all_goals first|(refine hK _ ?_;clear hK K)|try exact ai)|((first|apply bn|apply ba);(case hf=>rfl);(case hc=>exact bM);(all_goals first|(intro hb;(try simp only [gL] at hb))|skip))|exact aG|(refine aK (fun hb => ?_) (fun hb => ?_);all_goals try exact aE)|refine aU (fun KB hB => ?_)|(refine hB _ ?_;clear hB KB)|refine bt (S:=Sg) (by assumption) ?_|(refine ct ?_;(try clear hB KB);(try clear hK K)))
 ·rw [bB,if_neg (by omega)];rfl
 ·rw [bB,if_pos (by omega)];rfl
theorem jc (s:Script) (o:Op) (hs:ScriptLen s) (hm:0≤o.mask∧o.mask≤1000000):aA Sg 165 [ag (aF s),ag (fZ o)] (fun r=>r = .b (ag (aQ (cr s o)))):=by
 obtain ⟨m1,m2⟩:=hm;refine aD Tryz.func165 [.cell 4 28] ?_;repeat' (first|with_reducible exact bq|refine bU ?_|((first|refine an (fun K hK => ?_)|refine fc ?_|refine aa (dQ s.canvas s.canvas) ?_|refine aw (fun hg=>dQ s.canvas s.canvas) ?_|refine aa (kx s (o.mask - 1) o.maskX o.maskY hs) ?_|refine aw (fun hg=>kx s (o.mask - 1) o.maskX o.maskY hs) ?_);and_intros;all_goals first|(refine hK _ ?_;clear hK K)|try exact ai)|((first|apply bn|apply ba);(case hf=>rfl);(case hc=>exact bM);(all_goals first|(intro hb;(try simp only [gL] at hb))|skip))|exact aG|(refine aK (fun hb => ?_) (fun hb => ?_);all_goals try exact aE)|refine aU (fun KB hB => ?_)|(refine hB _ ?_;clear hB KB)|refine bt (S:=Sg) (by assumption) ?_|(refine ct ?_;(try clear hB KB);(try clear hK K)))
 ·rw [cr,if_pos (by omega)];rfl
 ·rw [cr,if_neg (by omega)];rfl
end
section
attribute [local go_sem] np Int.toNat_natCast
attribute [local go_sem] nG
theorem yD (s:Script) (V:VOps s):aA Sg 84 [.c (.p (yU s.ops))] (fun x=>x = .tup [.c (.p (eR s.ops.length (aN s.ops))),I 0]):=by
 have hn:=V.cnt;have W:=V.wf;refine aD Tryz.func84 [.tmp 2, .tmp 3] ?_;repeat' (first|with_reducible exact bq|refine bU ?_|((first|refine an (fun K hK => ?_)|refine fc ?_);and_intros;all_goals first|(refine hK _ ?_;clear hK K)|try exact ai)|((first|apply bn|apply ba);(case hf=>rfl);(case hc=>exact bM);(all_goals first|(intro hb;(try simp only [gL] at hb))|skip))|exact aG|(refine aK (fun hb => ?_) (fun hb => ?_);all_goals try exact aE)|refine aU (fun KB hB => ?_)|(refine hB _ ?_;clear hB KB)|refine bt (S:=Sg) (by assumption) ?_|(refine ct ?_;(try clear hB KB);(try clear hK K)))
 refine aH (X:=Nat × List Nat) (fun x=>aT [(0, .b (.c (.p (yU s.ops)))),(2, .b (.c (.p (.val (.slice none 0 0))))),(3, .b (I 0)),(4, .b (.c (.own 0 s.ops.length))),(5, .b (.c (.own 1 (bZ s.ops x.1).length))),(6, .b (I x.1))]
  [(0, .arr 3 1 s.ops.length (fun a _=>PI (uA s.ops x.1 a))),(1, .arr 3 1 ((bZ s.ops x.1).length+x.2.length) (fun a _=>PI (HX (bZ s.ops x.1) x.2 a)))] 2)
  (fun x=>x.1≤s.ops.length) (fun x=>s.ops.length - x.1) (0,[]) ?_ ?_ ?_
 ·exact Nat.zero_le _
 ·refine au [(1,none)] ?_ ?_;and_intros;all_goals try exact aj
  refine .inr fun a ha j hj => ?_;have h2:j=0:=by omega
  subst h2;exact fun _ _ _ h=>h
 ·rintro ⟨i,junk⟩ hi;dsimp only at hi ⊢;have hsl:=uR s.ops i;rcases Nat.lt_or_ge i s.ops.length with hlt|hge
  ·rcases W.kinds i hlt with hk|hk|hk
   ·have hk2:(s.ops.getD i default).kind=1:=hk;repeat' (first|with_reducible exact bq|refine bU ?_|((first|refine an (fun K hK => ?_)|refine fc ?_);and_intros;all_goals first|(refine hK _ ?_;clear hK K)|try exact ai)|((first|apply bn|apply ba);(case hf=>rfl);(case hc=>exact bM);(all_goals first|(intro hb;(try simp only [gL] at hb))|skip))|exact aG|(refine aK (fun hb => ?_) (fun hb => ?_);all_goals try exact aE)|refine aU (fun KB hB => ?_)|(refine hB _ ?_;clear hB KB)|refine bt (S:=Sg) (by assumption) ?_|(refine ct ?_;(try clear hB KB);(try clear hK K)))
    rw [ae];refine ak (i+1,junk) ?_ (by dsimp only;omega) (by dsimp only;omega);dsimp only;rw [dM hk];refine au [(1,some 1)] ?_ ?_;and_intros;all_goals try exact aj
    refine .inr fun a ha j hj => ?_;have h2:j=0:=by omega
    subst h2;by_cases e:a=i
    ·rw [if_pos e,if_pos (by omega),e,uA,if_neg (by omega),cB];exact fun _ _ _ h=>h
    ·rw [if_neg e,uA,if_neg (by omega),di _ _ e];exact fun _ _ _ h=>h
   ·have hk2:(s.ops.getD i default).kind=2:=hk;repeat' (first|with_reducible exact bq|refine bU ?_|((first|refine an (fun K hK => ?_)|refine fc ?_);and_intros;all_goals first|(refine hK _ ?_;clear hK K)|try exact ai)|((first|apply bn|apply ba);(case hf=>rfl);(case hc=>exact bM);(all_goals first|(intro hb;(try simp only [gL] at hb))|skip))|exact aG|(refine aK (fun hb => ?_) (fun hb => ?_);all_goals try exact aE)|refine aU (fun KB hB => ?_)|(refine hB _ ?_;clear hB KB)|refine bt (S:=Sg) (by assumption) ?_|(refine ct ?_;(try clear hB KB);(try clear hK K)))
    rw [ae];refine ak (i+1,[]) ?_ (by dsimp only;omega) (by dsimp only;omega);dsimp only;rw [dR hk];refine au [(1,some 3)] ?_ ?_;and_intros;all_goals try exact aj
    ·refine .inr fun a ha j hj => ?_;have h2:j=0:=by omega
     subst h2;by_cases e:a=i
     ·rw [if_pos e,if_pos (by omega),e,uA,if_neg (by omega),cB];exact fun _ _ _ h=>h
     ·rw [if_neg e,uA,if_neg (by omega),di _ _ e];exact fun _ _ _ h=>h
    refine .inr fun a ha j hj => ?_;have h2:j=0:=by omega
    subst h2;unfold gY;by_cases h:a<(bZ s.ops i).length
    ·rw [if_pos h,zT h];exact fun _ _ _ h=>h
    ·have ea:a=(bZ s.ops i).length:=by omega
     rw [if_neg h,ea,nG,Nat.sub_self];exact fun _ _ _ h=>h
   ·have hk2:(s.ops.getD i default).kind=3:=hk;cases hs:bZ s.ops i with
    | nil=>exact absurd hs (W.pops i hlt hk)
    | cons p t =>
     have hp:p<i:=fg (ops:=s.ops) (by rw [hs];exact List.mem_cons_self ..);have htl:t.length≤4096:=by rw [hs] at hsl;simp at hsl;omega
     repeat' (first|with_reducible exact bq|refine bU ?_|((first|refine an (fun K hK => ?_)|refine fc ?_);and_intros;all_goals first|(refine hK _ ?_;clear hK K)|try exact ai)|((first|apply bn|apply ba);(case hf=>rfl);(case hc=>exact bM);(all_goals first|(intro hb;(try simp only [gL] at hb))|skip))|exact aG|(refine aK (fun hb => ?_) (fun hb => ?_);all_goals try exact aE)|refine aU (fun KB hB => ?_)|(refine hB _ ?_;clear hB KB)|refine bt (S:=Sg) (by assumption) ?_|(refine ct ?_;(try clear hB KB);(try clear hK K)))
     rw [ae];refine ak (i+1,p :: junk) ?_ (by dsimp only;omega) (by dsimp only;omega);dsimp only;rw [fy hk,hs];refine au [(1,some 1)] ?_ ?_;and_intros;all_goals try exact aj
     ·refine .inr fun a ha j hj => ?_;have h2:j=0:=by omega
      subst h2;rw [uA,if_pos hk,hs];dsimp only [List.headD];by_cases e:a=p
      ·rw [if_pos e,e,cB];exact fun _ _ _ h=>h
      ·rw [if_neg e,di _ _ e];by_cases e2:a=i
       ·rw [if_pos e2,e2,cB];exact fun _ _ _ h=>h
       ·rw [if_neg e2,di _ _ e2];exact fun _ _ _ h=>h
     ·show _=t.length+(junk.length+1);omega
     ·exact .inl (by rw [AD];rfl)
  ·have hi2:i=s.ops.length:=by omega
   subst hi2;rw [W.fin];repeat' (first|with_reducible exact bq|refine bU ?_|((first|refine an (fun K hK => ?_)|refine fc ?_);and_intros;all_goals first|(refine hK _ ?_;clear hK K)|try exact ai)|((first|apply bn|apply ba);(case hf=>rfl);(case hc=>exact bM);(all_goals first|(intro hb;(try simp only [gL] at hb))|skip))|exact aG|(refine aK (fun hb => ?_) (fun hb => ?_);all_goals try exact aE)|refine aU (fun KB hB => ?_)|(refine hB _ ?_;clear hB KB)|refine bt (S:=Sg) (by assumption) ?_|(refine ct ?_;(try clear hB KB);(try clear hK K)))
   rfl
end
section
attribute [local go_sem] Int.toNat_natCast
theorem FI {s:Script} {o:Op} {r:Rect} (h:du o.operator=false):s.canvas=gZ s o r:=by rw [gZ,if_pos h]
theorem Gr {s:Script} {o:Op} {r:Rect} (h:du o.operator=true) (h2:o.opacity=0):dt=gZ s o r:=by rw [gZ,if_neg (by rw [h];simp),if_pos h2]
theorem FX {s:Script} {o:Op} {r:Rect} (h:du o.operator=true) (h2:¬ o.opacity=0):fF r (cr s o)=gZ s o r:=by rw [gZ,if_neg (by rw [h];simp),if_neg h2]
theorem Bj {e:Nat→Nat} {b:Nat}:∀ {l:List Nat} {a:Nat},Nw e a b l→(∀ k ∈ l,k≤e k)→a+l.length≤b
 | [],a,h,_=>by have:a=b:=h;simp;omega
 | k :: l,a,⟨h1,h2⟩,h=>by
  have:=Bj h2 fun q hq=>h q (List.mem_cons_of_mem _ hq);have:=h k (List.mem_cons_self ..);simp;omega
theorem LG {l:List Nat} {f:Nat→Rect} {a:Nat} (h:a<l.length):(l.map f).getD a default=f (l.getD a 0):=by simp [List.getD_eq_getElem?_getD,h]
theorem Pj {l:List Nat} {m:Nat} (h:m<l.length):l.getD m 0=l[m]:=by simp [List.getD_eq_getElem?_getD,h]
theorem Jg (s : Script) (V : VOps s) (hs : ScriptLen s) : ∀ (d i : Nat), i + d = s.ops.length → i < s.ops.length → (aB s.ops i).kind ≠ 3 →
  aA Sg 122 [ag (aF s), .c (.p (eR s.ops.length (aN s.ops))),I i] (fun x=>x = .b (ag (aQ (bp s i)))):=by
 intro d
 induction d using Nat.strongRecOn with
 | _ d ih =>
 intro i hd hi hk;have hn:=V.cnt;have W:=V.wf;have hm:=zN V hi hk;rcases W.kinds i hi with k|k|k
 ·have hk2:(s.ops.getD i default).kind=1:=k;rw [xg W hi k];refine aD Tryz.func122 [.cell 6 28] ?_;repeat' (first|with_reducible exact bq|refine ah hk2 ?_|refine bU ?_|((first|refine an (fun K hK => ?_)|refine fc ?_|refine aa (jA (s.ops.getD i default).operator) ?_|refine aw (fun hg=>jA (s.ops.getD i default).operator) ?_|refine aa (ir s (s.ops.getD i default) hs) ?_|refine aw (fun hg=>ir s (s.ops.getD i default) hs) ?_|refine aa (jc s (s.ops.getD i default) hs hm) ?_|refine aw (fun hg=>jc s (s.ops.getD i default) hs hm) ?_|refine aa (dQ (bB s (s.ops.getD i default)) (cr s (s.ops.getD i default))) ?_|refine aw (fun hg=>dQ (bB s (s.ops.getD i default)) (cr s (s.ops.getD i default))) ?_);and_intros;all_goals first|(refine hK _ ?_;clear hK K)|try exact ai)|((first|apply bn|apply ba);(case hf=>rfl);(case hc=>exact bM);(all_goals first|(intro hb;(try simp only [gL] at hb))|skip))|exact aG|(refine aK (fun hb => ?_) (fun hb => ?_);all_goals try exact aE)|refine aU (fun KB hB => ?_)|(refine hB _ ?_;clear hB KB)|refine bt (S:=Sg) (by assumption) ?_|(refine ct ?_;(try clear hB KB);(try clear hK K)))
  ·rw [← FI (s:=s) (o:=aB s.ops i) hb];rfl
  ·rename_i hb2;rw [← Gr (s:=s) (o:=aB s.ops i) hb2 hb];rfl
  ·rename_i hb2;rw [← FX (s:=s) (o:=aB s.ops i) hb2 hb];rfl
 ·have hk2:(s.ops.getD i default).kind=2:=k;obtain ⟨l,w1,w2,w3⟩:=BJ W hi k;have hel:=iu W hi;have hep:=jt W hi k;rw [w3];refine aD Tryz.func122 [.cell 6 28] ?_;repeat' (first|with_reducible exact bq|refine ah hk2 ?_|refine bU ?_|((first|refine an (fun K hK => ?_)|refine fc ?_|refine aa (jA (s.ops.getD i default).operator) ?_|refine aw (fun hg=>jA (s.ops.getD i default).operator) ?_|refine aa (ir s (s.ops.getD i default) hs) ?_|refine aw (fun hg=>ir s (s.ops.getD i default) hs) ?_);and_intros;all_goals first|(refine hK _ ?_;clear hK K)|try exact ai)|((first|apply bn|apply ba);(case hf=>rfl);(case hc=>exact bM);(all_goals first|(intro hb;(try simp only [gL] at hb))|skip))|exact aG|(refine aK (fun hb => ?_) (fun hb => ?_);all_goals try exact aE)|refine aU (fun KB hB => ?_)|(refine hB _ ?_;clear hB KB)|refine bt (S:=Sg) (by assumption) ?_|(refine ct ?_;(try clear hB KB);(try clear hK K)))
  ·rw [← FI (s:=s) (o:=aB s.ops i) hb];rfl
  ·rename_i hb2;rw [← Gr (s:=s) (o:=aB s.ops i) hb2 hb];rfl
  rename_i hb2;have hfin:=FX (s:=s) (o:=aB s.ops i) (r:=dZ (l.map (bp s))) hb2 hb
  refine aH (X:=Nat × Nat) (fun x=>aT [(1, .b (.c (.p (eR s.ops.length (aN s.ops))))),(2, .b (I i)),(3, .b (.c (.ptr 0 0))),(6, .b (.c (.ptr 1 0))),(7, .b (.c (.ptr 2 0))),(8, .b (.c (.ptr 3 0))),(9, .b (.c (.own 4 x.1))),(10, .b (I x.2))]
   [(0, .fix ((aF s).map CV.p)),(1, .fix ((aQ dt).map CV.p)),(2, .fix ((fZ (aB s.ops i)).map CV.p)),(3, .fix ((aQ (bB s (aB s.ops i))).map CV.p)),(4, .arr 28 4 x.1 (fun a j=>(aQ (bp s (l.getD a 0))).getD j .any))] 5)
   (fun x=>x.1≤l.length∧Nw (aN s.ops) x.2 (aN s.ops i) (l.drop x.1)) (fun x=>l.length - x.1) (0,i+1) ?_ ?_ ?_
  ·exact ⟨Nat.zero_le _,w1⟩
  ·refine au [(1,some 1),(2,some 2),(3,some 3),(4,none)] ?_ ?_;and_intros;all_goals try exact aj
   skip
  ·rintro ⟨m,k⟩ ⟨hml,hw⟩;dsimp only at hml hw ⊢;rcases Nat.lt_or_ge m l.length with hmlt|hmge
   ·rw [List.drop_eq_getElem_cons hmlt] at hw;obtain ⟨rfl,hw⟩:=hw;have hkl:=w2 l[m] (List.getElem_mem hmlt);have hel2:=iu W (show l[m]<s.ops.length by omega);have hlen:l.length≤4096:=by
     have:=Bj w1 fun k hk=>vF W (by have:=(w2 k hk).1;omega);omega
    have hrec:=ih (s.ops.length - l[m]) (by omega) l[m] (by omega) (by omega) hkl.2;repeat' (first|with_reducible exact bq|refine bU ?_|((first|refine an (fun K hK => ?_)|refine fc ?_|refine aa (hrec) ?_|refine aw (fun hg=>hrec) ?_);and_intros;all_goals first|(refine hK _ ?_;clear hK K)|try exact ai)|((first|apply bn|apply ba);(case hf=>rfl);(case hc=>exact bM);(all_goals first|(intro hb;(try simp only [gL] at hb))|skip))|exact aG|(refine aK (fun hb => ?_) (fun hb => ?_);all_goals try exact aE)|refine aU (fun KB hB => ?_)|(refine hB _ ?_;clear hB KB)|refine bt (S:=Sg) (by assumption) ?_|(refine ct ?_;(try clear hB KB);(try clear hK K)))
    rw [ae];refine ak (m+1,aN s.ops l[m]+1) ?_ ⟨by dsimp only;omega,hw⟩ (by dsimp only;omega);dsimp only;refine au [(1,some 1),(2,some 2),(3,some 3),(4,some 6)] ?_ ?_;and_intros;all_goals try exact aj
    refine .inr fun a ha j hj => ?_;unfold gY;by_cases h:a<m
    ·rw [if_pos h];exact fun _ _ _ h=>h
    ·have ea:a=m:=by omega
     rw [if_neg h,ea,Nat.sub_self,Pj hmlt];have hivl:j=0∨j=1∨j=2∨j=3:=by omega
     rcases hivl with rfl|rfl|rfl|rfl <;> exact fun _ _ _ h=>h
   ·rw [List.drop_eq_nil_of_le hmge] at hw;have hw:k=aN s.ops i:=hw;have hm2:m=l.length:=by omega
    subst hm2;have hlen:l.length≤4096:=by
     have:=Bj w1 fun k hk=>vF W (by have:=(w2 k hk).1;omega);omega
    repeat' (first|with_reducible exact bq|refine bU ?_|((first|refine an (fun K hK => ?_)|refine fc ?_);and_intros;all_goals first|(refine hK _ ?_;clear hK K)|try exact ai)|((first|apply bn|apply ba);(case hf=>rfl);(case hc=>exact bM);(all_goals first|(intro hb;(try simp only [gL] at hb))|skip))|exact aG|(refine aK (fun hb => ?_) (fun hb => ?_);all_goals try exact aE)|refine aU (fun KB hB => ?_)|(refine hB _ ?_;clear hB KB)|refine bt (S:=Sg) (by assumption) ?_|(refine ct ?_;(try clear hB KB);(try clear hK K)))
    refine gF ?_ ?_ bG ?_ (Ee (l.map (bp s)) (by rw [List.length_map];omega));try simp (maxSteps:=999999)(disch:=omega) only [go_sem]
    try (refine hK _ ?_;clear hK K)
    ·repeat' (first|with_reducible exact bq|refine bU ?_|((first|refine an (fun K hK => ?_)|refine fc ?_|refine aa (jc s (aB s.ops i) hs hm) ?_|refine aw (fun hg=>jc s (aB s.ops i) hs hm) ?_|refine aa (dQ (dZ (l.map (bp s))) (cr s (aB s.ops i))) ?_|refine aw (fun hg=>dQ (dZ (l.map (bp s))) (cr s (aB s.ops i))) ?_);and_intros;all_goals first|(refine hK _ ?_;clear hK K)|try exact ai)|((first|apply bn|apply ba);(case hf=>rfl);(case hc=>exact bM);(all_goals first|(intro hb;(try simp only [gL] at hb))|skip))|exact aG|(refine aK (fun hb => ?_) (fun hb => ?_);all_goals try exact aE)|refine aU (fun KB hB => ?_)|(refine hB _ ?_;clear hB KB)|refine bt (S:=Sg) (by assumption) ?_|(refine ct ?_;(try clear hB KB);(try clear hK K)))
     rw [← hfin];rfl
    ·simp (maxSteps:=1000000) (disch:=omega) only [go_sem,fA,fN,List.length_map];refine oG (gX fun a ha j hj => ?_);unfold bK;rw [LG ha];rfl
    ·exact sA _
 ·exact absurd k hk
def Fx (s:Script):Nat→Nat→Rect
 | 0=>fun _=>dt
 | i+1=>if (aB s.ops i).kind=3 then Fx s i else upd (upd (Fx s i) i (bp s i)) (aN s.ops i) (bp s i)
theorem LI {s:Script} (W:Wf s.ops) {i:Nat} (hi:i<s.ops.length) (hk:(aB s.ops i).kind≠3):bp s (aN s.ops i)=bp s i:=by
 rcases W.kinds i hi with h|h|h
 ·rw [iH W hi h]
 ·obtain ⟨j,t,h1,h2,h3,h4⟩:=nX W (s.ops.length - (i+1)) (i+1) (by omega) (by rw [dR h];exact List.mem_cons_self ..);rw [ig W h2 h3 h4,Bo W h2 h3,h4];rfl
 ·exact absurd h hk
theorem JP {s:Script} (W:Wf s.ops):∀ i,i≤s.ops.length→∀ j,(j<i∧(aB s.ops j).kind≠3∨∃ p,p<i∧(aB s.ops p).kind≠3∧aN s.ops p=j)→Fx s i j=bp s j
 | 0,_,j,h=>by rcases h with h|⟨p,h,_⟩ <;> omega
 | i+1,hi,j,h=>by
  have ih:=JP W i (by omega) j;rw [Fx];split
  ·rename_i hk;refine ih ?_;rcases h with ⟨h1,h2⟩|⟨p,h1,h2,h3⟩
   ·exact .inl ⟨by have:j≠i:=fun e=>h2 (e ▸ hk);omega,h2⟩
   ·exact .inr ⟨p,by have:p≠i:=fun e=>h2 (e ▸ hk);omega,h2,h3⟩
  ·rename_i hk;by_cases e1:j=aN s.ops i
   ·rw [e1,cB,LI W (by omega) hk]
   ·rw [di _ _ e1];by_cases e2:j=i
    ·rw [e2,cB]
    ·rw [di _ _ e2];refine ih ?_;rcases h with ⟨h1,h2⟩|⟨p,h1,h2,h3⟩
     ·exact .inl ⟨by omega,h2⟩
     ·exact .inr ⟨p,by have:p≠i:=fun e=>e1 (by rw [← h3,e]);omega,h2,h3⟩
theorem NB {s:Script} (W:Wf s.ops) {j:Nat} (hj:j<s.ops.length):Fx s s.ops.length j=bp s j:=by
 refine JP W _ (Nat.le_refl _) j ?_;by_cases hk:(aB s.ops j).kind=3
 ·cases hs:bZ s.ops j with
  | nil=>exact absurd hs (W.pops j hj hk)
  | cons p t =>
   have hp:p<j:=fg (ops:=s.ops) (by rw [hs];exact List.mem_cons_self ..);have hk2:(aB s.ops p).kind=2:=il (i:=j) (by rw [hs];exact List.mem_cons_self ..);exact .inr ⟨p,by omega,by omega,ig W hj hk hs⟩
 ·exact .inl ⟨hj,hk⟩
theorem Lg {s:Script} (W:Wf s.ops) {j:Nat} (hj:s.ops.length≤j):∀ i,i≤s.ops.length→(dW s i).1 j=dt
 | 0,_=>rfl
 | i+1,hi=>by
  have ih:=Lg W hj i (by omega);rcases W.kinds i (by omega) with k|k|k
  ·rw [dW,if_neg (by omega),if_pos k];dsimp only;rw [di _ _ (by omega)];exact ih
  ·rw [dW,if_pos k];exact ih
  ·have:=fg (sj (W.pops i (by omega) k));rw [dW,if_neg (by omega),if_neg (by omega)];dsimp only;rw [di _ _ (by omega),di _ _ (by omega)];exact ih
theorem Hc {s:Script} (W:Wf s.ops) {j:Nat} (hj:s.ops.length≤j):∀ i,i≤s.ops.length→Fx s i j=dt
 | 0,_=>rfl
 | i+1,hi=>by
  have ih:=Hc W hj i (by omega);have:=iu W (show i<s.ops.length by omega);rw [Fx];split
  ·exact ih
  ·rw [di _ _ (by omega),di _ _ (by omega)];exact ih
theorem Sx {s:Script} (W:Wf s.ops):Fx s s.ops.length=bp s:=by
 funext j;rcases Nat.lt_or_ge j s.ops.length with h|h
 ·exact NB W h
 ·rw [Hc W h _ (Nat.le_refl _),bp,Lg W h _ (Nat.le_refl _)]
theorem DE (s:Script) (V:VOps s) (hs:ScriptLen s):aA Sg 83 [ag (aF s)] (fun x=>x = .tup [.c (.p (qM s.ops.length (bp s))),I 0]):=by
 have hn:=V.cnt;have W:=V.wf;have ho:=mc s hs;rw [DI V] at ho;have he:=yD s V;refine aD Tryz.func83 [.tmp 2, .tmp 3] ?_;repeat' (first|with_reducible exact bq|refine bU ?_|((first|refine an (fun K hK => ?_)|refine fc ?_|refine aa (ho) ?_|refine aw (fun hg=>ho) ?_|refine aa (he) ?_|refine aw (fun hg=>he) ?_);and_intros;all_goals first|(refine hK _ ?_;clear hK K)|try exact ai)|((first|apply bn|apply ba);(case hf=>rfl);(case hc=>exact bM);(all_goals first|(intro hb;(try simp only [gL] at hb))|skip))|exact aG|(refine aK (fun hb => ?_) (fun hb => ?_);all_goals try exact aE)|refine aU (fun KB hB => ?_)|(refine hB _ ?_;clear hB KB)|refine bt (S:=Sg) (by assumption) ?_|(refine ct ?_;(try clear hB KB);(try clear hK K)))
 ·simp at hb
 refine aH (X:=Nat) (fun i=>aT [(1, .b (.c (.ptr 0 0))),(2, .b (.c (.p (.val (.slice none 0 0))))),(3, .b (I 0)),(6, .b (.c (.p (eR s.ops.length (aN s.ops))))),(8, .b (.c (.own 1 s.ops.length))),(9, .b (I i))]
  [(0, .fix ((aF s).map CV.p)),(1, .arr 28 4 s.ops.length (fun a j=>(aQ (Fx s i a)).getD j .any))] 2) (fun i=>i≤s.ops.length) (fun i=>s.ops.length - i) 0 ?_ ?_ ?_
 ·exact Nat.zero_le _
 ·refine au [(1,some 1)] ?_ ?_;and_intros;all_goals try exact aj
  refine .inr fun a ha j hj => ?_;have hivl:j=0∨j=1∨j=2∨j=3:=by omega
  rcases hivl with rfl|rfl|rfl|rfl <;> exact fun _ _ _ h=>h
 ·intro i hi;rcases Nat.lt_or_ge i s.ops.length with hlt|hge
  ·have hel:=iu W hlt;by_cases hk:(aB s.ops i).kind=3
   ·have hk2:(s.ops.getD i default).kind=3:=hk;repeat' (first|with_reducible exact bq|refine ah hk2 ?_|refine bU ?_|((first|refine an (fun K hK => ?_)|refine fc ?_);and_intros;all_goals first|(refine hK _ ?_;clear hK K)|try exact ai)|((first|apply bn|apply ba);(case hf=>rfl);(case hc=>exact bM);(all_goals first|(intro hb;(try simp only [gL] at hb))|skip))|exact aG|(refine aK (fun hb => ?_) (fun hb => ?_);all_goals try exact aE)|refine aU (fun KB hB => ?_)|(refine hB _ ?_;clear hB KB)|refine bt (S:=Sg) (by assumption) ?_|(refine ct ?_;(try clear hB KB);(try clear hK K)))
    rw [ae];refine ak (i+1) ?_ (by omega) (by omega);rw [show Fx s (i+1)=Fx s i from by rw [Fx,if_pos hk]];refine au [(1,some 1)] ?_ ?_;and_intros;all_goals try exact aj
   ·have hk2:¬ (s.ops.getD i default).kind=3:=hk;have hr:=Jg s V hs (s.ops.length - i) i (by omega) hlt hk;have hk3:((s.ops.getD i default).kind != 3)=true:=by simpa using hk2
    repeat' (first|with_reducible exact bq|refine ah hk3 ?_|refine bU ?_|((first|refine an (fun K hK => ?_)|refine fc ?_|refine aa (hr) ?_|refine aw (fun hg=>hr) ?_);and_intros;all_goals first|(refine hK _ ?_;clear hK K)|try exact ai)|((first|apply bn|apply ba);(case hf=>rfl);(case hc=>exact bM);(all_goals first|(intro hb;(try simp only [gL] at hb))|skip))|exact aG|(refine aK (fun hb => ?_) (fun hb => ?_);all_goals try exact aE)|refine aU (fun KB hB => ?_)|(refine hB _ ?_;clear hB KB)|refine bt (S:=Sg) (by assumption) ?_|(refine ct ?_;(try clear hB KB);(try clear hK K)))
    rw [ae];refine ak (i+1) ?_ (by omega) (by omega);rw [show Fx s (i+1)=upd (upd (Fx s i) i (bp s i)) (aN s.ops i) (bp s i) from by rw [Fx,if_neg hk]];refine au [(1,some 1)] ?_ ?_;and_intros;all_goals try exact aj
    refine .inr fun a ha j hj => ?_;by_cases e:a=aN s.ops i
    ·rw [if_pos e,if_pos (by omega),e,cB];have hivl:j=0∨j=1∨j=2∨j=3:=by omega
     rcases hivl with rfl|rfl|rfl|rfl <;> exact fun _ _ _ h=>h
    ·rw [if_neg e,di _ _ e];by_cases e2:a=i
     ·rw [if_pos e2,if_pos (by omega),e2,cB];have hivl:j=0∨j=1∨j=2∨j=3:=by omega
      rcases hivl with rfl|rfl|rfl|rfl <;> exact fun _ _ _ h=>h
     ·rw [if_neg e2,di _ _ e2];exact fun _ _ _ h=>h
  ·have hi2:i=s.ops.length:=by omega
   subst hi2;repeat' (first|with_reducible exact bq|refine bU ?_|((first|refine an (fun K hK => ?_)|refine fc ?_);and_intros;all_goals first|(refine hK _ ?_;clear hK K)|try exact ai)|((first|apply bn|apply ba);(case hf=>rfl);(case hc=>exact bM);(all_goals first|(intro hb;(try simp only [gL] at hb))|skip))|exact aG|(refine aK (fun hb => ?_) (fun hb => ?_);all_goals try exact aE)|refine aU (fun KB hB => ?_)|(refine hB _ ?_;clear hB KB)|refine bt (S:=Sg) (by assumption) ?_|(refine ct ?_;(try clear hB KB);(try clear hK K)))
   rw [Sx W];rfl
end
section
section
variable {s:Script} {m:Int}
def rY (s:Script) (r:Rect):Nat:=((List.range s.ops.length).filter fun i=>gn s r i && decide ((aB s.ops i).kind≠3)).length
theorem FH {r:Rect}:rY s r≤s.ops.length:=by
 unfold rY;have:=List.length_filter_le (fun i=>gn s r i && decide ((aB s.ops i).kind≠3)) (List.range s.ops.length);rw [List.length_range] at this;exact this
end
end
section
attribute [local go_sem] Int.toNat_natCast
theorem Ko (r : Rect) (w h i : Int) (hc : Small r) (ho : TileOk r w h) (hi : 0 ≤ i ∧ i < bj r w h * bY r w h) :
  aA Sg 56 [ag (aQ r),I w,I h,I i] (fun x=>x = .tup [ag (aQ (og r w h (bj r w h) i)),B true]):=by
 have hct:=kS r w h;have hok:=mr hc ho;obtain ⟨htx,hty⟩:=pe hc ho;obtain ⟨x0,x1,y0,y1,hW,hH⟩:=hc;obtain ⟨hw,hh⟩:=ho;rw [hok] at hct;generalize bj r w h=nx at *
 generalize bY r w h=ny at *
 obtain ⟨⟨b1,b2⟩,⟨b3,b4⟩,⟨b5,b6⟩,b7,b8⟩:=wW (w:=w) (h:=h) htx hty hi (by omega) (by omega);have b9:0≤nx * ny∧nx * ny≤5 * 4:=⟨by omega,Int.mul_le_mul (by omega) (by omega) (by omega) (by omega)⟩
 unfold og;refine aD Tryz.func56 [.cell 8 28, .tmp 9] ?_
 repeat' (first|((with_reducible refine IG (id:=4) [] ?_ (fun K hK => ?_));exact dK;refine dz ?_)|refine ax ?_|refine an (fun K hK => ?_)|refine aa (hct) ?_|(refine aK (fun hb => ?_) (fun hb => ?_) <;> try exact aE)|(refine aq hK ?_;try clear hK K)|(refine Bi hK ?_;try clear hK K))
 ·exfalso;simp only [Bool.false_eq_true,false_or] at hb;omega
 ·rfl
end
def la (s:Script) (L:List Rect):Nat:=(L.map (rY s)).sum
def GT (s:Script):Nat:=la s (er s)
theorem Fz {s:Script} {L:List Rect} {r:Rect}:la s (L ++ [r])=la s L+rY s r:=by simp [la]
theorem Ck {s:Script}:∀ {L:List Rect},la s L≤L.length * s.ops.length
 | []=>Nat.zero_le _
 | t :: L=>by
  have h1:=Ck (s:=s) (L:=L);have h2:=FH (s:=s) (r:=t);have e:la s (t :: L)=rY s t+la s L:=by simp [la]
  rw [e,List.length_cons,Nat.succ_mul];omega
def pQ (s:Script) (r:Rect) (i:Nat):Nat:=((List.range i).filter fun i=>gn s r i && decide ((aB s.ops i).kind≠3)).length
theorem zI {s:Script} {r:Rect}:pQ s r s.ops.length=rY s r:=rfl
theorem vp {s:Script} {r:Rect} {i:Nat}:pQ s r (i+1)=pQ s r i+if (gn s r i && decide ((aB s.ops i).kind≠3))=true then 1 else 0:=by
 unfold pQ;rw [List.range_succ,List.filter_append,List.length_append];grind
def ED (s:Script):Int:=if (aW s).1=0 then (GT s:Int) else 0
section
open Go Go.SL Go.ChangeShapes Go.WideShapes Go.ChangeAt Go.RowKit
theorem Uc:qN Sg.P 28 aQ (fun _=>True):=by
 refine qN.to (iy ?_ ?_ (aV dH rfl (aV dH rfl (aV dH rfl (aV dH rfl kX))))) (fun (a,b,c,d,_)=>(⟨a,b,c,d⟩:Rect)) (fun _=>rfl) ?_
 ·kernel_rfl
 ·kernel_rfl
 ·intro _ _;trivial
end
section
attribute [local go_sem] Int.toNat_natCast qM
theorem HN {s:Script} {r:Rect} {i j:Nat}:BP s r i (j+1)=(BP s r i j && (!(decide ((aB s.ops j).kind=2) && decide (i<aN s.ops j)) || fT s r j)):=by
 unfold BP;rw [List.range_succ,List.all_append,List.all_cons,List.all_nil,Bool.and_true,Bool.and_assoc]
theorem Lz {s:Script} {r:Rect} (W:Wf s.ops) {i:Nat} (hi:i<s.ops.length):BP s r i i=gn s r i:=by
 unfold BP gn;cases hm:fT s r i with
 | false=>rfl
 | true =>
  rw [Bool.true_and,Bool.true_and,Bool.eq_iff_iff,List.all_eq_true,List.all_eq_true];constructor
  ·intro h g hg;have hgl:g<i:=fg (ops:=s.ops) hg;obtain ⟨k2,hle⟩:=(mG W (by omega) hgl).1 hg;by_cases e:aN s.ops g=i
   ·have hk:(aB s.ops i).kind=3:=by
     obtain ⟨j,t,q1,q2,q3,q4⟩:=nX W (s.ops.length - i) i (by omega) hg;have:=ig W q2 q3 q4;rw [e] at this;rw [this];exact q3
    have hb:=Bo W hi hk;have hh:(bZ s.ops i).headD 0=g:=by
     cases hs:bZ s.ops i with
     | nil=>rw [hs] at hg;cases hg
     | cons p t =>
      have hp:p ∈ bZ s.ops i:=by rw [hs];exact List.mem_cons_self ..
      have e2:=ig W hi hk hs;show p=g;have hpl:p<i:=fg (ops:=s.ops) hp;obtain ⟨j,t2,q1,q2,q3,q4⟩:=nX W (s.ops.length - i) i (by omega) hg;have e3:=ig W q2 q3 q4;rw [e] at e3;subst e3;rw [hs] at q4;exact (List.cons.inj q4).1
    rw [hh] at hb;unfold fT at hm ⊢;rw [← hb];exact hm
   ·have:=h g (List.mem_range.2 hgl);rw [decide_eq_true k2,decide_eq_true (show i<aN s.ops g by omega)] at this;simpa using this
  ·intro h k hk;have hk:=List.mem_range.1 hk;by_cases q:(aB s.ops k).kind=2∧i<aN s.ops k
   ·rw [h k ((mG W (by omega) hk).2 ⟨q.1,by omega⟩),Bool.or_true]
   ·have:(decide ((aB s.ops k).kind=2) && decide (i<aN s.ops k))=false:=by rw [← Bool.not_eq_true,Bool.and_eq_true,decide_eq_true_eq,decide_eq_true_eq];exact q
    rw [this];rfl
theorem Mt {s:Script} {r:Rect} (W:Wf s.ops) {i a j:Nat} (hi:i<s.ops.length):AY s r i i a j=sH s r (i+1) a j:=by
 unfold AY sH;rw [Lz W hi,vW rfl]
attribute [local go_sem] Gc
theorem Eh (s:Script) (r:Rect) (V:VOps s) (hs:ScriptLen s):aA Sg 57 [ag (aF s),ag (aQ r)] (fun x=>x = .tup [.c (.p (Ak s r)),I 0]):=by
 have ht:True:=trivial;have hn:=V.cnt;have W:=V.wf;have h1:=DE s V hs;have h2:=yD s V;refine dY ?_;refine aD Tryz.func57 [.tmp 4, .tmp 5] ?_;repeat' (first|refine ah ht ?_|refine ax ?_|refine an (fun K hK => ?_)|refine aa (h1) ?_|refine aa (h2) ?_|(refine aq hK ?_;try clear hK K))
 refine aH (X:=Nat) (fun i=>aT [(2, .b (.c (.ptr 0 0))),(3, .b (.c (.ptr 1 0))),(4, .b (.c (.p (.val (.slice none 0 0))))),(5, .b (I 0)),(6, .b (.c (.p (qM s.ops.length (bp s))))),(8, .b (.c (.p (eR s.ops.length (aN s.ops))))),(10, .b (.c (.own 2 s.ops.length))),(11, .b (I i))]
  [(0, .fix ((aF s).map CV.p)),(1, .fix ((aQ r).map CV.p)),(2, .arr 4 1 s.ops.length (sH s r i))] 3) (fun i=>i≤s.ops.length) (fun i=>s.ops.length - i) 0 ?_ ?_ ?_
 ·exact Nat.zero_le _
 ·refine au [(1,some 1),(2,some 2)] ?_ ?_;and_intros;all_goals try exact aj
  refine .inr fun a ha j hj => ?_;obtain rfl:j=0:=by omega
  exact PV.le_refl _
 intro i hi;rcases Nat.lt_or_ge i s.ops.length with h|h
 ·have g1:decide ((i:Int)<s.ops.length)=true:=decide_eq_true (by omega);have h3:=dQ (bp s i) r;have h4:=bl (fF (bp s i) r);repeat' (first|refine ah g1 ?_|refine ax ?_|refine an (fun K hK => ?_)|refine aa (h3) ?_|refine aa (h4) ?_|(refine aq hK ?_;try clear hK K))
  refine aH (X:=Nat) (fun k=>aT [(2, .b (.c (.ptr 0 0))),(3, .b (.c (.ptr 1 0))),(4, .b (.c (.p (.val (.slice none 0 0))))),(5, .b (I 0)),(6, .b (.c (.p (qM s.ops.length (bp s))))),(8, .b (.c (.p (eR s.ops.length (aN s.ops))))),(10, .b (.c (.own 2 s.ops.length))),(11, .b (I i)),(12, .b (I k))]
   [(0, .fix ((aF s).map CV.p)),(1, .fix ((aQ r).map CV.p)),(2, .arr 4 1 s.ops.length (AY s r i k))] 3) (fun k=>k≤i) (fun k=>i - k) 0 ?_ ?_ ?_
  ·exact Nat.zero_le _
  ·refine au [(1,some 1),(2,some 2)] ?_ ?_;and_intros;all_goals try exact aj
   refine .inr fun a ha j hj => ?_;obtain rfl:j=0:=by omega
   have e:BP s r i 0 = !aP (fF (bp s i) r):=Bool.and_true _;unfold AY sH;rw [e];by_cases q:a=i
   ·simp only [if_pos q];exact PV.le_refl _
   ·simp only [if_neg q];exact PV.le_refl _
  intro k hk;rcases Nat.lt_or_ge k i with h5|h5
  ·have g2:decide ((k:Int)<i)=true:=decide_eq_true (by omega);have h6:=dQ (bp s k) r;have h7:=bl (fF (bp s k) r);have hnx:=HN (s:=s) (r:=r) (i:=i) (j:=k);by_cases q:(aB s.ops k).kind=2∧i<aN s.ops k
   ·have q1:(s.ops.getD k default).kind=2:=q.1;have q2:decide ((aN s.ops k:Int)>i)=true:=decide_eq_true (by omega);rw [decide_eq_true q.1,decide_eq_true q.2] at hnx;have e:fT s r k = !aP (fF (bp s k) r):=rfl;rw [e] at hnx;generalize aP (fF (bp s k) r)=v at *
    repeat' (first|refine ah (And.intro g2 (And.intro q1 q2)) ?_|refine ax ?_|refine an (fun K hK => ?_)|refine aw (fun hg=>h6) ?_|refine aw (fun hg=>h7) ?_|(refine aq hK ?_;try clear hK K))
    rw [ae];refine ak (k+1) ?_ (by omega) (by omega);refine au [(1,some 1),(2,some 2)] ?_ ?_;and_intros;all_goals try exact aj
    refine .inr fun a ha j hj => ?_;obtain rfl:j=0:=by omega
    unfold AY;rw [hnx];by_cases e:a=i
    ·simp only [if_pos e];rw [if_pos ⟨Nat.le_refl _,by decide⟩];exact PV.le_refl _
    ·simp only [if_neg e];exact PV.le_refl _
   ·rw [show (decide ((aB s.ops k).kind=2) && decide (i<aN s.ops k))=false by rw [← Bool.not_eq_true,Bool.and_eq_true,decide_eq_true_eq,decide_eq_true_eq];exact q,Bool.not_false,Bool.true_or,Bool.and_true] at hnx;have hrow:AY s r i (k+1)=AY s r i k:=by unfold AY;rw [hnx]
    by_cases q1:(s.ops.getD k default).kind=2
    ·have q2:decide ((aN s.ops k:Int)>i)=false:=decide_eq_false (fun h=>q ⟨q1,by omega⟩);repeat' (first|refine ah (And.intro g2 (And.intro q1 q2)) ?_|refine aC ?_)
     rw [ae];refine ak (k+1) ?_ (by omega) (by omega);rw [hrow];refine au [(1,some 1),(2,some 2)] ?_ ?_;and_intros;all_goals try exact aj
    ·have q2:((s.ops.getD k default).kind == 2)=false:=beq_eq_false_iff_ne.2 q1;repeat' (first|refine ah (And.intro g2 q2) ?_|refine aC ?_)
     rw [ae];refine ak (k+1) ?_ (by omega) (by omega);rw [hrow];refine au [(1,some 1),(2,some 2)] ?_ ?_;and_intros;all_goals try exact aj
  ·have g2:decide ((k:Int)<i)=false:=decide_eq_false (by omega);obtain rfl:k=i:=by omega
   repeat' (first|refine ah g2 ?_|refine aC ?_)
   rw [ae];refine ak (k+1) ?_ (by omega) (by omega);refine au [(1,some 1),(2,some 2)] ?_ ?_;and_intros;all_goals try exact aj
   refine .inr fun a ha j hj => ?_;rw [Mt W h];exact PV.le_refl _
 ·have g1:decide ((i:Int)<s.ops.length)=false:=decide_eq_false (by omega);obtain rfl:i=s.ops.length:=by omega
  repeat' (first|refine ah g1 ?_|refine aC ?_)
  refine dq ⟨oR (gX fun a ha j hj => ?_),cX trivial,trivial⟩;obtain rfl:j=0:=by omega
  rw [BR ha]
end
theorem vX {s:Script} (hc:(aW s).1=0→Small s.canvas):ImgLen (ga s):=by
 unfold ga;split
 ·rename_i h;exact wH (hc h)
 ·exact zD
section
attribute [local go_sem] Int.toNat_natCast Co Ak
theorem Kd {α:Type} {f:α→Nat} {L M:List α} (h:L.Perm M):(L.map f).sum=(M.map f).sum:=by
 induction h with
 | nil=>rfl
 | cons x _ ih=>simp [ih]
 | swap x y l=>simp;omega
 | trans _ _ h1 h2=>exact h1.trans h2
theorem Kp {l:List Int} {n:Int} (h:eP l n=true):(dC l n).Perm (lr n.toNat):=by
 have hall:=fun k=>GA h (k:=k);have hin:=fun k=>Ed h (k:=k);have h':=h;unfold eP at h';rw [Bool.and_eq_true,decide_eq_true_eq,List.all_eq_true] at h';obtain ⟨⟨h0,h1,h2⟩,h3⟩:=h';have hlen:=jF (l:=l) (n:=n) h0 h2;have nd:(dC l n).Nodup:=by
  rw [List.Nodup,List.pairwise_iff_getElem];intro i j hi hj hij e;have:=h3 j (List.mem_range.2 (by omega));unfold kH at this;rw [List.getD_eq_getElem?_getD,List.getElem?_eq_getElem hj,Bool.and_eq_true,Option.getD_some] at this
  have q2:((dC l n).take j).contains (dC l n)[j]=true:=List.contains_iff_mem.2 (by
   rw [← e]
   exact List.mem_take_iff_getElem.2 ⟨i,by omega,rfl⟩)
  have q3:=this.2;rw [q2] at q3;cases q3
 refine (List.perm_ext_iff_of_nodup nd (kV _)).2 fun a=>⟨fun ha => ?_,fun ha => ?_⟩
 ·have:=hin a ha;unfold lr;exact List.mem_map.2 ⟨a.toNat,List.mem_range.2 (by omega),by omega⟩
 ·unfold lr at ha;obtain ⟨k,hk,rfl⟩:=List.mem_map.1 ha;have:=List.mem_range.1 hk;exact hall _ ⟨by omega,by omega⟩
def rT (s:Script) (i:Nat):Nat:=((List.range i).map fun j=>rY s (se s (j:Nat))).sum
theorem qI {s:Script} {i:Nat}:rT s (i+1)=rT s i+rY s (se s (i:Nat)):=by
 unfold rT;rw [List.range_succ,List.map_append,List.sum_append];simp
theorem IE {s:Script} (h:FrOk s):rT s (eS s).toNat=GT s:=by
 unfold GT la er;rw [List.map_map,Kd (Kp h.o)];unfold rT lr;rw [List.map_map];rfl
theorem DB {s:Script}:∀ i,rT s i≤i * s.ops.length
 | 0=>Nat.zero_le _
 | i+1=>by
  have h1:=DB (s:=s) i;have h2:=FH (s:=s) (r:=se s (i:Nat));rw [qI,Nat.succ_mul];omega
theorem LD {a n:Nat} (h:a≤20) (hn:n≤4096):a * n≤81920:=Nat.le_trans (Nat.mul_le_mul h hn) (by decide)
theorem zA {s:Script} {L:List Rect} {i:Nat} (h:i<L.length):la s (L.take (i+1))=la s (L.take i)+rY s (L.getD i default):=by rw [List.take_add_one,List.getElem?_eq_getElem h,Option.toList_some,Fz,List.getD_eq_getElem?_getD,List.getElem?_eq_getElem h];rfl
theorem Ai (s:Script) (E:EvOk s) (hc:(aW s).1=0→Small s.canvas):aA Sg 29 [ag (aF s)] (fun r=>r = .tup [I (ED s),I (aW s).1]):=by
 have ht:True:=trivial;have h1:=qB s E.len (fun h=>⟨gC h,fun m hm=>(E.im h m hm).1⟩);unfold ED;by_cases h0:(aW s).1=0
 ·obtain ⟨hf,V,hI,hm⟩:=E.zero h0;have hF:FrOk s:=⟨hc h0,hf⟩
  have hn:=V.cnt;have h2:=yG s hF E.len;have h3:∀ r,aA Sg 55 [ag (aF s),ag (aQ r)] (fun x=>x = .tup [.c (.p (Ak s r)),I 0]):=fun r=>yn s r V E.len;have hT:=hF.len.1;have hN:=hF.n;have hW:GT s=la s ((er s).take (er s).length):=by rw [List.take_length];rfl
  have hb:∀ i,i≤(er s).length→la s ((er s).take i)≤81920:=fun i hi=>by
   refine Nat.le_trans Ck (LD ?_ hn);rw [List.length_take];omega
  rw [if_pos h0,h0,hW];rw [h0] at h1;generalize er s=T at *
  refine aD Tryz.func29 [.tmp 2, .tmp 3] ?_;repeat' (first|refine ah ht ?_|refine ax ?_|refine an (fun K hK => ?_)|refine aa (h1) ?_|refine aa (h2) ?_|(refine aq hK ?_;try clear hK K))
  refine aH (X:=Nat) (fun i=>aT [(1, .b (.c (.ptr 0 0))),(2, .b (I 0)),(3, .b (I 0)),(6, .b (I (la s (T.take i)))),(22, .b (.c (.p (Co T)))),(23, .b (I T.length)),(24, .b (I i))] [(0, .fix ((aF s).map CV.p))] 1) (fun i=>i≤T.length) (fun i=>T.length - i) 0 ?_ ?_ ?_
  ·exact Nat.zero_le _
  ·refine au [] ?_ ?_;and_intros;all_goals try exact aj
  intro i hi;have hbi:=hb i hi;rcases Nat.lt_or_ge i T.length with h|h
  ·have g1:decide ((i:Int)<T.length)=true:=decide_eq_true (by omega);have h4:=h3 (T.getD i default);have hb2:=hb (i+1) (by omega);rw [zA h] at hb2;repeat' (first|refine ah g1 ?_|refine ax ?_|refine an (fun K hK => ?_)|refine aa (h4) ?_|(refine aq hK ?_;try clear hK K))
   refine aH (X:=Nat) (fun k=>aT [(1, .b (.c (.ptr 0 0))),(2, .b (I 0)),(3, .b (I 0)),(6, .b (I (la s (T.take i)+pQ s (T.getD i default) k:Nat))),(22, .b (.c (.p (Co T)))),(23, .b (I T.length)),(24, .b (I i)),(34, .b (.c (.p (Ak s (T.getD i default))))),(35, .b (I s.ops.length)),(36, .b (I k))] [(0, .fix ((aF s).map CV.p))] 1) (fun k=>k≤s.ops.length) (fun k=>s.ops.length - k) 0 ?_ ?_ ?_
   ·exact Nat.zero_le _
   ·refine au [] ?_ ?_;and_intros;all_goals try exact aj
   intro k hk;rcases Nat.lt_or_ge k s.ops.length with h5|h5
   ·have g2:decide ((k:Int)<s.ops.length)=true:=decide_eq_true (by omega);have hle:pQ s (T.getD i default) k≤k:=by
     unfold pQ;refine Nat.le_trans (List.length_filter_le _ _) ?_;rw [List.length_range];exact Nat.le_refl _
    have hnx:=vp (s:=s) (r:=T.getD i default) (i:=k);cases ha:gn s (T.getD i default) k with
    | false =>
     rw [ha,Bool.false_and,if_neg (by decide),Nat.add_zero] at hnx;repeat' (first|refine ah (And.intro g2 ha) ?_|refine aC ?_)
     rw [ae];refine ak (k+1) ?_ (by omega) (by omega);refine au [] ?_ ?_;and_intros;all_goals try exact aj
     exact .inl (by rw [hnx];rfl)
    | true =>
     by_cases hk3:(aB s.ops k).kind=3
     ·have q:(s.ops.getD k default).kind=3:=hk3;rw [ha,Bool.true_and,decide_eq_false (by omega),if_neg (by decide),Nat.add_zero] at hnx;repeat' (first|refine ah (And.intro g2 (And.intro ha q)) ?_|refine aC ?_)
      rw [ae];refine ak (k+1) ?_ (by omega) (by omega);refine au [] ?_ ?_;and_intros;all_goals try exact aj
      exact .inl (by rw [hnx];rfl)
     ·have q:((s.ops.getD k default).kind != 3)=true:=bne_iff_ne.2 hk3;rw [ha,Bool.true_and,decide_eq_true hk3,if_pos rfl] at hnx;repeat' (first|refine ah (And.intro g2 (And.intro ha q)) ?_|refine aC ?_)
      rw [ae];refine ak (k+1) ?_ (by omega) (by omega);refine au [] ?_ ?_;and_intros;all_goals try exact aj
      exact .inl (by rw [hnx,← Nat.add_assoc];rfl)
   ·have g2:decide ((k:Int)<s.ops.length)=false:=decide_eq_false (by omega);obtain rfl:k=s.ops.length:=by omega
    repeat' (first|refine ah g2 ?_|refine aC ?_)
    rw [ae];refine ak (i+1) ?_ (by omega) (by omega);rw [zA h,zI];refine au [] ?_ ?_;and_intros;all_goals try exact aj
  ·have g1:decide ((i:Int)<T.length)=false:=decide_eq_false (by omega);obtain rfl:i=T.length:=by omega
   repeat' (first|with_reducible exact bq|refine ah g1 ?_|refine aC ?_)
 ·have g0:((aW s).1 != 0)=true:=bne_iff_ne.2 h0;rw [if_neg h0];refine aD Tryz.func29 [.tmp 2, .tmp 3] ?_;repeat' (first|with_reducible exact bq|refine ah g0 ?_|refine ax ?_|refine an (fun K hK => ?_)|refine aa (h1) ?_|(refine aq hK ?_;try clear hK K))
theorem xC (s:Script) (E:EvOk s) (hc:(aW s).1=0→Small s.canvas):aA Sg 30 [ag (aF s)] (fun r=>r = .tup [I (ED s),I (aW s).1]):=by
 have ht:True:=trivial;have h1:=nE s E.len (fun h=>⟨gC h,fun m hm=>(E.im h m hm).1⟩);unfold ED;by_cases h0:(aW s).1=0
 ·obtain ⟨hf,V,hI,hm⟩:=E.zero h0;have hF:FrOk s:=⟨hc h0,hf⟩
  have hn:=V.cnt;have h2:=kS s.canvas s.tileW s.tileH;have h3:∀ r,aA Sg 57 [ag (aF s),ag (aQ r)] (fun x=>x = .tup [.c (.p (Ak s r)),I 0]):=fun r=>Eh s r V E.len;have hN:=hF.n;obtain ⟨N,eN⟩:∃ N:Nat,(N:Int)=eS s:=⟨(eS s).toNat,by omega⟩
  have hW:=IE hF;rw [← eN,Int.toNat_natCast] at hW;have h4:∀ i:Nat,i<N→aA Sg 56 [ag (aQ s.canvas),I s.tileW,I s.tileH,I i] (fun x=>x = .tup [ag (aQ (se s (i:Nat))),B true]):=fun i hi =>
   Ko s.canvas s.tileW s.tileH i hF.c hF.t ⟨by omega,by show _<eS s;omega⟩
  have hb:∀ i,i≤N→rT s i≤81920:=fun i hi=>Nat.le_trans (DB i) (LD (by omega) hn);have hww:IntKind.i64.wrap (bj s.canvas s.tileW s.tileH * bY s.canvas s.tileW s.tileH)=N:=by rw [(iz _ _ _).1,eN];rfl
  rw [if_pos h0,h0,← hW];rw [h0] at h1;generalize bj s.canvas s.tileW s.tileH=nx at *
  generalize bY s.canvas s.tileW s.tileH=ny at *
  refine aD Tryz.func30 [.tmp 2, .tmp 3] ?_;repeat' (first|refine ah ht ?_|refine ax ?_|refine an (fun K hK => ?_)|refine aa (h1) ?_|refine aa (h2) ?_|(refine aq hK ?_;try clear hK K))
  refine aH (X:=Nat) (fun i=>aT [(1, .b (.c (.ptr 0 0))),(2, .b (I 0)),(3, .b (I 0)),(6, .b (I nx)),(7, .b (I ny)),(9, .b (I (rT s i))),(10, .b (I i))] [(0, .fix ((aF s).map CV.p))] 1) (fun i=>i≤N) (fun i=>N - i) 0 ?_ ?_ ?_
  ·exact Nat.zero_le _
  ·refine au [] ?_ ?_;and_intros;all_goals try exact aj
  intro i hi;have hbi:=hb i hi;rcases Nat.lt_or_ge i N with h|h
  ·have g1:decide ((i:Int)<IntKind.i64.wrap (nx * ny))=true:=decide_eq_true (by omega);have h5:=h4 i h;have h6:=h3 (se s (i:Nat));have hb2:=hb (i+1) (by omega);rw [qI] at hb2;generalize hR:se s (i:Nat)=R at *
   repeat' (first|refine ah g1 ?_|refine ax ?_|refine an (fun K hK => ?_)|refine aa (h5) ?_|refine aa (h6) ?_|(refine aq hK ?_;try clear hK K))
   refine aH (X:=Nat) (fun k=>aT [(1, .b (.c (.ptr 0 0))),(2, .b (I 0)),(3, .b (I 0)),(6, .b (I nx)),(7, .b (I ny)),(9, .b (I (rT s i+pQ s R k:Nat))),(10, .b (I i)),(13, .b (.c (.p (Ak s R)))),(15, .b (I k))] [(0, .fix ((aF s).map CV.p))] 1) (fun k=>k≤s.ops.length) (fun k=>s.ops.length - k) 0 ?_ ?_ ?_
   ·exact Nat.zero_le _
   ·refine au [] ?_ ?_;and_intros;all_goals try exact aj
   intro k hk;rcases Nat.lt_or_ge k s.ops.length with h5|h5
   ·have g2:decide ((k:Int)<s.ops.length)=true:=decide_eq_true (by omega);have hle:pQ s R k≤k:=by
     unfold pQ;refine Nat.le_trans (List.length_filter_le _ _) ?_;rw [List.length_range];exact Nat.le_refl _
    have hnx:=vp (s:=s) (r:=R) (i:=k);cases ha:gn s R k with
    | false =>
     rw [ha,Bool.false_and,if_neg (by decide),Nat.add_zero] at hnx;repeat' (first|refine ah (And.intro g2 ha) ?_|refine aC ?_)
     rw [ae];refine ak (k+1) ?_ (by omega) (by omega);refine au [] ?_ ?_;and_intros;all_goals try exact aj
     exact .inl (by rw [hnx];rfl)
    | true =>
     by_cases hk3:(aB s.ops k).kind=3
     ·have q:(s.ops.getD k default).kind=3:=hk3;rw [ha,Bool.true_and,decide_eq_false (by omega),if_neg (by decide),Nat.add_zero] at hnx;repeat' (first|refine ah (And.intro g2 (And.intro ha q)) ?_|refine aC ?_)
      rw [ae];refine ak (k+1) ?_ (by omega) (by omega);refine au [] ?_ ?_;and_intros;all_goals try exact aj
      exact .inl (by rw [hnx];rfl)
     ·have q:((s.ops.getD k default).kind != 3)=true:=bne_iff_ne.2 hk3;rw [ha,Bool.true_and,decide_eq_true hk3,if_pos rfl] at hnx;repeat' (first|refine ah (And.intro g2 (And.intro ha q)) ?_|refine aC ?_)
      rw [ae];refine ak (k+1) ?_ (by omega) (by omega);refine au [] ?_ ?_;and_intros;all_goals try exact aj
      exact .inl (by rw [hnx,← Nat.add_assoc];rfl)
   ·have g2:decide ((k:Int)<s.ops.length)=false:=decide_eq_false (by omega);obtain rfl:k=s.ops.length:=by omega
    repeat' (first|refine ah g2 ?_|refine aC ?_)
    rw [ae];refine ak (i+1) ?_ (by omega) (by omega);rw [qI,hR,zI];refine au [] ?_ ?_;and_intros;all_goals try exact aj
  ·have g1:decide ((i:Int)<IntKind.i64.wrap (nx * ny))=false:=decide_eq_false (by omega);obtain rfl:i=N:=by omega
   repeat' (first|with_reducible exact bq|refine ah g1 ?_|refine aC ?_)
 ·have g0:((aW s).1 != 0)=true:=bne_iff_ne.2 h0;rw [if_neg h0];refine aD Tryz.func30 [.tmp 2, .tmp 3] ?_;repeat' (first|with_reducible exact bq|refine ah g0 ?_|refine ax ?_|refine an (fun K hK => ?_)|refine aa (h1) ?_|(refine aq hK ?_;try clear hK K))
end
section
attribute [local go_sem] Int.toNat_natCast
theorem qk (s:Script) (E:EvOk s) (hc:(aW s).1=0→Small s.canvas):aA Sg 11 [ag (aF s)] (fun r=>r = .tup [ag (aI (ga s)),I (aW s).1,I (aW s).2]):=by
 have h1:=nE s E.len (fun h=>⟨gC h,fun m hm=>(E.im h m hm).1⟩);by_cases h0:(aW s).1=0
 ·obtain ⟨hf,V,hI,hm⟩:=E.zero h0;have hr:ga s=cN s:=by unfold ga;rw [if_pos h0]
  rw [hr,mM V hI];exact zG s E.len (hc h0) V hm hI fun x y hx=>⟨_,E.ptz h0 hx⟩
 ·have g0:((aW s).1 != 0)=true:=bne_iff_ne.2 h0;have hr:ga s=fB:=by unfold ga;rw [if_neg h0]
  rw [hr];refine dY ?_;refine aD Tryz.func11 [.cell 2 43, .tmp 3, .tmp 4] ?_;repeat' (first|refine ah g0 ?_|refine ax ?_|refine an (fun K hK => ?_)|refine aa (h1) ?_|(refine aq hK ?_;try clear hK K))
  refine dq ⟨gj ?_,cX trivial,cX trivial,trivial⟩;simp only [List.map_cons,List.map_nil,dF,fx];and_intros;all_goals first|exact .inl rfl|exact .inl trivial|exact .inr ed|trivial|skip
end
section
attribute [local go_sem] Int.toNat_natCast jX KX Ds KP List.append_eq List.cons_append List.nil_append
theorem BN {s:Script} (E:EvOk s) (hf:bL s=0) (hn:s.ops.length≤4096) {o:Op} (ho:0≤o.opacity):EvOk { s with ops:=s.ops ++ [o] } :=
 ⟨⟨E.len.order,E.len.images,by show (s.ops ++ [o]).length≤_;rw [List.length_append];simp;omega⟩,fun q hq=>by
  rcases List.mem_append.1 hq with h|h
  ·exact E.op q h
  ·rw [List.mem_singleton.1 h];exact ho,fun _ m hm=>E.im hf m hm⟩
theorem LK {s:Script} (E:EvOk s) (hf:bL s=0):EvOk { s with tileH:=0 }:=⟨⟨E.len.order,E.len.images,E.len.ops⟩,E.op,fun _ m hm=>E.im hf m hm⟩
theorem OB {s:Script} (E:EvOk s) (hf:bL s=0):EvOk { s with order:=[-1] }:=⟨⟨by show ([-1]:List Int).length≤_;decide,E.len.images,E.len.ops⟩,E.op,fun _ m hm=>E.im hf m hm⟩
def Lq:Image := { w:=1,h:=1,solid:=true,color:=⟨1,0,0,0,0⟩,p0:=⟨0,0,0,[]⟩,p1:=⟨0,0,0,[]⟩,p2:=⟨0,0,0,[]⟩,p3:=⟨0,0,0,[]⟩,p4:=⟨0,0,0,[]⟩ }
theorem Qy {s:Script} (E:EvOk s) (hf:bL s=0) (hn:s.images.length≤6):EvOk { s with images:=s.images ++ [Lq] } :=
 ⟨⟨E.len.order,by show (s.images ++ [Lq]).length≤_;rw [List.length_append];simp;omega,E.len.ops⟩,E.op,fun _ m hm=>by
  rcases List.mem_append.1 hm with h|h
  ·exact E.im hf m h
  ·rw [List.mem_singleton.1 h]
   exact ⟨.inr (.inr rfl),by decide,by decide,by decide⟩⟩
theorem Hg {α : Type} [Inhabited α] {enc : α → List PV} {xs : List α} {x : α} {s : Nat} {g : Nat → Nat → PV} (hg : ∀ j, j < s → PV.le (g 0 j) ((enc x).getD j .any)) :
  ∀ i,i<xs.length+1→∀ j,j<s→PV.le (gY xs.length (bK enc xs) g i j) (bK enc (xs ++ [x]) i j):=fun i hi j hj=>by
 unfold gY bK;split
 ·rename_i h;have e:(xs ++ [x]).getD i default=xs.getD i default:=by rw [List.getD_eq_getElem?_getD,List.getD_eq_getElem?_getD,List.getElem?_append_left h]
  rw [e];exact PV.le_refl _
 ·rename_i h;obtain rfl:i=xs.length:=by omega
  rw [Nat.sub_self];have e:(xs ++ [x]).getD xs.length default=x:=by simp
  rw [e];exact hg j hj
def SD:Op := { kind:=3,image:=0,x:=0,y:=0,mask:=0,maskX:=0,maskY:=0,opacity:=0,operator:=0,mode:=0,isolated:=false,knockout:=false }
theorem xW (c:Scene) (hc:SceneOk c) (what:Int) (o:Op) (ho:0≤o.opacity) (r:Rect):aA Sg 8 [ag (fi c),I what,ag (fZ o),ag (aQ r)] (fun x=>x = .b (B true)):=by
 have ht:True:=trivial;have hO:=UZ c;have E:=hO.ev;have hsm:=hO.small;have hfr:=hO.V.frame;have hcnt:=hO.V.cnt;have hn2:=hO.n2;have hm:=ry what 5 (by omega);have hw:lx what 5=0∨lx what 5=1∨lx what 5=2∨lx what 5=3∨lx what 5=4:=by
  unfold lx;rw [if_neg (by decide)];omega
 have haw:=pW;have hg:=qP c hc;have hgo:=tR c hc;have hgi:=qS c hc;generalize ay c=s at *
 have hA:(lx what 5=0∨lx what 5=4)∨lx what 5=1∨(lx what 5=2∨lx what 5=3):=by omega
 generalize lx what 5=wh at *
 clear hw;rcases hA with hA|hA|hA
 ·refine aD Tryz.func8 [.tmp 8] ?_;repeat' (first|((with_reducible refine bN (id:=1) (fun K hW => ?_));(try simp (maxSteps:=999999)(disch:=omega) only [go_sem]);and_intros;all_goals first|(refine hK _ ?_;clear hK K)|try exact ai)|refine an (fun K hK => ?_)|refine aa (hg) ?_|(refine aq hK ?_;try clear hK K))
  refine hW _ (aT [(1, .b (I what)),(7, .b (.c (.ptr 2 0))),(8, .b (B false)),(9, .b (.c (.ptr 3 0)))] [(2, .fix ((aQ r).map CV.p)),(3, .fix ((aF s).map CV.p))] 4) ?_ ?_
  ·refine au [(2,some 2),(3,some 3)] ?_ ?_;and_intros;all_goals try exact aj
  clear hW;refine fV ?_;refine an fun K hK => ?_;refine aa hm ?_;refine hK _ ?_;clear hK K;refine eO fun KB hV => ?_;have tl:∀ S':Script,EvOk S'→Small S'.canvas→∀ st,Le st (aT [(7, .b (.c (.ptr 2 0))),(8, .b (B false)),(9, .b (.c (.ptr 3 0)))] [(2, .fix ((aQ r).map CV.p)),(3, .fix ((aF S').map CV.p))] 5)→KB st:=fun S' E' hs' st hl=>hV st _ hl ?_
  ·rcases hA with hA|hA
   ·subst hA;have e0:((0:Int) == 0)=true:=rfl;repeat' (first|refine ah e0 ?_|refine aC ?_)
    rw [eF,ae];refine tl { s with tileH:=0 } (LK E hfr) hsm _ ?_;refine au [(2,some 2),(3,some 3)] ?_ ?_;and_intros;all_goals try exact aj
   ·subst hA;have e0:((4:Int) == 0)=false:=rfl;have e1:((4:Int) == 1)=false:=rfl;have e2:((4:Int) == 2)=false:=rfl;have e3:((4:Int) == 3)=false:=rfl;repeat' (first|refine ah (And.intro e0 (And.intro e1 (And.intro e2 e3))) ?_|refine aC ?_)
    rw [eF,ae];refine tl { s with order:=[-1] } (OB E hfr) hsm _ ?_;refine au [(2,some 2),(3,some 3)] ?_ ?_;and_intros;all_goals try exact aj
    intro i hi j hj;obtain rfl:i=0:=by omega
    obtain rfl:j=0:=by omega
    exact PV.le_refl _
  ·clear hV;have hc':(aW S').1=0→Small S'.canvas:=fun _=>hs';have q1:=ju S' E' hc';have q2:=qk S' E' hc';have q3:=kR S' r E' hc';have q4:=nh S' r E' hc';have q5:=Ai S' E' hc';have q6:=xC S' E' hc';have q7:=fv (ga S') (vX hc');have q8:=fv (iR S' r) (vd hc');generalize ga S'=M at *
   generalize iR S' r=M2 at *
   generalize dV S' r=e2 at *
   generalize ED S'=w at *
   generalize (aW S').1=e at *
   generalize (aW S').2=a at *
   repeat' (first|((with_reducible refine bN (id:=17) (fun K hW => ?_));(try simp (maxSteps:=999999)(disch:=omega) only [go_sem]);and_intros;all_goals first|(refine hK _ ?_;clear hK K)|try exact ai)|refine an (fun K hK => ?_)|refine aa (q1) ?_|refine aa (q2) ?_|refine aa (q3) ?_|refine aa (q4) ?_|refine aa (q5) ?_|refine aa (q6) ?_|(refine aq hK ?_;try clear hK K))
   refine hW _ (aT [(8, .b (B false)),(10, .b (.c (.ptr 5 0))),(11, .b (I e)),(12, .b (I a)),(13, .b (.c (.ptr 6 0))),(14, .b (I e)),(15, .b (I a)),(16, .b (.c (.ptr 7 0))),(17, .b (I e2)),(18, .b (.c (.ptr 8 0))),(19, .b (I e2)),(20, .b (I w)),(21, .b (I e)),(22, .b (I w)),(23, .b (I e))]
    [(5, .fix ((aI M).map CV.p)),(6, .fix ((aI M).map CV.p)),(7, .fix ((aI M2).map CV.p)),(8, .fix ((aI M2).map CV.p))] 9) ?_ ?_
   ·clear hW;refine au [(5,some 5),(6,some 6),(7,some 7),(8,some 8)] ?_ ?_;and_intros;all_goals try exact aj
   clear hW;repeat' (first|refine an (fun K hK => ?_)|refine aa (haw) ?_|refine aw (fun hg=>q7) ?_|refine aw (fun hg=>q8) ?_|refine ax ?_|(refine aq hK ?_;try clear hK K))
   refine congrArg (fun b=>SV.b (B b)) (?_:_=true);simp only [beq_self_eq_true,Bool.and_self,Bool.true_and,Bool.and_true]
 ·subst hA;refine aD Tryz.func8 [.tmp 8] ?_;repeat' (first|((with_reducible refine bN (id:=1) (fun K hW => ?_));(try simp (maxSteps:=999999)(disch:=omega) only [go_sem]);and_intros;all_goals first|(refine hK _ ?_;clear hK K)|try exact ai)|refine an (fun K hK => ?_)|refine Fs (hgi) ?_|(refine aq hK ?_;try clear hK K))
  refine hW _ (aT [(1, .b (I what)),(7, .b (.c (.ptr 2 0))),(8, .b (B false)),(9, .b (.c (.ptr 4 0)))] [(2, .fix ((aQ r).map CV.p)),(3, .arr 43 28 s.images.length (bK aI s.images)),(4, .fix [.p (PI s.bits), .p (PI s.canvas.x0), .p (PI s.canvas.y0), .p (PI s.canvas.x1), .p (PI s.canvas.y1), .p (PI s.tileW), .p (PI s.tileH), .p (eI s.order), .own 3 s.images.length, .p (yU s.ops)])] 5) ?_ ?_
  ·refine au [(2,some 2),(3,some 3),(4,some 4)] ?_ ?_;and_intros;all_goals try exact aj
  clear hW;refine fV ?_;refine an fun K hK => ?_;refine aa hm ?_;refine hK _ ?_;clear hK K;refine eO fun KB hV => ?_;have tl:∀ S':Script,EvOk S'→Small S'.canvas→∀ st,Le st (aT [(7, .b (.c (.ptr 2 0))),(8, .b (B false)),(9, .b (.c (.ptr 4 0)))] [(2, .fix ((aQ r).map CV.p)),(4, .fix ((aF S').map CV.p))] 5)→KB st:=fun S' E' hs' st hl=>hV st _ hl ?_
  ·have e0:((1:Int) == 0)=false:=rfl;have e1:((1:Int) == 1)=true:=rfl;repeat' (first|refine ah (And.intro e0 e1) ?_|refine aC ?_)
   rw [eF,ae];refine tl { s with images:=s.images ++ [Lq] } (Qy E hfr hn2) hsm _ ?_;refine au [(2,some 2),(4,some 4)] ?_ ?_;and_intros;all_goals try exact aj
   ·show _=(s.images ++ [Lq]).length;rw [List.length_append];rfl
   ·refine Hg (enc:=aI) (xs:=s.images) (x:=Lq) (fun j hj => ?_);have hivl:j=0∨j=1∨j=2∨j=3∨j=4∨j=5∨j=6∨j=7∨j=8∨j=9∨j=10∨j=11∨j=12∨j=13∨j=14∨j=15∨j=16∨j=17∨j=18∨j=19∨j=20∨j=21∨j=22∨j=23∨j=24∨j=25∨j=26∨j=27:=by omega
    rcases hivl with rfl|rfl|rfl|rfl|rfl|rfl|rfl|rfl|rfl|rfl|rfl|rfl|rfl|rfl|rfl|rfl|rfl|rfl|rfl|rfl|rfl|rfl|rfl|rfl|rfl|rfl|rfl|rfl <;> first|exact PV.le_refl _|exact ed
  ·clear hV;have hc':(aW S').1=0→Small S'.canvas:=fun _=>hs';have q1:=ju S' E' hc';have q2:=qk S' E' hc';have q3:=kR S' r E' hc';have q4:=nh S' r E' hc';have q5:=Ai S' E' hc';have q6:=xC S' E' hc';have q7:=fv (ga S') (vX hc');have q8:=fv (iR S' r) (vd hc');generalize ga S'=M at *
   generalize iR S' r=M2 at *
   generalize dV S' r=e2 at *
   generalize ED S'=w at *
   generalize (aW S').1=e at *
   generalize (aW S').2=a at *
   repeat' (first|((with_reducible refine bN (id:=17) (fun K hW => ?_));(try simp (maxSteps:=999999)(disch:=omega) only [go_sem]);and_intros;all_goals first|(refine hK _ ?_;clear hK K)|try exact ai)|refine an (fun K hK => ?_)|refine aa (q1) ?_|refine aa (q2) ?_|refine aa (q3) ?_|refine aa (q4) ?_|refine aa (q5) ?_|refine aa (q6) ?_|(refine aq hK ?_;try clear hK K))
   refine hW _ (aT [(8, .b (B false)),(10, .b (.c (.ptr 5 0))),(11, .b (I e)),(12, .b (I a)),(13, .b (.c (.ptr 6 0))),(14, .b (I e)),(15, .b (I a)),(16, .b (.c (.ptr 7 0))),(17, .b (I e2)),(18, .b (.c (.ptr 8 0))),(19, .b (I e2)),(20, .b (I w)),(21, .b (I e)),(22, .b (I w)),(23, .b (I e))]
    [(5, .fix ((aI M).map CV.p)),(6, .fix ((aI M).map CV.p)),(7, .fix ((aI M2).map CV.p)),(8, .fix ((aI M2).map CV.p))] 9) ?_ ?_
   ·clear hW;refine au [(5,some 5),(6,some 6),(7,some 7),(8,some 8)] ?_ ?_;and_intros;all_goals try exact aj
   clear hW;repeat' (first|refine an (fun K hK => ?_)|refine aa (haw) ?_|refine aw (fun hg=>q7) ?_|refine aw (fun hg=>q8) ?_|refine ax ?_|(refine aq hK ?_;try clear hK K))
   refine congrArg (fun b=>SV.b (B b)) (?_:_=true);simp only [beq_self_eq_true,Bool.and_self,Bool.true_and,Bool.and_true]
 ·refine aD Tryz.func8 [.tmp 8] ?_;repeat' (first|((with_reducible refine bN (id:=1) (fun K hW => ?_));(try simp (maxSteps:=999999)(disch:=omega) only [go_sem]);and_intros;all_goals first|(refine hK _ ?_;clear hK K)|try exact ai)|refine an (fun K hK => ?_)|refine Fs (hgo) ?_|(refine aq hK ?_;try clear hK K))
  refine hW _ (aT [(1, .b (I what)),(6, .b (.c (.ptr 1 0))),(7, .b (.c (.ptr 2 0))),(8, .b (B false)),(9, .b (.c (.ptr 4 0)))] [(1, .fix ((fZ o).map CV.p)),(2, .fix ((aQ r).map CV.p)),(3, .arr 74 12 s.ops.length (bK fZ s.ops)),(4, .fix [.p (PI s.bits), .p (PI s.canvas.x0), .p (PI s.canvas.y0), .p (PI s.canvas.x1), .p (PI s.canvas.y1), .p (PI s.tileW), .p (PI s.tileH), .p (eI s.order), .p (tx s.images), .own 3 s.ops.length])] 5) ?_ ?_
  ·refine au [(1,some 1),(2,some 2),(3,some 3),(4,some 4)] ?_ ?_;and_intros;all_goals try exact aj
  clear hW;refine fV ?_;refine an fun K hK => ?_;refine aa hm ?_;refine hK _ ?_;clear hK K;refine eO fun KB hV => ?_;have tl:∀ S':Script,EvOk S'→Small S'.canvas→∀ st,Le st (aT [(7, .b (.c (.ptr 2 0))),(8, .b (B false)),(9, .b (.c (.ptr 4 0)))] [(2, .fix ((aQ r).map CV.p)),(4, .fix ((aF S').map CV.p))] 5)→KB st:=fun S' E' hs' st hl=>hV st _ hl ?_
  ·rcases hA with hA|hA
   ·subst hA;have e0:((2:Int) == 0)=false:=rfl;have e1:((2:Int) == 1)=false:=rfl;have e2:((2:Int) == 2)=true:=rfl;repeat' (first|refine ah (And.intro e0 (And.intro e1 e2)) ?_|refine aC ?_)
    rw [eF,ae];refine tl { s with ops:=s.ops ++ [o] } (BN E hfr hcnt ho) hsm _ ?_;refine au [(2,some 2),(4,some 4)] ?_ ?_;and_intros;all_goals try exact aj
    ·show _=(s.ops ++ [o]).length;rw [List.length_append];rfl
    ·refine cL (enc:=fZ) (xs:=s.ops) (x:=o) (fun j hj => ?_);have hivl:j=0∨j=1∨j=2∨j=3∨j=4∨j=5∨j=6∨j=7∨j=8∨j=9∨j=10∨j=11:=by omega
     rcases hivl with rfl|rfl|rfl|rfl|rfl|rfl|rfl|rfl|rfl|rfl|rfl|rfl <;> rfl
   ·subst hA;have e0:((3:Int) == 0)=false:=rfl;have e1:((3:Int) == 1)=false:=rfl;have e2:((3:Int) == 2)=false:=rfl;have e3:((3:Int) == 3)=true:=rfl;repeat' (first|refine ah (And.intro e0 (And.intro e1 (And.intro e2 e3))) ?_|refine aC ?_)
    rw [eF,ae];refine tl { s with ops:=s.ops ++ [SD] } (BN E hfr hcnt (by decide)) hsm _ ?_;refine au [(2,some 2),(4,some 4)] ?_ ?_;and_intros;all_goals try exact aj
    ·show _=(s.ops ++ [SD]).length;rw [List.length_append];rfl
    ·refine cL (enc:=fZ) (xs:=s.ops) (x:=SD) (fun j hj => ?_);have hivl:j=0∨j=1∨j=2∨j=3∨j=4∨j=5∨j=6∨j=7∨j=8∨j=9∨j=10∨j=11:=by omega
     rcases hivl with rfl|rfl|rfl|rfl|rfl|rfl|rfl|rfl|rfl|rfl|rfl|rfl <;> rfl
  ·clear hV;have hc':(aW S').1=0→Small S'.canvas:=fun _=>hs';have q1:=ju S' E' hc';have q2:=qk S' E' hc';have q3:=kR S' r E' hc';have q4:=nh S' r E' hc';have q5:=Ai S' E' hc';have q6:=xC S' E' hc';have q7:=fv (ga S') (vX hc');have q8:=fv (iR S' r) (vd hc');generalize ga S'=M at *
   generalize iR S' r=M2 at *
   generalize dV S' r=e2 at *
   generalize ED S'=w at *
   generalize (aW S').1=e at *
   generalize (aW S').2=a at *
   repeat' (first|((with_reducible refine bN (id:=17) (fun K hW => ?_));(try simp (maxSteps:=999999)(disch:=omega) only [go_sem]);and_intros;all_goals first|(refine hK _ ?_;clear hK K)|try exact ai)|refine an (fun K hK => ?_)|refine aa (q1) ?_|refine aa (q2) ?_|refine aa (q3) ?_|refine aa (q4) ?_|refine aa (q5) ?_|refine aa (q6) ?_|(refine aq hK ?_;try clear hK K))
   refine hW _ (aT [(8, .b (B false)),(10, .b (.c (.ptr 5 0))),(11, .b (I e)),(12, .b (I a)),(13, .b (.c (.ptr 6 0))),(14, .b (I e)),(15, .b (I a)),(16, .b (.c (.ptr 7 0))),(17, .b (I e2)),(18, .b (.c (.ptr 8 0))),(19, .b (I e2)),(20, .b (I w)),(21, .b (I e)),(22, .b (I w)),(23, .b (I e))]
    [(5, .fix ((aI M).map CV.p)),(6, .fix ((aI M).map CV.p)),(7, .fix ((aI M2).map CV.p)),(8, .fix ((aI M2).map CV.p))] 9) ?_ ?_
   ·clear hW;refine au [(5,some 5),(6,some 6),(7,some 7),(8,some 8)] ?_ ?_;and_intros;all_goals try exact aj
   clear hW;repeat' (first|refine an (fun K hK => ?_)|refine aa (haw) ?_|refine aw (fun hg=>q7) ?_|refine aw (fun hg=>q8) ?_|refine ax ?_|(refine aq hK ?_;try clear hK K))
   refine congrArg (fun b=>SV.b (B b)) (?_:_=true);simp only [beq_self_eq_true,Bool.and_self,Bool.true_and,Bool.and_true]
end
end Go.Proofs.YtcbifofjjpfbcaaGreatDoor
