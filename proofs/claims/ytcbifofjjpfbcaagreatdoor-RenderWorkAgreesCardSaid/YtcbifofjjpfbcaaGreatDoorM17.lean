/- Part of the proof: EM, D6, WD, WE. -/
import Derived.Test.YtcbifofjjpfbcaaGreatDoorM16
set_option linter.unusedSimpArgs false
set_option linter.unusedVariables false
set_option maxRecDepth 8000
set_option maxHeartbeats 2000000
namespace Go.Proofs.YtcbifofjjpfbcaaGreatDoor
open Go Go.SL
def xn (ops:List Op) (i:Nat):Int:=match bI ops i with|[] => -1|p :: _=>p
def JO (ops:List Op) (i:Nat):Int:=if (aB ops i).kind=3 then xn ops (i+1) else xn ops i
theorem kg {ops:List Op}:∀ {i:Nat} {l t:List Nat} {p:Nat},bI ops i=l ++ p :: t→bI ops p=t
 | 0,l,t,p,h=>by cases l <;> simp [bI] at h
 | i+1,l,t,p,h=>by
  rw [bI] at h
  split at h
  ·cases l with
   | nil=>simp only [List.nil_append,List.cons.injEq] at h;rw [← h.1,h.2]
   | cons a l=>simp only [List.cons_append,List.cons.injEq] at h;exact kg h.2
  split at h
  ·cases hs:bI ops i with
   | nil=>rw [hs] at h;cases l <;> simp at h
   | cons q r=>rw [hs] at h;exact kg (l:=q :: l) (by rw [hs];exact congrArg (q :: ·) h)
  ·exact kg h
theorem FS {ops:List Op} {i:Nat} (h:bI ops i=[]):xn ops i = -1:=by rw [xn,h]
theorem CO {ops:List Op} {i p:Nat} {t:List Nat} (h:bI ops i=p :: t):xn ops i=p:=by rw [xn,h]
theorem tL {ops:List Op} (W:Wf ops) {i:Nat} (hi:i<ops.length) (hk:(aB ops i).kind≠3):bI ops (aR ops i+1)=bI ops i:=by
 rcases W.kinds i hi with h|h|h
 ·rw [gn W hi h,cr h]
 ·have hm:i ∈ bI ops (i+1):=by rw [ct h];exact List.mem_cons_self ..
  obtain ⟨j,t,h1,h2,h3,h4⟩:=mK W (p:=i) (ops.length - (i+1)) (i+1) (by omega) hm
  rw [fP W h2 h3 h4,dQ h3,h4]
  exact (kg (l:=[]) h4).symm
 ·exact absurd h hk
theorem sT {ops:List Op} (W:Wf ops) {i:Nat} (hi:i<ops.length):i≤aR ops i:=by
 rcases W.kinds i hi with h|h|h
 ·rw [gn W hi h];exact Nat.le_refl _
 ·have:=gY W hi h;omega
 ·rw [xb W hi h];exact Nat.le_refl _
def UP (s:Script) (i:Nat):Bool:=decide (JO s.ops i<0) || (aB s.ops (JO s.ops i).toNat).isolated
def XK (s:Script) (i:Nat):Bool := !decide (JO s.ops i<0) && (aB s.ops (JO s.ops i).toNat).knockout
def gQ (s:Script) (k:Int):Image:=s.images.getD k.toNat default
end Go.Proofs.YtcbifofjjpfbcaaGreatDoor
set_option maxHeartbeats 2000000
set_option maxRecDepth 16000
namespace Go.Proofs.YtcbifofjjpfbcaaGreatDoor
open Go Go.SL
open Go.RowKit (wrap64)
def oJ (n:Nat) (f:Nat→Rect):PV := .lst 4 n (fun a j=>(bc (f a)).getD j .any)
def rF (l junk:List Rect) (a:Nat):Rect:=(l.reverse ++ junk).getD a cX
theorem rh {p:Rect} {t junk:List Rect}:rF (p :: t) junk t.length=p:=by
 rw [rF,List.reverse_cons,List.append_assoc,List.getD_eq_getElem?_getD,List.getElem?_append_right (by simp)]
 simp
theorem KM {p:Rect} {t junk:List Rect}:rF (p :: t) junk=rF t (p :: junk):=by
 funext a;rw [rF,rF,List.reverse_cons,List.append_assoc];rfl
theorem Oy {q p:Rect} {t junk:List Rect}:rF (q :: p :: t) junk t.length=p:=by rw [KM,rh]
theorem MI {q p:Rect} {t junk:List Rect}:rF (q :: p :: t) junk (t.length+1)=q:=rh (t:=p :: t)
theorem Rl {l:List Rect} {i:Rect} {a:Nat} {junk:List Rect} (h:a<l.length):rF (i :: l) [] a=rF l junk a:=by
 rw [rF,rF,List.reverse_cons,List.append_nil,List.getD_eq_getElem?_getD,List.getD_eq_getElem?_getD,List.getElem?_append_left (by simpa using h),List.getElem?_append_left (by simpa using h)]
theorem Ih {l:List Rect} {x y:Rect} {a:Nat} {junk:List Rect} (h:a≠l.length):rF (x :: l) junk a=rF (y :: l) junk a:=by
 rw [rF,rF,List.reverse_cons,List.reverse_cons,List.append_assoc,List.append_assoc,List.getD_eq_getElem?_getD,List.getD_eq_getElem?_getD]
 rcases Nat.lt_or_ge a l.reverse.length with q|q
 ·rw [List.getElem?_append_left q,List.getElem?_append_left q]
 ·rw [List.getElem?_append_right q,List.getElem?_append_right q]
  have:a - l.reverse.length≠0:=by simp at q ⊢;omega
  cases hk:a - l.reverse.length with
  | zero=>exact absurd hk this
  | succ k=>rfl
attribute [local go_sem] lU Int.toNat_natCast lL rh Oy MI
theorem qH (r:Rect):(SV.b (ag (bc r))).flat:=fun c hc=>by
 obtain ⟨x,hx,rfl⟩:=List.mem_map.1 hc
 simp only [bc,List.mem_cons,List.not_mem_nil,or_false] at hx
 rcases hx with rfl|rfl|rfl|rfl <;> trivial
theorem Jp {s:Script} (W:Wf s.ops):∀ i,i≤s.ops.length→(dc s i).2.length=(bI s.ops i).length+1
 | 0,_=>rfl
 | i+1,hi=>by
  have ih:=Jp W i (by omega)
  rcases W.kinds i (by omega) with k|k|k
  ·rw [cr k,dc,if_neg (by omega),if_pos k];simp [pE];omega
  ·rw [ct k,dc,if_pos k];simp;omega
  ·have:=W.pops i (by omega) k
   rw [dQ k,dc,if_neg (by omega),if_neg (by omega)];simp [pE]
   have:0<(bI s.ops i).length:=List.length_pos_iff.2 this
   omega
theorem yZ {s:Script} (V:VOps s) {i:Nat} (hi:i<s.ops.length) (hk:(aB s.ops i).kind≠3):0≤(aB s.ops i).mask∧(aB s.ops i).mask≤1000000:=by
 have h:=((dr.1 (V.ok i hi)).2.2.2 hk).1
 have:=V.imgs
 omega
theorem Bd {s:Script} (V:VOps s):∀ i,i≤s.ops.length→kt s.bits s.images.length (s.ops.drop (s.ops.length - i)) (cK (s.ops.take (s.ops.length - i)) [])
 | 0,_=>by rw [Nat.sub_zero,List.drop_length];trivial
 | i+1,hi=>by
  have hl:s.ops.length - (i+1)<s.ops.length:=by omega
  have e:aB s.ops (s.ops.length - (i+1))=s.ops[s.ops.length - (i+1)]:=by rw [aB,List.getD_eq_getElem?_getD,List.getElem?_eq_getElem hl];rfl
  have ih:=Bd V i (by omega)
  rw [List.drop_eq_getElem_cons hl]
  refine ⟨?_, ?_⟩
  ·rw [ld _ (by omega),← e];exact V.ok _ hl
  ·have e2:s.ops.length - (i+1)+1=s.ops.length - i:=by omega
   rw [e2]
   rw [← e2,List.take_add_one,List.getElem?_eq_getElem hl,ez,e2] at ih
   exact ih
theorem DX {s:Script} (V:VOps s):jh s=(0,0):=by
 rw [jh,if_pos V.frame]
 refine vy ?_ ?_
 ·have:=Bd V _ (Nat.le_refl _)
  rw [Nat.sub_self] at this
  exact this
 ·have:=ld (ops:=s.ops) s.ops.length (Nat.le_refl _)
  rw [List.take_length,V.wf.fin] at this
  exact this
theorem CX (s:Script) (V:VOps s) (hs':ScriptLen s):aF Sg 81 [ag (aL s)] (fun x=>x = .tup [.c (.p (oJ s.ops.length (bn s))),I 0]):=by
 have hn:=V.cnt
 have W:=V.wf
 have ho:=wz s hs'
 rw [DX V] at ho
 refine aI Tryz.func81 [.tmp 2, .tmp 3] ?_
 repeat' (first|refine an ?_|((first|refine aj (fun K hK => ?_)|refine ae (ho) ?_);and_intros;all_goals first|(refine hK _ ?_;clear hK K)|try exact aa)|(refine aH (fun hb => ?_) (fun hb => ?_);all_goals try exact ax)|(refine ai ?_;(try clear hB KB);(try clear hK K)))
 ·simp at hb
 refine aM (X:=Nat × List Nat × List Rect) (fun x=>bg [(1, .b (.c (.ptr 0 0))),(2, .b (.c (.p (.val (.slice none 0 0))))),(3, .b (I 0)),(6, .b (.c (.own 1 s.ops.length))),(7, .b (.c (.own 3 (bI s.ops x.1).length))),
  (8, .b (.c (.own 2 (dc s x.1).2.length))),(28, .b (.c (.p (qB s.ops)))),(29, .b (I s.ops.length)),(30, .b (I x.1))]
  [(0, .fix ((aL s).map CV.p)),(1, .arr 28 4 s.ops.length (fun a j=>(bc ((dc s x.1).1 a)).getD j .any)),(2, .arr 28 4 ((dc s x.1).2.length+x.2.2.length) (fun a j=>(bc (rF (dc s x.1).2 x.2.2 a)).getD j .any)),
   (3, .arr 3 1 ((bI s.ops x.1).length+x.2.1.length) (fun a _=>PI (Gn (bI s.ops x.1) x.2.1 a)))] 4)
  (fun x=>x.1≤s.ops.length) (fun x=>s.ops.length - x.1) (0,[],[]) ?_ ?_ ?_
 ·exact Nat.zero_le _
 ·refine aE [(1,some 1),(2,some 2),(3,none)] ?_ ?_
  and_intros
  all_goals first|exact aw|skip
  ·refine .inr fun a ha j hj => ?_
   have hivl:j=0∨j=1∨j=2∨j=3:=by omega
   rcases hivl with rfl|rfl|rfl|rfl <;> exact fun _ _ _ h=>h
  ·refine .inr fun a ha j hj => ?_
   have ea:a=0:=by omega
   subst ea
   have hivl:j=0∨j=1∨j=2∨j=3:=by omega
   rcases hivl with rfl|rfl|rfl|rfl <;> exact fun _ _ _ h=>h
 ·rintro ⟨i,junk,junk2⟩ hi
  dsimp only at hi ⊢
  have hsl:=te s.ops i
  have hbl:=Jp W i hi
  rcases Nat.lt_or_ge i s.ops.length with hlt|hge
  ·cases hh:(dc s i).2 with
   | nil=>rw [hh] at hbl;simp at hbl
   | cons h0 hs0 =>
    have hl0:hs0.length≤4096:=by rw [hh] at hbl;simp at hbl;omega
    rcases W.kinds i hlt with hk|hk|hk
    ·have hk2:(s.ops.getD i default).kind=1:=hk
     have hm:=yZ V hlt (by omega)
     repeat' (first|refine ak hk2 ?_|refine an ?_|((first|refine aj (fun K hK => ?_)|refine ae (vz s (s.ops.getD i default) hs') ?_|refine ae (AR s (s.ops.getD i default) (bE s (s.ops.getD i default)) hs' hm) ?_);and_intros;all_goals first|(refine hK _ ?_;clear hK K)|try exact aa)|(refine aH (fun hb => ?_) (fun hb => ?_);all_goals try exact ax))
     refine fk ?_ ?_ (by simp (maxSteps:=999999)(disch:=omega) only [go_sem]) ?_ (xF [h0,fK s (aB s.ops i) (bE s (aB s.ops i))] (by simp))
     try simp (maxSteps:=999999)(disch:=omega) only [go_sem]
     try (refine hK _ ?_;clear hK K)
     ·refine And.intro (by omega) (hK _ ?_)
      clear hK
      repeat' (first|refine an ?_|(refine aj (fun K hK => ?_);and_intros;all_goals first|(refine hK _ ?_;clear hK K)|try exact aa))
      rw [ah]
      refine au (i+1,junk,junk2) ?_ (by dsimp only;omega) (by dsimp only;omega)
      dsimp only
      rw [cr hk,show dc s (i+1)=(upd (dc s i).1 i (fK s (aB s.ops i) (bE s (aB s.ops i))),pE (dc s i).2 (fK s (aB s.ops i) (bE s (aB s.ops i)))) from by rw [dc,if_neg (by omega),if_pos hk],hh]
      dsimp only [pE,List.headD,List.tail]
      refine aE [(1,some 1),(2,some 2),(3,some 3)] ?_ ?_
      and_intros
      all_goals first|exact aw|skip
      ·refine .inr fun a ha j hj => ?_
       by_cases e:a=i
       ·rw [if_pos e,if_pos (by omega),e,bV]
        have hivl:j=0∨j=1∨j=2∨j=3:=by omega
        rcases hivl with rfl|rfl|rfl|rfl <;> exact fun _ _ _ h=>h
       ·rw [if_neg e,cC _ _ e];exact fun _ _ _ h=>h
      ·refine .inr fun a ha j hj => ?_
       by_cases e:a=hs0.length
       ·rw [if_pos e,if_pos (by omega),e,rh]
        have hivl:j=0∨j=1∨j=2∨j=3:=by omega
        rcases hivl with rfl|rfl|rfl|rfl <;> exact fun _ _ _ h=>h
       ·rw [if_neg e,Ih (x:=dd [h0,fK s (aB s.ops i) (bE s (aB s.ops i))]) (y:=h0) e];exact fun _ _ _ h=>h
     ·simp (maxSteps:=1000000) (disch:=omega) only [go_sem,dU,eE]
      refine mA (gj fun a ha j hj => ?_)
      have ea:a=0∨a=1:=by omega
      rcases ea with rfl|rfl
      ·have hivl:j=0∨j=1∨j=2∨j=3:=by omega
       rcases hivl with rfl|rfl|rfl|rfl <;> rfl
      ·have hivl:j=0∨j=1∨j=2∨j=3:=by omega
       rcases hivl with rfl|rfl|rfl|rfl <;> rfl
     ·exact qH _
    ·have hk2:(s.ops.getD i default).kind=2:=hk
     repeat' (first|refine ak hk2 ?_|refine an ?_|(refine aj (fun K hK => ?_);and_intros;all_goals first|(refine hK _ ?_;clear hK K)|try exact aa)|(refine aH (fun hb => ?_) (fun hb => ?_);all_goals try exact ax))
     rw [ah]
     refine au (i+1,[],[]) ?_ (by dsimp only;omega) (by dsimp only;omega)
     dsimp only
     rw [ct hk,show dc s (i+1)=((dc s i).1,cX :: (dc s i).2) from by rw [dc,if_pos hk],hh]
     refine aE [(1,some 1),(2,some 8),(3,some 6)] ?_ ?_
     and_intros
     all_goals first|exact aw|skip
     ·refine .inr fun a ha j hj => ?_
      unfold gh
      by_cases h:a<hs0.length+1
      ·rw [if_pos h,Rl (l:=h0 :: hs0) (junk:=junk2) (by simpa using h)];exact fun _ _ _ h=>h
      ·have ea:a=(h0 :: hs0).length:=by simp;omega
       rw [if_neg h,ea,rh,show (h0 :: hs0).length - (hs0.length+1)=0 by simp]
       have hivl:j=0∨j=1∨j=2∨j=3:=by omega
       rcases hivl with rfl|rfl|rfl|rfl <;> exact fun _ _ _ h=>h
     ·refine .inr fun a ha j hj => ?_
      have h2:j=0:=by omega
      subst h2
      unfold gh
      by_cases h:a<(bI s.ops i).length
      ·rw [if_pos h,yy h];exact fun _ _ _ h=>h
      ·have ea:a=(bI s.ops i).length:=by omega
       rw [if_neg h,ea,lL,Nat.sub_self];exact fun _ _ _ h=>h
    ·have hk2:(s.ops.getD i default).kind=3:=hk
     cases hs:bI s.ops i with
     | nil=>exact absurd hs (W.pops i hlt hk)
     | cons p t =>
      cases hs0 with
      | nil=>rw [hh,hs] at hbl;simp at hbl
      | cons h1 hs1 =>
      have hl1:hs1.length≤4096:=by simp at hl0;omega
      have hpi:p<i:=dR (ops:=s.ops) (by rw [hs];exact List.mem_cons_self ..)
      have hpk:(aB s.ops p).kind=2:=fO (i:=i) (by rw [hs];exact List.mem_cons_self ..)
      have hm:=yZ V (show p<s.ops.length by omega) (by omega)
      have htl:t.length≤4096:=by rw [hs] at hsl;simp at hsl;omega
      repeat' (first|refine ak hk2 ?_|refine an ?_|((first|refine aj (fun K hK => ?_)|refine ae (AR s (s.ops.getD p default) h0 hs' hm) ?_);and_intros;all_goals first|(refine hK _ ?_;clear hK K)|try exact aa)|(refine aH (fun hb => ?_) (fun hb => ?_);all_goals try exact ax))
      refine fk ?_ ?_ (by simp (maxSteps:=999999)(disch:=omega) only [go_sem]) ?_ (xF [h1,fK s (aB s.ops p) h0] (by simp))
      try simp (maxSteps:=999999)(disch:=omega) only [go_sem]
      try (refine hK _ ?_;clear hK K)
      ·refine And.intro (by omega) (hK _ ?_)
       clear hK
       repeat' (first|refine an ?_|(refine aj (fun K hK => ?_);and_intros;all_goals first|(refine hK _ ?_;clear hK K)|try exact aa))
       rw [ah]
       refine au (i+1,p :: junk,h0 :: junk2) ?_ (by dsimp only;omega) (by dsimp only;omega)
       dsimp only
       rw [dQ hk,show dc s (i+1)=(upd (upd (dc s i).1 i (fK s (aB s.ops ((bI s.ops i).headD 0)) ((dc s i).2.headD cX))) ((bI s.ops i).headD 0) (fK s (aB s.ops ((bI s.ops i).headD 0)) ((dc s i).2.headD cX)),
        pE (dc s i).2.tail (fK s (aB s.ops ((bI s.ops i).headD 0)) ((dc s i).2.headD cX))) from by rw [dc,if_neg (by omega),if_neg (by omega)],hh,hs]
       dsimp only [pE,List.headD,List.tail]
       refine aE [(1,some 1),(2,some 2),(3,some 3)] ?_ ?_
       and_intros
       all_goals first|exact aw|skip
       ·refine .inr fun a ha j hj => ?_
        by_cases e:a=p
        ·rw [if_pos e,if_pos (by omega),e,bV]
         have hivl:j=0∨j=1∨j=2∨j=3:=by omega
         rcases hivl with rfl|rfl|rfl|rfl <;> exact fun _ _ _ h=>h
        ·rw [if_neg e,cC _ _ e]
         by_cases e2:a=i
         ·rw [if_pos e2,if_pos (by omega),e2,bV]
          have hivl:j=0∨j=1∨j=2∨j=3:=by omega
          rcases hivl with rfl|rfl|rfl|rfl <;> exact fun _ _ _ h=>h
         ·rw [if_neg e2,cC _ _ e2];exact fun _ _ _ h=>h
       ·refine .inr fun a ha j hj => ?_
        by_cases e:a=hs1.length
        ·rw [if_pos e,if_pos (by omega),e,rh]
         have hivl:j=0∨j=1∨j=2∨j=3:=by omega
         rcases hivl with rfl|rfl|rfl|rfl <;> exact fun _ _ _ h=>h
        ·rw [if_neg e,KM,Ih (x:=dd [h1,fK s (aB s.ops p) h0]) (y:=h1) e];exact fun _ _ _ h=>h
       ·exact .inl (by rw [yg])
      ·simp (maxSteps:=1000000) (disch:=omega) only [go_sem,dU,eE]
       simp only [if_neg (show ¬ (i=p) by omega)]
       refine mA (gj fun a ha j hj => ?_)
       have ea:a=0∨a=1:=by omega
       rcases ea with rfl|rfl
       ·have hivl:j=0∨j=1∨j=2∨j=3:=by omega
        rcases hivl with rfl|rfl|rfl|rfl <;> rfl
       ·have hivl:j=0∨j=1∨j=2∨j=3:=by omega
        rcases hivl with rfl|rfl|rfl|rfl <;> rfl
      ·exact qH _
  ·have hi2:i=s.ops.length:=by omega
   subst hi2
   repeat' (first|refine an ?_|(refine aj (fun K hK => ?_);and_intros;all_goals first|(refine hK _ ?_;clear hK K)|try exact aa)|(refine aH (fun hb => ?_) (fun hb => ?_);all_goals try exact ax)|(refine ai ?_;(try clear hB KB);(try clear hK K)))
   rfl
end Go.Proofs.YtcbifofjjpfbcaaGreatDoor
set_option maxHeartbeats 2000000
set_option maxRecDepth 16000
namespace Go.Proofs.YtcbifofjjpfbcaaGreatDoor
open Go Go.SL
open Go.RowKit (wrap64)
attribute [local go_sem] qE oB
theorem HS {p q r d:Int} (h:Q64 p):oB ⟨p,q,r,d⟩=[.val (.int .u64 0), .val (.int .u64 p), .val (.int .u64 q), .val (.int .u64 r), .val (.int .u64 d)]:=by
 obtain ⟨h0,h1⟩:=h
 simp only [oB]
 rw [show p / 18446744073709551616=0 by omega,show p % 18446744073709551616=p by omega]
theorem bF (p d:Int) (h:Q64 p):aF Sg 243 [cq p,cq d] (fun r=>r = .b (ag (oB ⟨p,0,0,d⟩))):=by
 rw [HS h]
 refine aI Tryz.func243 [.cell 4 253] ?_
 repeat' (first|(refine aj (fun K hK => ?_);and_intros;all_goals first|(refine hK _ ?_;clear hK K)|try exact aa)|(refine ai ?_;(try clear hB KB);(try clear hK K)))
 all_goals rfl
structure Sm4 (s a d b:Int):Prop where
 s0:0≤s
 sa:s≤a
 am:a≤65535
 d0:0≤d
 db:d≤b
 bm:b≤65535
theorem BJ (s a d b:Int) (t:Bool) (h:Sm4 s a d b) (hr:t=false→2 * (b - d) * (a - s)≤a * b):aF Sg 244 [cq s,cq a,cq d,cq b,B t] (fun r=>r = .b (UQ (if t=true then 2 * s * d else a * b - 2 * (b - d) * (a - s)))):=by
 obtain ⟨s0,sa,am,d0,db,bm⟩:=h
 have h1:0≤2 * s * d∧2 * s * d≤131070 * 65535:=⟨az (by omega) d0,aJ (by omega) (by omega) d0 (by omega)⟩
 have h2:0≤a * b∧a * b≤65535 * 65535:=⟨az (by omega) (by omega),aJ (by omega) (by omega) (by omega) (by omega)⟩
 have h3:0≤2 * (b - d) * (a - s)∧2 * (b - d) * (a - s)≤131070 * 65535:=⟨az (by omega) (by omega),aJ (by omega) (by omega) (by omega) (by omega)⟩
 have ht:True:=trivial
 cases t
 ·have hr:=hr rfl
  refine aI Tryz.func244 [.tmp 10] ?_
  repeat' (first|with_reducible exact aK|refine ak ht ?_|refine an ?_|(refine aj (fun K hK => ?_);and_intros;all_goals first|(refine hK _ ?_;clear hK K)|try exact aa)|(refine ai ?_;(try clear hB KB);(try clear hK K)))
  all_goals rfl
 ·refine aI Tryz.func244 [.tmp 10] ?_
  repeat' (first|with_reducible exact aK|refine ak ht ?_|refine an ?_|(refine aj (fun K hK => ?_);and_intros;all_goals first|(refine hK _ ?_;clear hK K)|try exact aa)|(refine ai ?_;(try clear hB KB);(try clear hK K)))
  all_goals rfl
theorem GY (s a d b:Int) (h:Sm4 s a d b):aF Sg 245 [cq s,cq a,cq d,cq b] (fun r=>r = .b (ag (oB (vC s a d b)))):=by
 obtain ⟨s0,sa,am,d0,db,bm⟩:=h
 have h1:0≤d * a∧d * a≤65535 * 65535:=⟨az (by omega) (by omega),aJ (by omega) (by omega) (by omega) (by omega)⟩
 have h2:0≤a * b∧a * b≤65535 * 65535:=⟨az (by omega) (by omega),aJ (by omega) (by omega) (by omega) (by omega)⟩
 have h3:0≤b * (a - s)∧b * (a - s)≤65535 * 65535:=⟨az (by omega) (by omega),aJ (by omega) (by omega) (by omega) (by omega)⟩
 have h4:0≤a * a∧a * a≤65535 * 65535:=⟨az (by omega) (by omega),aJ (by omega) (by omega) (by omega) (by omega)⟩
 have h5:0≤a * a * d∧a * a * d≤65535 * 65535 * 65535:=⟨az h4.1 d0,aJ h4.2 (by omega) d0 (by decide)⟩
 unfold vC
 by_cases c1:d=0
 ·have g1:(d == 0)=true:=beq_iff_eq.2 c1
  rw [if_pos c1]
  refine aI Tryz.func245 [.cell 8 253] ?_
  repeat' (first|refine ak g1 ?_|refine an ?_|((first|refine aj (fun K hK => ?_)|refine ae (bF 0 1 ⟨by decide,by decide⟩) ?_);and_intros;all_goals first|(refine hK _ ?_;clear hK K)|try exact aa)|(refine ai ?_;(try clear hB KB);(try clear hK K)))
  all_goals rfl
 have g1:(d == 0)=false:=beq_eq_false_iff_ne.2 c1
 rw [if_neg c1]
 by_cases c2:b * (a - s)≤d * a
 ·have g2:decide (d * a≥b * (a - s))=true:=decide_eq_true c2
  rw [if_pos c2]
  refine aI Tryz.func245 [.cell 8 253] ?_
  repeat' (first|refine ak (And.intro g1 g2) ?_|refine an ?_|((first|refine aj (fun K hK => ?_)|refine ae (bF (a * b) 1 ⟨by omega,by omega⟩) ?_);and_intros;all_goals first|(refine hK _ ?_;clear hK K)|try exact aa)|(refine ai ?_;(try clear hB KB);(try clear hK K)))
  all_goals rfl
 ·have g2:decide (d * a≥b * (a - s))=false:=decide_eq_false c2
  rw [if_neg c2]
  refine aI Tryz.func245 [.cell 8 253] ?_
  repeat' (first|refine ak (And.intro g1 g2) ?_|refine an ?_|((first|refine aj (fun K hK => ?_)|refine ae (bF (a * a * d) (a - s) ⟨by omega,by omega⟩) ?_);and_intros;all_goals first|(refine hK _ ?_;clear hK K)|try exact aa)|(refine ai ?_;(try clear hB KB);(try clear hK K)))
  all_goals rfl
end Go.Proofs.YtcbifofjjpfbcaaGreatDoor
set_option maxHeartbeats 2000000
set_option maxRecDepth 16000
namespace Go.Proofs.YtcbifofjjpfbcaaGreatDoor
open Go Go.SL
open Go.RowKit (wrap64)
attribute [local go_sem] qE oB
theorem Jz (s a d b:Int) (h:Sm4 s a d b):aF Sg 246 [cq s,cq a,cq d,cq b] (fun r=>r = .b (ag (oB (Ac s a d b)))):=by
 obtain ⟨s0,sa,am,d0,db,bm⟩:=h
 have h2:0≤a * b∧a * b≤65535 * 65535:=⟨az (by omega) (by omega),aJ (by omega) (by omega) (by omega) (by omega)⟩
 have h3:0≤(b - d) * a∧(b - d) * a≤65535 * 65535:=⟨az (by omega) (by omega),aJ (by omega) (by omega) (by omega) (by omega)⟩
 have h4:0≤s * b∧s * b≤65535 * 65535:=⟨az (by omega) (by omega),aJ (by omega) (by omega) (by omega) (by omega)⟩
 have h5:0≤a * b * s∧a * b * s≤65535 * 65535 * 65535:=⟨az h2.1 s0,aJ h2.2 (by omega) s0 (by decide)⟩
 have h6:0≤(b - d) * a * a∧(b - d) * a * a≤65535 * 65535 * 65535:=⟨az h3.1 (by omega),aJ h3.2 (by omega) (by omega) (by decide)⟩
 have ht:=wP s0 sa am d0 db bm
 unfold Ac at *
 by_cases c1:d=b
 ·have g1:(d == b)=true:=beq_iff_eq.2 c1
  rw [if_pos c1]
  refine aI Tryz.func246 [.cell 8 253] ?_
  repeat' (first|refine ak g1 ?_|refine an ?_|((first|refine aj (fun K hK => ?_)|refine ae (bF (a * b) 1 ⟨by omega,by omega⟩) ?_);and_intros;all_goals first|(refine hK _ ?_;clear hK K)|try exact aa)|(refine ai ?_;(try clear hB KB);(try clear hK K)))
  all_goals rfl
 have g1:(d == b)=false:=beq_eq_false_iff_ne.2 c1
 rw [if_neg c1] at ht ⊢
 by_cases c2:s * b≤(b - d) * a
 ·have g2:decide ((b - d) * a≥s * b)=true:=decide_eq_true c2
  rw [if_pos c2]
  refine aI Tryz.func246 [.cell 8 253] ?_
  repeat' (first|refine ak (And.intro g1 g2) ?_|refine an ?_|((first|refine aj (fun K hK => ?_)|refine ae (bF 0 1 ⟨by decide,by decide⟩) ?_);and_intros;all_goals first|(refine hK _ ?_;clear hK K)|try exact aa)|(refine ai ?_;(try clear hB KB);(try clear hK K)))
  all_goals rfl
 ·have g2:decide ((b - d) * a≥s * b)=false:=decide_eq_false c2
  rw [if_neg c2] at ht ⊢
  have hp:=ht.p0
  dsimp only at hp
  refine aI Tryz.func246 [.cell 8 253] ?_
  repeat' (first|refine ak (And.intro g1 g2) ?_|refine an ?_|((first|refine aj (fun K hK => ?_)|refine ae (bF (a * b * s - (b - d) * a * a) s ⟨by omega,by omega⟩) ?_);and_intros;all_goals first|(refine hK _ ?_;clear hK K)|try exact aa)|(refine ai ?_;(try clear hB KB);(try clear hK K)))
  all_goals rfl
theorem Iv (s a d b:Int) (h:Sm4 s a d b):aF Sg 247 [cq s,cq a,cq d,cq b] (fun r=>r = .b (ag (oB (rP s a d b)))):=by
 obtain ⟨s0,sa,am,d0,db,bm⟩:=h
 have ht:=wU s0 sa am d0 db bm
 have da:0≤d * a∧d * a≤65535 * 65535:=⟨az (by omega) (by omega),aJ (by omega) (by omega) (by omega) (by omega)⟩
 have bb:0≤b * b∧b * b≤65535 * 65535:=⟨az (by omega) (by omega),aJ (by omega) (by omega) (by omega) (by omega)⟩
 have p1:0≤16 * d * d∧16 * d * d≤1048560 * 65535:=⟨az (by omega) (by omega),aJ (by omega) (by omega) (by omega) (by omega)⟩
 have p2:0≤3 * b * b∧3 * b * b≤196605 * 65535:=⟨az (by omega) (by omega),aJ (by omega) (by omega) (by omega) (by omega)⟩
 have p3:0≤12 * d * b∧12 * d * b≤786420 * 65535:=⟨az (by omega) (by omega),aJ (by omega) (by omega) (by omega) (by omega)⟩
 have u1:0≤d * a * b∧d * a * b≤65535 * 65535 * 65535:=⟨az da.1 (by omega),aJ da.2 bm (by omega) (by omega)⟩
 by_cases h0:b=0
 ·rw [rP,if_pos h0]
  have g0:(b == 0)=true:=beq_iff_eq.2 h0
  refine aI Tryz.func247 [.cell 8 253] ?_
  repeat' (first|refine ak g0 ?_|refine an ?_|((first|refine aj (fun K hK => ?_)|refine ae (bF 0 1 ⟨by decide,by decide⟩) ?_);and_intros;all_goals first|(refine hK _ ?_;clear hK K)|try exact aa)|(refine ai ?_;(try clear hB KB);(try clear hK K)))
  all_goals rfl
 have g0:(b == 0)=false:=beq_eq_false_iff_ne.2 h0
 by_cases h1:2 * s≤a
 ·rw [rP,if_neg h0,if_pos h1] at ht ⊢
  have g1:decide (2 * s≤a)=true:=decide_eq_true h1
  have p4:0≤(a - 2 * s) * d∧(a - 2 * s) * d≤65535 * 65535:=⟨az (by omega) (by omega),aJ (by omega) (by omega) (by omega) (by omega)⟩
  have u2:0≤(a - 2 * s) * d * (b - d)∧(a - 2 * s) * d * (b - d)≤65535 * 65535 * 65535:=⟨az p4.1 (by omega),aJ p4.2 (by omega) (by omega) (by decide)⟩
  have u3:=ht.p0
  dsimp only at u3
  refine aI Tryz.func247 [.cell 8 253] ?_
  repeat' (first|refine ak (And.intro g0 g1) ?_|refine an ?_|((first|refine aj (fun K hK => ?_)|refine ae (bF (d * a * b - (a - 2 * s) * d * (b - d)) b ⟨by omega,by omega⟩) ?_);and_intros;all_goals first|(refine hK _ ?_;clear hK K)|try exact aa)|(refine ai ?_;(try clear hB KB);(try clear hK K)))
  all_goals rfl
 have g1:decide (2 * s≤a)=false:=decide_eq_false h1
 by_cases h2:4 * d≤b
 ·rw [rP,if_neg h0,if_neg h1,if_pos h2] at ht ⊢
  have g2:decide (4 * d≤b)=true:=decide_eq_true h2
  have p4:0≤(2 * s - a) * d∧(2 * s - a) * d≤65535 * 65535:=⟨az (by omega) (by omega),aJ (by omega) (by omega) (by omega) (by omega)⟩
  have p5:=xe d0 h2
  have u0:d * a * b * b=d * a * (b * b):=Int.mul_assoc _ _ _
  have u2:0≤d * a * (b * b)∧d * a * (b * b)≤65535 * 65535 * (65535 * 65535):=⟨az da.1 bb.1,aJ da.2 bb.2 bb.1 (by omega)⟩
  have u3:0≤(2 * s - a) * d * (16 * d * d+3 * b * b - 12 * d * b):=az p4.1 p5.1
  have u4:=ht.le
  dsimp only at u4
  have hab:a * b * (b * b)≤65535 * 65535 * (65535 * 65535):=aJ (aJ am bm (by omega) (by decide)) bb.2 bb.1 (by decide)
  rw [← u0] at u2 u4 ⊢
  refine aI Tryz.func247 [.cell 8 253] ?_
  repeat' (first|refine ak (And.intro g0 (And.intro g1 g2)) ?_|refine an ?_|((first|refine aj (fun K hK => ?_)|refine ae (bF (d * a * b * b+(2 * s - a) * d * (16 * d * d+3 * b * b - 12 * d * b)) (b * b) ⟨by omega,by omega⟩) ?_);and_intros;all_goals first|(refine hK _ ?_;clear hK K)|try exact aa)|(refine ai ?_;(try clear hB KB);(try clear hK K)))
  all_goals rfl
 have g2:decide (4 * d≤b)=false:=decide_eq_false h2
 rw [rP,if_neg h0,if_neg h1,if_neg h2] at ht ⊢
 have p4:0≤2 * d * (a - s)∧2 * d * (a - s)≤131070 * 65535:=⟨az (by omega) (by omega),aJ (by omega) (by omega) (by omega) (by omega)⟩
 have p5:0≤d * b∧d * b≤65535 * 65535:=⟨az (by omega) (by omega),aJ (by omega) (by omega) (by omega) (by omega)⟩
 rw [HS ⟨p4.1,by omega⟩]
 refine aI Tryz.func247 [.cell 8 253] ?_
 repeat' (first|refine ak (And.intro g0 (And.intro g1 g2)) ?_|refine an ?_|((first|refine aj (fun K hK => ?_)|refine ae (bF (2 * d * (a - s)) 1 ⟨by omega,by omega⟩) ?_);and_intros;all_goals first|(refine hK _ ?_;clear hK K)|try exact aa)|(refine ai ?_;(try clear hB KB);(try clear hK K)))
 rw [show 2 * d * (a - s) / 18446744073709551616=0 by omega,show 2 * d * (a - s) % 18446744073709551616=2 * d * (a - s) by omega]
 rfl
end Go.Proofs.YtcbifofjjpfbcaaGreatDoor
