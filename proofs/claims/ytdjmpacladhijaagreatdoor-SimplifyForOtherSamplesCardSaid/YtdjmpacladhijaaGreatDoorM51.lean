/- Part of the proof: EA, TF, EC. -/
import Derived.Test.YtdjmpacladhijaaGreatDoorM50
set_option linter.unusedSimpArgs false
set_option linter.unusedVariables false
set_option maxHeartbeats 2000000
set_option maxRecDepth 16000
namespace Go.Proofs.YtdjmpacladhijaaGreatDoor
open Go Go.SL
open Go.RowKit (wrap64)
section
attribute [local go_sem] Int.toNat_natCast vI Bo
def arO:Op:=⟨1,0,0,0,0,0,0,255,4,1,false,false⟩
def arI (w:Int) (a:Int):Image:=jq w w ⟨0,0,0,a,a⟩
def yX:Script:=⟨8,⟨0,0,1,1⟩,1,1,[],[arI 2 9],[⟨2,0,0,0,0,0,0,128,12,1,true,false⟩,arO,⟨3,0,0,0,0,0,0,0,0,0,false,false⟩]⟩
def a7c:Script:=⟨8,⟨0,0,1,1⟩,1,1,[],[arI 2 9],[⟨1,0,0,0,0,0,0,128,12,1,false,false⟩]⟩
theorem vr:ScriptLen yX:=⟨by decide,by decide,by decide⟩
theorem Fw:VOps yX:=jK (by decide +kernel)
theorem jN {P:Nat→Prop} (h:P 0):∀ i,i<1→P i:=fun i hi=>by
 have:i=0:=by omega
 subst this;exact h
theorem Ta:Sml yX:=⟨by decide,by decide,by decide,jN (by decide),jN (by decide),jN (by decide),jN (by decide),jN (by decide)⟩
theorem Od:oj yX (9,0)=a7c:=by decide +kernel
theorem um:aB Sg 26 [] (fun x=>x = .b (B true)):=by
 have h1:=IE yX Fw vr Ta (9,0) (by decide +kernel) (by decide +kernel);rw [Od] at h1;have h2:=Bz yX Fw vr 9 0;rw [show uN yX 9 0=true by decide +kernel] at h2;have h3:=Bz yX Fw vr 1 1;rw [show uN yX 1 1=false by decide +kernel] at h3;have h4:=UM yX vr;rw [show Bv yX.ops=2 by decide +kernel] at h4;refine az Tryz.func26 [.tmp 0] ?_;repeat' (first|((with_reducible refine aX (id:=1) (fun K hW => ?_));(try simp (maxSteps:=999999)(disch:=omega) only [go_sem]);and_intros;all_goals first|(refine hK _ ?_;clear hK K)|try exact ai)|refine aC ?_)
 refine hW _ (aP [(0, .b (B false)),(1, .b (.c (.ptr 1 0)))] [(1, .fix ((ay yX).map CV.p))] 2) ?_ ?_
 ·refine ar [(1,some 2)] ?_ ?_;and_intros;all_goals try exact ak
  ·exact bP
  ·intro i hi j hj;have hi0:i=0:=by omega
   subst hi0;have hivl:j=0∨j=1∨j=2∨j=3∨j=4∨j=5∨j=6∨j=7∨j=8∨j=9∨j=10∨j=11∨j=12∨j=13∨j=14∨j=15∨j=16∨j=17∨j=18∨j=19∨j=20∨j=21∨j=22∨j=23∨j=24∨j=25∨j=26∨j=27:=by omega
   rcases hivl with rfl|rfl|rfl|rfl|rfl|rfl|rfl|rfl|rfl|rfl|rfl|rfl|rfl|rfl|rfl|rfl|rfl|rfl|rfl|rfl|rfl|rfl|rfl|rfl|rfl|rfl|rfl|rfl <;> (first|exact fun _ _ _ h=>h|exact bP)
  ·intro i hi j hj;have hi3:i=0∨i=1∨i=2:=by omega
   rcases hi3 with rfl|rfl|rfl
   ·skip
    have hivl:j=0∨j=1∨j=2∨j=3∨j=4∨j=5∨j=6∨j=7∨j=8∨j=9∨j=10∨j=11:=by omega
    rcases hivl with rfl|rfl|rfl|rfl|rfl|rfl|rfl|rfl|rfl|rfl|rfl|rfl <;> exact fun _ _ _ h=>h
   ·skip
    have hivl:j=0∨j=1∨j=2∨j=3∨j=4∨j=5∨j=6∨j=7∨j=8∨j=9∨j=10∨j=11:=by omega
    rcases hivl with rfl|rfl|rfl|rfl|rfl|rfl|rfl|rfl|rfl|rfl|rfl|rfl <;> exact fun _ _ _ h=>h
   ·skip
    have hivl:j=0∨j=1∨j=2∨j=3∨j=4∨j=5∨j=6∨j=7∨j=8∨j=9∨j=10∨j=11:=by omega
    rcases hivl with rfl|rfl|rfl|rfl|rfl|rfl|rfl|rfl|rfl|rfl|rfl|rfl <;> exact fun _ _ _ h=>h
 clear hW;repeat' (first|refine an (fun K hK => ?_)|refine aa (h1) ?_|refine aa (h2) ?_|refine aA (fun hg=>h3) ?_|refine aA (fun hg=>h4) ?_|refine aw ?_|(refine aq hK ?_;try clear hK K))
 exact vb (by decide +kernel)
def OE:Script:=⟨8,⟨0,0,2,2⟩,1,1,[],[arI 2 255],[arO,arO,arO]⟩
def AT:Script:=⟨8,⟨0,0,2,2⟩,1,1,[],[arI 2 255],[⟨1,0,0,0,0,0,0,255,1,1,false,false⟩]⟩
theorem zG:aB Sg 32 [] (fun x=>x = .b (B true)):=by
 have s1:Sml OE:=⟨by decide,by decide,by decide,jN (by decide),jN (by decide),jN (by decide),jN (by decide),jN (by decide)⟩
 have s2:Sml AT:=⟨by decide,by decide,by decide,jN (by decide),jN (by decide),jN (by decide),jN (by decide),jN (by decide)⟩
 have l1:ScriptLen OE:=⟨by decide,by decide,by decide⟩
 have l2:ScriptLen AT:=⟨by decide,by decide,by decide⟩
 have h1:=nV OE l1 s1 (by decide);rw [show (nQ OE).1=[arO] by decide +kernel] at h1;have h2:=OG AT l2;rw [show decide (fc AT=[])=true by decide +kernel] at h2;have h3:=TC AT l2 s2 (by decide);rw [show (nQ AT).2=[] by decide +kernel] at h3;refine az Tryz.func32 [.tmp 0] ?_;repeat' (first|((with_reducible refine aX (id:=2) (fun K hW => ?_));(try simp (maxSteps:=999999)(disch:=omega) only [go_sem]);and_intros;all_goals first|(refine hK _ ?_;clear hK K)|try exact ai)|refine aC ?_)
 refine hW _ (aP [(0, .b (B false)),(1, .b (.c (.ptr 1 0))),(2, .b (.c (.ptr 2 0)))] [(1, .fix ((cC arO).map CV.p)),(2, .fix ((ay OE).map CV.p))] 3) ?_ ?_
 ·refine ar [(1,some 0),(2,some 3)] ?_ ?_;and_intros;all_goals try exact ak
  ·exact bP
  ·intro i hi j hj;have hi0:i=0:=by omega
   subst hi0;have hivl:j=0∨j=1∨j=2∨j=3∨j=4∨j=5∨j=6∨j=7∨j=8∨j=9∨j=10∨j=11∨j=12∨j=13∨j=14∨j=15∨j=16∨j=17∨j=18∨j=19∨j=20∨j=21∨j=22∨j=23∨j=24∨j=25∨j=26∨j=27:=by omega
   rcases hivl with rfl|rfl|rfl|rfl|rfl|rfl|rfl|rfl|rfl|rfl|rfl|rfl|rfl|rfl|rfl|rfl|rfl|rfl|rfl|rfl|rfl|rfl|rfl|rfl|rfl|rfl|rfl|rfl <;> (first|exact fun _ _ _ h=>h|exact bP)
  ·intro i hi j hj;have hi3:i=0∨i=1∨i=2:=by omega
   rcases hi3 with rfl|rfl|rfl
   ·skip
    have hivl:j=0∨j=1∨j=2∨j=3∨j=4∨j=5∨j=6∨j=7∨j=8∨j=9∨j=10∨j=11:=by omega
    rcases hivl with rfl|rfl|rfl|rfl|rfl|rfl|rfl|rfl|rfl|rfl|rfl|rfl <;> exact fun _ _ _ h=>h
   ·skip
    have hivl:j=0∨j=1∨j=2∨j=3∨j=4∨j=5∨j=6∨j=7∨j=8∨j=9∨j=10∨j=11:=by omega
    rcases hivl with rfl|rfl|rfl|rfl|rfl|rfl|rfl|rfl|rfl|rfl|rfl|rfl <;> exact fun _ _ _ h=>h
   ·skip
    have hivl:j=0∨j=1∨j=2∨j=3∨j=4∨j=5∨j=6∨j=7∨j=8∨j=9∨j=10∨j=11:=by omega
    rcases hivl with rfl|rfl|rfl|rfl|rfl|rfl|rfl|rfl|rfl|rfl|rfl|rfl <;> exact fun _ _ _ h=>h
 clear hW;repeat' (first|((with_reducible refine aX (id:=4) (fun K hW => ?_));(try simp (maxSteps:=999999)(disch:=omega) only [go_sem]);and_intros;all_goals first|(refine hK _ ?_;clear hK K)|try exact ai)|refine an (fun K hK => ?_)|refine aa (h1) ?_|(refine aq hK ?_;try clear hK K))
 refine hW _ (aP [(0, .b (B false)),(1, .b (.c (.ptr 1 0))),(2, .b (.c (.ptr 2 0))),(3, .b (.c (.ptr 3 0)))] [(1, .fix ((cC arO).map CV.p)),(2, .fix ((ay AT).map CV.p)),(3, .fix ((ay (cl OE [arO])).map CV.p))] 4) ?_ ?_
 ·refine ar [(1,some 1),(2,some 2),(3,some 3)] ?_ ?_;and_intros;all_goals try exact ak
  intro i hi j hj;have hi0:i=0:=by omega
  subst hi0;have hivl:j=0∨j=1∨j=2∨j=3∨j=4∨j=5∨j=6∨j=7∨j=8∨j=9∨j=10∨j=11:=by omega
  rcases hivl with rfl|rfl|rfl|rfl|rfl|rfl|rfl|rfl|rfl|rfl|rfl|rfl <;> exact fun _ _ _ h=>h
 clear hW;repeat' (first|refine an (fun K hK => ?_)|refine aA (fun hg=>h2) ?_|refine aA (fun hg=>h3) ?_|refine aw ?_|(refine aq hK ?_;try clear hK K))
 exact vb (by decide +kernel)
end
theorem sC {e:List Op} (h:Elm e):∀ l,bl e l=l:=by
 induction h with
 | nil=>exact fun _=>rfl
 | @draw o r h _ ih =>
  intro l;show bl r (bn l o)=l;rw [bn,if_neg (by omega),if_neg (by omega)];exact ih l
 | @grp o p a r h1 _ h3 _ ih1 ih2 =>
  intro l;show bl (a ++ p :: r) (bn l o)=l;rw [cG,bn,if_pos h1,ih1];show bl r (bn (l ++ [o]) p)=l;rw [bn,if_neg (by omega),if_pos h3,List.dropLast_concat];exact ih2 l
theorem GB {b:Int} {n:Nat} {o:Op} {l l':List Op} (h:dM b n o l=0) (hk:o.kind≠3) (hc:eS l=true→eS l'=true) (hl:l'.length≤l.length):dM b n o l'=0:=by
 rw [cu] at h ⊢;obtain ⟨a1,a2,a3,a4⟩:=h;obtain ⟨q1,q2,q3,q4,q5,q6,q7⟩:=a4 hk;exact ⟨a1,a2,fun q=>absurd q hk,fun _=>⟨q1,q2,q3,q4,q5,fun q=>hc (q6 q),fun q=>Nat.lt_of_le_of_lt hl (q7 q)⟩⟩
theorem Mr {b:Int} {n:Nat} {o:Op} {l l':List Op} (h:dM b n o l=0) (hk:o.kind=3) (hl:0<l'.length):dM b n o l'=0:=by
 rw [cu] at h ⊢;exact ⟨h.1,h.2.1,fun _=>hl,fun q=>absurd hk q⟩
theorem Nt (l:List Op) (o:Op):eS (l ++ [o])=(o.isolated && !o.knockout):=by
 have e:(l ++ [o]).getD ((l ++ [o]).length - 1) default=o:=by rw [List.length_append,List.length_singleton,Nat.add_sub_cancel,List.getD_eq_getElem?_getD,List.getElem?_append_right (Nat.le_refl _),Nat.sub_self];rfl
 have e2:(l ++ [o]).isEmpty=false:=by cases l <;> rfl
 rw [eS,e,e2];rfl
theorem a2m {b:Int} {n:Nat} {e:List Op} (h:Elm e):∀ {l l':List Op},iB b n e l→(eS l=true→eS l'=true)→l'.length≤l.length→iB b n e l':=by
 induction h with
 | nil=>exact fun _ _ _=>trivial
 | @draw o r h _ ih =>
  intro l l' hk hc hl;have e1:bn l o=l:=by rw [bn,if_neg (by omega),if_neg (by omega)]
  have e2:bn l' o=l':=by rw [bn,if_neg (by omega),if_neg (by omega)]
  have h2:=hk.2;rw [e1] at h2;refine ⟨GB hk.1 (by omega) hc hl, ?_⟩;rw [e2];exact ih h2 hc hl
 | @grp o p a r h1 ha h3 _ ih1 ih2 =>
  intro l l' hk hc hl;have e1:∀ l,bn l o=l ++ [o]:=fun l=>by rw [bn,if_pos h1]
  have e2:∀ l,bn (l ++ [o]) p=l:=fun l=>by rw [bn,if_neg (by omega),if_pos h3,List.dropLast_concat]
  have h2:=hk.2;rw [e1,cO,sC ha] at h2;refine ⟨GB hk.1 (by omega) hc hl, ?_⟩;rw [e1,cO,sC ha];refine ⟨ih1 h2.1 (fun q=>by rw [Nt] at q ⊢;exact q) (by simpa using hl),Mr h2.2.1 h3 (by simp), ?_⟩;rw [e2];have:=h2.2.2;rw [e2] at this;exact ih2 this hc hl
theorem No {s:Script} (V:VOps s) {k:Nat} (hk:k≤s.ops.length):iB s.bits s.images.length (s.ops.drop k) (bl (s.ops.take k) [])∧bl (s.ops.drop k) (bl (s.ops.take k) [])=[]∧iB s.bits s.images.length (s.ops.take k) []:=by
 have h1:=wc V (s.ops.length - k) (by omega);rw [show s.ops.length - (s.ops.length - k)=k by omega] at h1;have h2:=wc V s.ops.length (Nat.le_refl _);rw [Nat.sub_self] at h2;have h2:iB s.bits s.images.length s.ops []:=h2;have h3:=iI (ops:=s.ops) s.ops.length (Nat.le_refl _);rw [List.take_length,V.wf.fin] at h3;have h3:bl s.ops []=[]:=h3;have e:s.ops=s.ops.take k ++ s.ops.drop k:=(List.take_append_drop k s.ops).symm;rw [e,cO] at h2;refine ⟨h1, ?_,h2.1⟩;rw [← cG,← e,h3]
theorem a0T {s:Script} (V:VOps s) {i:Nat} (hi:i<s.ops.length) (hk:(ah s.ops i).kind≠3):iB s.bits s.images.length (gv s i) []∧bl (gv s i) []=[]:=by
 have hel:=cB V.wf hi;have e:bl (s.ops.take (aE s.ops i+1)) []=bl (s.ops.take i) []:=by rw [iI _ (by omega),iI _ (by omega),nq V.wf hi hk]
 obtain ⟨h1,h2,_⟩:=No V (show aE s.ops i+1≤s.ops.length by omega);obtain ⟨_,_,h3⟩:=No V (show i≤s.ops.length by omega);rw [e] at h1 h2;unfold gv;rw [cO,cG];exact ⟨⟨h3,h1⟩,h2⟩
theorem tW {o:Op} (hk:o.kind≠3):cZ o=true↔¬ (o.kind=1∧(o.isolated=true∨o.knockout=true))∧¬ (o.kind=2∧(o.image≠0∨o.x≠0∨o.y≠0))∧(o.mask≠0∨o.maskX=0∧o.maskY=0):=by
 rw [cZ,if_neg hk];by_cases h1:o.kind=1∧(o.isolated=true∨o.knockout=true)
 ·rw [if_pos h1];exact ⟨fun q=>(by cases q),fun q=>absurd h1 q.1⟩
 rw [if_neg h1];by_cases h2:o.kind=2∧(o.image≠0∨o.x≠0∨o.y≠0)
 ·rw [if_pos h2];exact ⟨fun q=>(by cases q),fun q=>absurd h2 q.2.1⟩
 rw [if_neg h2,decide_eq_true_eq];exact ⟨fun q=>⟨h1,h2,q⟩,fun q=>q.2.2⟩
theorem Ni {b : Int} {n : Nat} {o k p : Op} {L : List Op} (ho : dM b n o L = 0) (hk : dM b n k (L ++ [o]) = 0) (h2 : o.kind = 2) (k3 : k.kind ≠ 3) (e1 : p.kind = k.kind) (e2 : p.image = k.image) (e3 : p.x = k.x) (e4 : p.y = k.y) (e5 : p.operator = o.operator) (e6 : p.mode = o.mode)
  (e7:(p.mask=o.mask∧p.maskX=o.maskX∧p.maskY=o.maskY∧p.opacity=o.opacity)∨(p.mask=k.mask∧p.maskX=k.maskX∧p.maskY=k.maskY∧p.opacity=k.opacity)) (e8:k.kind=1→p.isolated=k.isolated) (e9:p.knockout=k.knockout):dM b n p L=0:=by
 rw [cu] at ho hk ⊢;obtain ⟨a1,a2,a3,a4⟩:=ho;obtain ⟨b1,b2,b3,b4⟩:=hk;obtain ⟨q1,q2,q3,q4,q5,q6,q7⟩:=a4 (by omega);obtain ⟨r1,r2,r3,r4,r5,r6,r7⟩:=b4 k3;obtain ⟨f1,f2,f3⟩:=(tW (by omega)).1 a2;obtain ⟨g1,g2,g3⟩:=(tW k3).1 b2;simp only [bu,List.all_cons,List.all_nil,Bool.and_true,Bool.and_eq_true,decide_eq_true_eq] at q2 r2;have p3:p.kind≠3:=by rw [e1];exact k3
 have hf:cZ p=true:=by
  rw [tW p3];refine And.intro ?_ (And.intro ?_ ?_)
  ·rintro ⟨u,v⟩;rw [e1] at u;rw [e8 u,e9] at v;exact g1 ⟨u,v⟩
  ·rw [e1,e2,e3,e4];exact g2
  ·rcases e7 with ⟨u1,u2,u3,_⟩|⟨u1,u2,u3,_⟩
   ·rw [u1,u2,u3];exact f3
   ·rw [u1,u2,u3];exact g3
 have p1:1≤p.kind∧p.kind≤3:=by rw [e1];exact b1
 have p4:jn p.operator=true:=by rw [e5];exact q4
 have p5:jn p.mode=true:=by rw [e6];exact q5
 have p6:p.operator≠4→eS L=true:=by rw [e5];exact q6
 have p7:p.kind=2→L.length<64:=fun _=>q7 h2;refine And.intro p1 (And.intro hf (And.intro (fun q=>absurd q p3) fun _=>And.intro ?_ (And.intro ?_ (And.intro ?_ (And.intro p4 (And.intro p5 (And.intro p6 p7)))))))
 ·rw [e1,e2];rcases e7 with ⟨u1,_⟩|⟨u1,_⟩
  ·rw [u1];omega
  ·rw [u1];omega
 ·simp only [bu,List.all_cons,List.all_nil,Bool.and_true,Bool.and_eq_true,decide_eq_true_eq];rw [e3,e4];rcases e7 with ⟨_,u2,u3,_⟩|⟨_,u2,u3,_⟩
  ·rw [u2,u3];omega
  ·rw [u2,u3];omega
 ·rcases e7 with ⟨_,_,_,u⟩|⟨_,_,_,u⟩
  ·rw [u];exact q3
  ·rw [u];exact r3
theorem QB (s : Script) (i : Nat) : (bI s i).kind = (ah s.ops (i + 1)).kind ∧ (bI s i).image = (ah s.ops (i + 1)).image ∧ (bI s i).x = (ah s.ops (i + 1)).x ∧ (bI s i).y = (ah s.ops (i + 1)).y ∧
  (bI s i).operator=(ah s.ops i).operator∧(bI s i).mode=(ah s.ops i).mode∧(((bI s i).mask=(ah s.ops i).mask∧(bI s i).maskX=(ah s.ops i).maskX∧(bI s i).maskY=(ah s.ops i).maskY∧(bI s i).opacity=(ah s.ops i).opacity) ∨
   ((bI s i).mask=(ah s.ops (i+1)).mask∧(bI s i).maskX=(ah s.ops (i+1)).maskX∧(bI s i).maskY=(ah s.ops (i+1)).maskY∧(bI s i).opacity=(ah s.ops (i+1)).opacity)) ∧
  ((ah s.ops (i+1)).kind=1→(bI s i).isolated=(ah s.ops (i+1)).isolated)∧((ah s.ops (i+1)).kind=2→(bI s i).isolated=true)∧(bI s i).knockout=(ah s.ops (i+1)).knockout:=by
 unfold bI;generalize ah s.ops i=o;generalize ah s.ops (i+1)=k;have h1:∀ u:Op,(mr s o k=u)→(rR o u).kind=u.kind:=fun _ _=>rfl;unfold yY rR mr;by_cases hu:jF s k=true
 ·rw [if_pos hu];by_cases hk:k.kind=2
  ·rw [if_pos hk];exact ⟨rfl,rfl,rfl,rfl,rfl,rfl, .inl ⟨rfl,rfl,rfl,rfl⟩,fun q=>by omega,fun _=>rfl,rfl⟩
  ·rw [if_neg hk];exact ⟨rfl,rfl,rfl,rfl,rfl,rfl, .inl ⟨rfl,rfl,rfl,rfl⟩,fun _=>rfl,fun q=>absurd q hk,rfl⟩
 ·rw [if_neg hu];by_cases hk:k.kind=2
  ·rw [if_pos hk];exact ⟨rfl,rfl,rfl,rfl,rfl,rfl, .inr ⟨rfl,rfl,rfl,rfl⟩,fun q=>by omega,fun _=>rfl,rfl⟩
  ·rw [if_neg hk];exact ⟨rfl,rfl,rfl,rfl,rfl,rfl, .inr ⟨rfl,rfl,rfl,rfl⟩,fun _=>rfl,fun q=>absurd q hk,rfl⟩
theorem a2L {s:Script} (V:VOps s) {i:Nat} (hi:i<s.ops.length) (h1:(ah s.ops i).kind=2) (h3:jw s.ops i=1):iB s.bits s.images.length (jY s i) []∧bl (jY s i) []=[]:=by
 have W:=V.wf;obtain ⟨k1,k2,k3⟩:=nI V hi h1 h3;have hel:=cB W hi;have hi1:i+1<s.ops.length:=by omega
 have e3:jY s i=s.ops.take i ++ ((bI s i :: iH s.ops (i+1+1) (aE s.ops (i+1)+1)) ++ s.ops.drop (aE s.ops i+1)):=by
  rw [k2];unfold jY iH;rw [List.append_assoc,List.append_assoc];rfl
 have e1:s.ops.drop i=iH s.ops i (aE s.ops i+1) ++ s.ops.drop (aE s.ops i+1):=by
  conv=>lhs;rw [← List.take_append_drop (aE s.ops i+1) s.ops]
  rw [List.drop_append_of_le_length (by rw [List.length_take];omega)];rfl
 have e:bl (s.ops.take (aE s.ops i+1)) []=bl (s.ops.take i) []:=by rw [iI _ (by omega),iI _ (by omega),nq W hi (by omega)]
 obtain ⟨c1,c2,_⟩:=No V (show aE s.ops i+1≤s.ops.length by omega);obtain ⟨d1,_,d3⟩:=No V (show i≤s.ops.length by omega);rw [e] at c1 c2;obtain ⟨L,hL⟩:∃ L,bl (s.ops.take i) []=L:=⟨_,rfl⟩
 rw [hL] at c1 c2 d1;rw [e1,cO,Fa W hi h1] at d1;have d0:=d1.1;have n1:bn L (ah s.ops i)=L ++ [ah s.ops i]:=by rw [bn,if_pos h1]
 have d4:=d0.2;rw [n1,cO] at d4;have d5:=d4.1;obtain ⟨u1,u2,u3,u4,u5,u6,u7,u8,u9,u10⟩:=QB s i
 suffices hh:iB s.bits s.images.length (bI s i :: iH s.ops (i+1+1) (aE s.ops (i+1)+1)) L∧bl (bI s i :: iH s.ops (i+1+1) (aE s.ops (i+1)+1)) L=L by
  rw [e3,cO,cO,cG,cG];rw [hL,hh.2];exact ⟨⟨d3,hh.1,c1⟩,c2⟩
 rw [← k2] at d5;rcases W.kinds (i+1) hi1 with q|q|q
 ·have hE:aE s.ops (i+1)=i+1:=gy W hi1 q;rw [hE,sH hi1] at d5;rw [hE,oB];have hp:=Ni d0.1 d5.1 h1 k1 u1 u2 u3 u4 u5 u6 u7 u8 u10;have n2:bn L (bI s i)=L:=by rw [bn,if_neg (by omega),if_neg (by omega)]
  exact ⟨⟨hp,trivial⟩,n2⟩
 ·have hp1:=fO W hi1 q;have hel1:=cB W hi1;rw [Fa W hi1 q] at d5;have hp:=Ni d0.1 d5.1 h1 k1 u1 u2 u3 u4 u5 u6 u7 u8 u10;have n2:bn L (bI s i)=L ++ [bI s i]:=by rw [bn,if_pos (by omega)]
  have n3:bn (L ++ [ah s.ops i]) (ah s.ops (i+1))=L ++ [ah s.ops i] ++ [ah s.ops (i+1)]:=by rw [bn,if_pos q]
  have d6:=d5.2;rw [n3,cO] at d6;have hin:=xl W hi1 q;rw [sC hin] at d6;have hpk:=(nS W hi1 q).1;have n4:bn (L ++ [bI s i]) (ah s.ops (aE s.ops (i+1)))=L:=by rw [bn,if_neg (by omega),if_pos hpk,List.dropLast_concat]
  rw [rP (show i+1+1≤aE s.ops (i+1) by omega) (by omega)];refine ⟨⟨hp, ?_⟩, ?_⟩
  ·rw [n2,cO,sC hin];refine ⟨a2m hin d6.1 (fun c => ?_) (by simp),Mr d6.2.1 hpk (by simp),trivial⟩;rw [Nt] at c ⊢;rw [u9 q,u10];rw [Bool.and_eq_true] at c ⊢;exact ⟨rfl,c.2⟩
  ·show bl _ (bn L (bI s i))=L;rw [n2,cG,sC hin];exact n4
 ·exact absurd q k1
theorem Of.some {c:Scene} {s:Script} (h:Of c s):∃ x y,Pt s (eZ c.bits) x y:=by
 obtain ⟨x0,x1,y0,y1,hw,hh⟩:=cI c;exact ⟨(aG c).x0,(aG c).y0,h.pt (by unfold jo;omega)⟩
theorem Of.len {c:Scene} {s:Script} (h:Of c s):s.ops.length≤4096:=h.V.cnt
theorem Qt {l:List Op} {i:Nat} (h:i<l.length):ah l i ∈ l:=by rw [ah,List.getD_eq_getElem?_getD,List.getElem?_eq_getElem h];exact List.getElem_mem _
theorem tY {s t:Script} (h:bJ s=0) (a:t.bits=s.bits) (b:t.canvas=s.canvas) (c:t.tileW=s.tileW) (d:t.tileH=s.tileH) (e:t.order=s.order) (f:t.images.length=s.images.length) (g:t.ops.length≤4096):bJ t=0:=by
 unfold bJ at h ⊢;rw [a,b,c,d,e,f];grind
theorem xp {s:Script} (V:VOps s) (hop:∀ o ∈ s.ops,0≤o.opacity) {r:Rx} (ha:uN s r.1 r.2=true):VOps (oj s r)∧∀ o ∈ rf s r.1.toNat r.2.toNat,0≤o.opacity:=by
 obtain ⟨g1,g2,g3,g4,g5⟩:=rm ha;have hlen:=EY V.wf ha;have hc:=V.cnt;have hfr:bJ (oj s r)=0:=tY V.frame rfl rfl rfl rfl rfl rfl (by show (rf s r.1.toNat r.2.toNat).length≤4096;omega);have hnn:∀ i,i<s.ops.length→0≤(ah s.ops i).opacity:=fun i hi=>hop _ (Qt hi);by_cases h4:r.1≤4
 ·have e:rf s r.1.toNat r.2.toNat=gv s r.2.toNat:=by rw [rf,if_pos (by omega)]
  refine ⟨jK ?_, ?_⟩
  ·have:=a0T V g3 g4;rw [← e] at this;rw [Fm (t:=oj s r) hfr this.1 this.2]
  ·rw [e];intro o ho;rcases List.mem_append.1 ho with ho|ho
   ·exact hop o (List.mem_of_mem_take ho)
   ·exact hop o (List.mem_of_mem_drop ho)
 by_cases h9:r.1=9
 ·have e:rf s r.1.toNat r.2.toNat=jY s r.2.toNat:=by rw [rf,if_neg (by omega),if_pos (by omega)]
  have h6:vg s r.2.toNat=true:=by rw [h9] at g5;exact g5
  simp only [vg,Bool.and_eq_true,Bool.or_eq_true,decide_eq_true_eq] at h6;obtain ⟨⟨⟨b1,_⟩,b3⟩,_⟩:=h6;obtain ⟨k1,k2,k3⟩:=nI V g3 b1 b3;have hel:=cB V.wf g3;refine ⟨jK ?_, ?_⟩
  ·have:=a2L V g3 b1 b3;rw [← e] at this;rw [Fm (t:=oj s r) hfr this.1 this.2]
  ·rw [e];intro o ho;unfold jY at ho;rcases List.mem_append.1 ho with ho|ho
   ·rcases List.mem_append.1 ho with ho|ho
    ·rcases List.mem_append.1 ho with ho|ho
     ·exact hop o (List.mem_of_mem_take ho)
     ·rw [List.mem_singleton.1 ho];obtain ⟨_,_,_,_,_,_,u7,_⟩:=QB s r.2.toNat
      rcases u7 with ⟨_,_,_,u⟩|⟨_,_,_,u⟩
      ·rw [u];exact hnn _ g3
      ·rw [u];exact hnn _ (by omega)
    ·exact hop o (List.mem_of_mem_take (List.mem_of_mem_drop ho))
   ·exact hop o (List.mem_of_mem_drop ho)
 ·have e:rf s r.1.toNat r.2.toNat=s.ops.set r.2.toNat (cQ r.1.toNat (ah s.ops r.2.toNat)):=by rw [rf,if_neg (by omega),if_neg (by omega)]
  refine ⟨Uk (Vo ha (by omega) (by omega)) V g4, ?_⟩;rw [e];intro o ho;rcases List.mem_or_eq_of_mem_set ho with ho|ho
  ·exact hop o ho
  ·rw [ho];have:(cQ r.1.toNat (ah s.ops r.2.toNat)).opacity=(ah s.ops r.2.toNat).opacity:=by
    unfold cQ;repeat' split
    all_goals rfl
   rw [this];exact hnn _ g3
theorem Of.next {c:Scene} {s:Script} (h:Of c s) {r:Rx} (ha:uN s r.1 r.2=true):Of c (oj s r):=by
 obtain ⟨V,o⟩:=xp h.V h.op ha;exact ⟨h.b,h.cv,h.w,h.h,h.o,h.n1,h.n2,fun i a b=>h.im i a b,V,o⟩
theorem Of.run {c:Scene}:∀ (f:Nat) {s:Script},Of c s→Of c (cl s (jA f s).1)∧∀ x y,jo (aG c) x y→ch (cl s (jA f s).1) x y=ch s x y
 | 0,s,h=>⟨h,fun _ _ _=>rfl⟩
 | f+1,s,h=>by
  cases hr:(fc s).head? with
  | none=>rw [vw hr];exact ⟨h,fun _ _ _=>rfl⟩
  | some r =>
   rw [vl hr];have hm:=(vF.1 (vX hr).1)
   have h2:=h.next hm.2;obtain ⟨k1,k2⟩:=Of.run f h2;refine ⟨k1,fun x y hx => ?_⟩;have h3:=Ql (h.pt hx) hm.2;exact (k2 x y hx).trans h3
section
attribute [local go_sem] Int.toNat_natCast vI
structure PlB (m:Image):Prop where
 p0:m.p0.s.length≤1000000000
 p1:m.p1.s.length≤1000000000
 p2:m.p2.s.length≤1000000000
 p3:m.p3.s.length≤1000000000
 p4:m.p4.s.length≤1000000000
theorem sS (w h:Int) (p:Pixel):PlB (jq w h p):=⟨Nat.zero_le _,Nat.zero_le _,Nat.zero_le _,Nat.zero_le _,Nat.zero_le _⟩
theorem xN (w h:Int) (l:List Pixel) (hl:l.length≤1000000000):PlB (gN w h l):=by
 refine ⟨?_, ?_, ?_, ?_, ?_⟩ <;> (show (List.map _ l).length≤_;rw [List.length_map];exact hl)
theorem a7g (c:Scene) (i:Nat) (hi:i<(aT c).length):PlB ((aT c).getD i default):=by
 have hm:(aT c).getD i default ∈ aT c:=by rw [List.getD_eq_getElem?_getD,List.getElem?_eq_getElem hi];exact List.getElem_mem _
 generalize (aT c).getD i default=m at hm;unfold aT at hm;split at hm
 ·rw [List.mem_singleton.1 hm];exact sS _ _ _
 ·unfold cL at hm;obtain ⟨p,hp,rfl⟩:=List.mem_map.1 hm;unfold jR;split
  ·exact sS _ _ _
  ·refine xN _ _ _ ?_;have:=Ht (p:=p) (cI c);rw [aY,List.length_map,List.length_range];omega
theorem rJ (c:Scene) (l:List Int) (i:Nat) (hi:i<(dX (aI c) l).images.length):PlB ((dX (aI c) l).images.getD i default):=by
 show PlB ((dW (aI c)).getD i default);have hl:(dW (aI c)).length=(aT c).length+2:=by rw [dW,List.length_append];rfl
 have hi:i<(dW (aI c)).length:=hi;rcases Nat.lt_or_ge i (aT c).length with h|h
 ·have e:(dW (aI c)).getD i default=(aT c).getD i default:=by
   show (aT c ++ [tQ (aI c),Oj (aI c)]).getD i default=_;rw [List.getD_eq_getElem?_getD,List.getD_eq_getElem?_getD,List.getElem?_append_left h]
  rw [e];exact a7g c i h
 ·have hv:i=(aT c).length∨i=(aT c).length+1:=by omega
  rcases hv with rfl|rfl
  ·have e:(dW (aI c)).getD (aT c).length default=tQ (aI c):=by
    show (aT c ++ [tQ (aI c),Oj (aI c)]).getD (aT c).length default=_;rw [List.getD_eq_getElem?_getD,List.getElem?_append_right (Nat.le_refl _),Nat.sub_self];rfl
   rw [e];exact sS _ _ _
  ·have e:(dW (aI c)).getD ((aT c).length+1) default=Oj (aI c):=by
    show (aT c ++ [tQ (aI c),Oj (aI c)]).getD ((aT c).length+1) default=_;rw [List.getD_eq_getElem?_getD,List.getElem?_append_right (Nat.le_succ _),Nat.succ_sub (Nat.le_refl _),Nat.sub_self];rfl
   rw [e];exact sS _ _ _
theorem CS (c:Scene) (l:List Int):(dX (aI c) l).images.length=(aT c).length+2:=by
 show (dW (aI c)).length=_;rw [dW,List.length_append];rfl
theorem vR (c:Scene) (l:List Int):(dX (aI c) l).ops.length=(aI c).ops.length:=vN _ _ _
theorem Av (c:Scene) (l:List Int):Sml (dX (aI c) l):=by
 have hi:=gK c;have hn:=CS c l;have ht:=Au c;refine ⟨?_,by omega,by omega,fun i h=>(rJ c l i h).p0,fun i h=>(rJ c l i h).p1,fun i h=>(rJ c l i h).p2,fun i h=>(rJ c l i h).p3,fun i h=>(rJ c l i h).p4⟩;exact Nat.le_trans (BX c) (by decide)
theorem Ce (c:Scene) (l:List Int):ScriptLen (dX (aI c) l):=by
 have h:=kj c;have hi:=gK c;have hn:=CS c l;have ho:=vR c l;exact ⟨h.order,by omega,by rw [ho];exact h.ops⟩
end
end Go.Proofs.YtdjmpacladhijaaGreatDoor
