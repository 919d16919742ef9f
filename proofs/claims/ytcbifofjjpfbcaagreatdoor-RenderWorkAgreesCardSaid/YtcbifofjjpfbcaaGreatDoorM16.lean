/- Part of the proof: T5, E1, WA. -/
import Derived.Test.YtcbifofjjpfbcaaGreatDoorM15
set_option linter.unusedSimpArgs false
set_option linter.unusedVariables false
namespace Go.Proofs.YtcbifofjjpfbcaaGreatDoor
structure Lv where
 op:Op
 acc:Acc
 back:Pixel
 deriving DecidableEq,Inhabited
def iR:Op:=⟨2,0,0,0,0,0,0,0,0,0,true,false⟩
def base:Lv:=⟨iR,tN,ba⟩
def aP (m:Int) (o:Op) (p:Pixel) (k:Int):Pixel:=cc (cc p (if o.mask=0 then m else k) m) o.opacity m
def eX (m:Int) (o:Op) (s:Pixel) (t:Lv):Lv := { t with acc:=dI t.op.knockout o.operator o.mode m s t.acc t.back }
def jA (o:Op) (t:Lv):Lv:=⟨o,sw (en o.isolated t.op.knockout t.acc t.back),en o.isolated t.op.knockout t.acc t.back⟩
def iC (m:Int) (z:Op→Pixel × Int) (st:List Lv) (o:Op):List Lv :=
 match st with
 | []=>[]
 | t :: r =>
  if o.kind=1 then eX m o (aP m o (z o).1 (z o).2) t :: r
  else if o.kind=2 then jA o t :: t :: r
  else match r with
   | []=>[t]
   | u :: r=>eX m t.op (aP m t.op (bB t.acc t.back m) (z t.op).2) u :: r
def lD (m:Int) (z:Op→Pixel × Int) (ops:List Op) (st:List Lv):List Lv:=ops.foldl (iC m z) st
theorem nw {m:Int} {z:Op→Pixel × Int} {a b:List Op} {st:List Lv}:lD m z (a ++ b) st=lD m z b (lD m z a st):=List.foldl_append
theorem jF {m:Int} {z:Op→Pixel × Int} {o:Op} {b:List Op} {st:List Lv}:lD m z (o :: b) st=lD m z b (iC m z st o):=rfl
def Xi (m:Int) (st:List Lv):Pixel:=match st with
 | []=>ba
 | t :: _=>bB t.acc t.back m
structure SmpV (m:Int) (z:Op→Pixel × Int):Prop where
 p:∀ o,PixV (z o).1 m
 k0:∀ o,0≤(z o).2
 km:∀ o,(z o).2≤m
structure LvV (m:Int) (t:Lv):Prop where
 v:AccV t.acc t.back m
 iso:t.op.isolated=true→t.back=ba∧t.acc.own=t.acc.a
theorem Te {m:Int} (hm:Full m):LvV m base:=⟨QL hm,fun _=>⟨rfl,rfl⟩⟩
theorem mN {m:Int} {o:Op} {p:Pixel} {k:Int} (hm:Full m) (hp:PixV p m) (hk:0≤k) (hkm:k≤m) (ho:0≤o.opacity) (hom:o.opacity≤m):PixV (aP m o p k) m:=by
 refine pT hm (pT hm hp ?_ ?_) ho hom
 ·have:=hm.pos;split <;> omega
 ·split <;> omega
theorem DR {m:Int} {o:Op} {s:Pixel} {t:Lv} (hm:Full m) (hs:PixV s m) (ht:LvV m t) (hop:o.operator=4∨t.op.isolated=true∧t.op.knockout=false):LvV m (eX m o s t):=by
 refine ⟨Rz hm hs ht.v ?_,fun hi => ?_⟩
 ·rcases hop with h|⟨h1,h2⟩
  ·exact .inl h
  ·exact .inr ⟨h2,(ht.iso h1).2⟩
 ·obtain ⟨h1,h2⟩:=ht.iso hi
  exact ⟨h1,ID (by rw [h1];rfl) h2⟩
theorem HZ {m:Int} {o:Op} {t:Lv} (hm:Full m) (ht:LvV m t):LvV m (jA o t):=by
 obtain ⟨h1,h2⟩:=Lc (i:=o.isolated) (k:=t.op.knockout) hm ht.v
 refine ⟨Lf h1 h2,fun hi => ?_⟩
 have hi:o.isolated=true:=hi
 show en o.isolated t.op.knockout t.acc t.back=ba∧0=(en o.isolated t.op.knockout t.acc t.back).a
 rw [en,if_pos hi];exact ⟨rfl,rfl⟩
structure OpFit (m:Int) (t:Op) (o:Op):Prop where
 op0:0≤o.opacity
 opm:o.opacity≤m
 ctx:o.operator=4∨t.isolated=true∧t.knockout=false
def FV (m:Int):List Lv→Prop
 | []=>False
 | [t]=>LvV m t∧t.op=iR
 | t :: u :: r=>LvV m t∧OpFit m u.op t.op∧FV m (u :: r)
theorem FV.head {m:Int} {t:Lv} {r:List Lv} (h:FV m (t :: r)):LvV m t:=by
 cases r with
 | nil=>exact h.1
 | cons=>exact h.1
theorem FV.repl {m:Int} {t t':Lv} {r:List Lv} (h:FV m (t :: r)) (h1:LvV m t') (h2:t'.op=t.op):FV m (t' :: r):=by
 cases r with
 | nil=>exact ⟨h1,h2.trans h.2⟩
 | cons u r=>exact ⟨h1,by rw [h2];exact h.2.1,h.2.2⟩
def Ju (m:Int) (st:List Lv) (o:Op):Prop :=
 match st with
 | []=>False
 | t :: r=>(o.kind=1∨o.kind=2→OpFit m t.op o)∧(o.kind=3→r≠[])
theorem Fl {m:Int} {z:Op→Pixel × Int} {st:List Lv} {o:Op} (hm:Full m) (hz:SmpV m z) (hs:FV m st) (hk:o.kind=1∨o.kind=2∨o.kind=3) (hn:Ju m st o):FV m (iC m z st o):=by
 cases st with
 | nil=>exact hs.elim
 | cons t r =>
  obtain ⟨n1,n2⟩:=hn
  unfold iC
  dsimp only
  split
  ·rename_i h
   have hf:=n1 (.inl h)
   exact hs.repl (DR hm (mN hm (hz.p o) (hz.k0 o) (hz.km o) hf.op0 hf.opm) hs.head hf.ctx) rfl
  split
  ·rename_i h1 h
   exact ⟨HZ hm hs.head,n1 (.inr h),hs⟩
  ·rename_i h1 h2
   cases r with
   | nil=>exact absurd rfl (n2 (by omega))
   | cons u r =>
    obtain ⟨s1,s2,s3⟩:=hs
    exact s3.repl (DR hm (mN hm (ql hm s1.v) (hz.k0 _) (hz.km _) s2.op0 s2.opm) s3.head s2.ctx) rfl
theorem HB {m : Int} {z : Op → Pixel × Int} {t : Lv} {r : List Lv} {o : Op} :
  (iC m z (t :: r) o).map Lv.op=if o.kind=1 then (t :: r).map Lv.op else if o.kind=2 then o :: (t :: r).map Lv.op else if r=[] then [t.op] else r.map Lv.op:=by
 unfold iC
 dsimp only
 split
 ·rfl
 split
 ·rfl
 ·cases r with
  | nil=>rfl
  | cons u r=>rfl
theorem Kz {f:Nat→Op} {p:Nat} {q:List Nat}:gX ((p :: q).reverse.map f)=true↔(f p).isolated=true∧(f p).knockout=false:=by
 have e:((p :: q).reverse.map f).getD (((p :: q).reverse.map f).length - 1) default=f p:=by
  simp [List.getD_eq_getElem?_getD]
 rw [gX,e]
 simp
def jM (m:Int) (z:Op→Pixel × Int) (ops:List Op) (i:Nat):List Lv:=lD m z (ops.take i) [base]
theorem qJ {ops:List Op} {i:Nat} (hi:i<ops.length):ops.take (i+1)=ops.take i ++ [aB ops i]:=by
 rw [List.take_add_one,List.getElem?_eq_getElem hi,aB,List.getD_eq_getElem?_getD,List.getElem?_eq_getElem hi];rfl
theorem nN {m:Int} {z:Op→Pixel × Int} {ops:List Op} {i:Nat} (hi:i<ops.length):jM m z ops (i+1)=iC m z (jM m z ops i) (aB ops i):=by
 unfold jM
 rw [qJ hi,nw];rfl
theorem Er {m:Int} {s:Script} {t:Lv} {r:List Lv} (V:VOps s) (hmx:bA s.bits=m) (ho:∀ o ∈ s.ops,0≤o.opacity) {i:Nat} (hi:i<s.ops.length) (h2:(t :: r).map Lv.op=(bI s.ops i).map (aB s.ops) ++ [iR]):Ju m (t :: r) (aB s.ops i):=by
 have he:=dr.1 (V.ok i hi)
 have hop:0≤(aB s.ops i).opacity:=ho _ (by rw [aB,List.getD_eq_getElem?_getD,List.getElem?_eq_getElem (by omega)];exact List.getElem_mem _)
 refine ⟨fun q => ?_,fun q => ?_⟩
 ·obtain ⟨_,_,_,g⟩:=he
  obtain ⟨_,_,g3,_,_,g6,_⟩:=g (by omega)
  refine ⟨hop,by omega, ?_⟩
  by_cases h4:(aB s.ops i).operator=4
  ·exact .inl h4
  ·have hc:=g6 h4
   cases hs:bI s.ops i with
   | nil =>
    rw [hs] at h2
    have:t.op=iR:=(List.cons.inj h2).1
    rw [this];exact .inr ⟨rfl,rfl⟩
   | cons p q =>
    rw [hs] at h2 hc
    have e:t.op=aB s.ops p:=(List.cons.inj h2).1
    rw [Kz] at hc
    rw [e];exact .inr hc
 ·rintro rfl
  cases hs:bI s.ops i with
  | nil=>exact V.wf.pops i (by omega) q hs
  | cons p q =>
   rw [hs] at h2
   have:=congrArg List.length h2
   simp at this
def mg (ops:List Op) (i j:Nat):List Op:=(ops.take j).drop i
theorem HH {ops:List Op} {i j:Nat} (h1:i≤j) (h2:j<ops.length):mg ops i (j+1)=mg ops i j ++ [aB ops j]:=by
 unfold mg
 rw [qJ h2,List.drop_append_of_le_length (by rw [List.length_take];omega)]
theorem Jr {m : Int} {z : Op → Pixel × Int} {s : Script} (hm : Full m) (hz : SmpV m z) (V : VOps s) (hmx : bA s.bits = m) (ho : ∀ o ∈ s.ops, 0 ≤ o.opacity) {i : Nat} {st : List Lv}
  (h1:FV m st) (h2:st.map Lv.op=(bI s.ops i).map (aB s.ops) ++ [iR]):∀ d,i+d≤s.ops.length→FV m (lD m z (mg s.ops i (i+d)) st)∧(lD m z (mg s.ops i (i+d)) st).map Lv.op=(bI s.ops (i+d)).map (aB s.ops) ++ [iR]
 | 0,_=>by
  have e:mg s.ops i (i+0)=[]:=by
   unfold mg
   rw [List.drop_eq_nil_of_le];rw [List.length_take];omega
  rw [e];exact ⟨h1,h2⟩
 | d+1,hi=>by
  obtain ⟨h1,h2⟩:=Jr hm hz V hmx ho h1 h2 d (by omega)
  rw [show i+(d+1)=(i+d)+1 by omega,HH (by omega) (by omega),nw]
  generalize lD m z (mg s.ops i (i+d)) st=st at *
  show FV m (iC m z st _)∧_
  have hk:=V.wf.kinds (i+d) (by omega)
  cases st with
  | nil=>exact h1.elim
  | cons t r =>
   have hn:=Er V hmx ho (show i+d<s.ops.length by omega) h2
   refine ⟨Fl hm hz h1 hk hn, ?_⟩
   show (iC m z (t :: r) _).map Lv.op=_
   rw [HB]
   rcases hk with k|k|k
   ·rw [if_pos k,cr k];exact h2
   ·rw [if_neg (by omega),if_pos k,ct k]
    exact congrArg (List.cons _) h2
   ·rw [if_neg (by omega),if_neg (by omega),if_neg (hn.2 k),dQ k]
    cases hs:bI s.ops (i+d) with
    | nil=>exact absurd hs (V.wf.pops (i+d) (by omega) k)
    | cons p q =>
     rw [hs] at h2
     exact (List.cons.inj h2).2
theorem Ry {m : Int} {z : Op → Pixel × Int} {s : Script} (hm : Full m) (hz : SmpV m z) (V : VOps s) (hmx : bA s.bits = m) (ho : ∀ o ∈ s.ops, 0 ≤ o.opacity) (i : Nat) (hi : i ≤ s.ops.length) :
  FV m (jM m z s.ops i)∧(jM m z s.ops i).map Lv.op=(bI s.ops i).map (aB s.ops) ++ [iR]:=by
 have:=Jr hm hz V hmx ho (i:=0) (st:=[base]) ⟨Te hm,rfl⟩ rfl i (by omega)
 rw [Nat.zero_add] at this
 exact this
end Go.Proofs.YtcbifofjjpfbcaaGreatDoor
set_option maxHeartbeats 2000000
set_option maxRecDepth 16000
namespace Go.Proofs.YtcbifofjjpfbcaaGreatDoor
open Go Go.SL
open Go.RowKit (wrap64)
attribute [local go_sem] lU Int.toNat_natCast lL
theorem uJ (s:Script) (V:VOps s):aF Sg 71 [.c (.p (qB s.ops))] (fun x=>x = .tup [.c (.p (ee s.ops.length (aR s.ops))),I 0]):=by
 have hn:=V.cnt
 have W:=V.wf
 refine aI Tryz.func71 [.tmp 2, .tmp 3] ?_
 repeat' (first|refine an ?_|(refine aj (fun K hK => ?_);and_intros;all_goals first|(refine hK _ ?_;clear hK K)|try exact aa))
 refine aM (X:=Nat × List Nat) (fun x=>bg [(2, .b (.c (.p (.val (.slice none 0 0))))),(3, .b (I 0)),(4, .b (.c (.own 0 s.ops.length))),(5, .b (.c (.own 1 (bI s.ops x.1).length))),(11, .b (.c (.p (qB s.ops)))),(12, .b (I s.ops.length)),(13, .b (I x.1))]
  [(0, .arr 3 1 s.ops.length (fun a _=>PI (sG s.ops x.1 a))),(1, .arr 3 1 ((bI s.ops x.1).length+x.2.length) (fun a _=>PI (Gn (bI s.ops x.1) x.2 a)))] 2)
  (fun x=>x.1≤s.ops.length) (fun x=>s.ops.length - x.1) (0,[]) ?_ ?_ ?_
 ·exact Nat.zero_le _
 ·refine aE [(1,none)] ?_ ?_
  and_intros
  all_goals first|exact aw|skip
  refine .inr fun a ha j hj => ?_
  have h2:j=0:=by omega
  subst h2
  exact fun _ _ _ h=>h
 ·rintro ⟨i,junk⟩ hi
  dsimp only at hi ⊢
  have hsl:=te s.ops i
  rcases Nat.lt_or_ge i s.ops.length with hlt|hge
  ·rcases W.kinds i hlt with hk|hk|hk
   ·have hk2:(s.ops.getD i default).kind=1:=hk
    repeat' (first|refine an ?_|(refine aj (fun K hK => ?_);and_intros;all_goals first|(refine hK _ ?_;clear hK K)|try exact aa)|(refine aH (fun hb => ?_) (fun hb => ?_);all_goals try exact ax))
    rw [ah]
    refine au (i+1,junk) ?_ (by dsimp only;omega) (by dsimp only;omega)
    dsimp only
    rw [cr hk]
    refine aE [(1,some 1)] ?_ ?_
    and_intros
    all_goals first|exact aw|skip
    refine .inr fun a ha j hj => ?_
    have h2:j=0:=by omega
    subst h2
    by_cases e:a=i
    ·rw [if_pos e,if_pos (by omega),e,sG,if_neg (by omega),bV];exact fun _ _ _ h=>h
    ·rw [if_neg e,sG,if_neg (by omega),cC _ _ e];exact fun _ _ _ h=>h
   ·have hk2:(s.ops.getD i default).kind=2:=hk
    repeat' (first|refine an ?_|(refine aj (fun K hK => ?_);and_intros;all_goals first|(refine hK _ ?_;clear hK K)|try exact aa)|(refine aH (fun hb => ?_) (fun hb => ?_);all_goals try exact ax))
    rw [ah]
    refine au (i+1,[]) ?_ (by dsimp only;omega) (by dsimp only;omega)
    dsimp only
    rw [ct hk]
    refine aE [(1,some 4)] ?_ ?_
    and_intros
    all_goals first|exact aw|skip
    ·refine .inr fun a ha j hj => ?_
     have h2:j=0:=by omega
     subst h2
     by_cases e:a=i
     ·rw [if_pos e,if_pos (by omega),e,sG,if_neg (by omega),bV];exact fun _ _ _ h=>h
     ·rw [if_neg e,sG,if_neg (by omega),cC _ _ e];exact fun _ _ _ h=>h
    refine .inr fun a ha j hj => ?_
    have h2:j=0:=by omega
    subst h2
    unfold gh
    by_cases h:a<(bI s.ops i).length
    ·rw [if_pos h,yy h];exact fun _ _ _ h=>h
    ·have ea:a=(bI s.ops i).length:=by omega
     rw [if_neg h,ea,lL,Nat.sub_self];exact fun _ _ _ h=>h
   ·have hk2:(s.ops.getD i default).kind=3:=hk
    cases hs:bI s.ops i with
    | nil=>exact absurd hs (W.pops i hlt hk)
    | cons p t =>
     have hp:p<i:=dR (ops:=s.ops) (by rw [hs];exact List.mem_cons_self ..)
     have htl:t.length≤4096:=by rw [hs] at hsl;simp at hsl;omega
     repeat' (first|refine an ?_|(refine aj (fun K hK => ?_);and_intros;all_goals first|(refine hK _ ?_;clear hK K)|try exact aa)|(refine aH (fun hb => ?_) (fun hb => ?_);all_goals try exact ax))
     rw [ah]
     refine au (i+1,p :: junk) ?_ (by dsimp only;omega) (by dsimp only;omega)
     dsimp only
     rw [dQ hk,hs]
     refine aE [(1,some 1)] ?_ ?_
     and_intros
     all_goals first|exact aw|skip
     ·refine .inr fun a ha j hj => ?_
      have h2:j=0:=by omega
      subst h2
      rw [sG,if_pos hk,hs]
      dsimp only [List.headD]
      by_cases e:a=p
      ·rw [if_pos e,e,bV];exact fun _ _ _ h=>h
      ·rw [if_neg e,cC _ _ e]
       by_cases e2:a=i
       ·rw [if_pos e2,e2,bV];exact fun _ _ _ h=>h
       ·rw [if_neg e2,cC _ _ e2];exact fun _ _ _ h=>h
     ·show _=t.length+(junk.length+1);omega
     ·exact .inl (by rw [yg];rfl)
  ·have hi2:i=s.ops.length:=by omega
   subst hi2
   rw [W.fin]
   repeat' (first|refine an ?_|(refine aj (fun K hK => ?_);and_intros;all_goals first|(refine hK _ ?_;clear hK K)|try exact aa)|(refine aH (fun hb => ?_) (fun hb => ?_);all_goals try exact ax)|(refine ai ?_;(try clear hB KB);(try clear hK K)))
   rfl
end Go.Proofs.YtcbifofjjpfbcaaGreatDoor
set_option maxHeartbeats 4000000
set_option maxRecDepth 16000
namespace Go.Proofs.YtcbifofjjpfbcaaGreatDoor
open Go Go.SL
open Go.RowKit (wrap64)
attribute [local go_sem] qE oB
theorem Vp (x:Ex) (h:ExOk x):aF Sg 215 [ag (oB x),cq (dz x)] (fun r=>r = .b (B (oA x 2 (2 * dz x+1)))):=by
 obtain ⟨p0,p1,q0,q1,r0,r1,d0,d1,_⟩:=id h
 have hES:ExS x:=⟨p0,p1,q0,by omega,r0,r1,by omega,d1⟩
 have hs:=tu hES
 obtain ⟨_,_,f0,f1⟩:=iJ h
 obtain ⟨k,ek⟩:∃ k,(2 * dz x+1) * x.d - 2 * x.p=k:=⟨_,rfl⟩
 have hu:=RE ek
 generalize oA x 2 (2 * dz x+1)=b at *
 generalize dz x=F at *
 have hm:0≤(2 * F+1) * x.d∧(2 * F+1) * x.d≤9223372036854775807 * 18446744073709551615:=⟨az (by omega) (by omega),aJ (by omega) (by omega) (by omega) (by omega)⟩
 have h1:=qs x.p 2 p0 ⟨by decide,by decide⟩ (by omega) (by omega)
 rw [Int.mul_comm x.p 2] at h1
 have h2:=jm (2 * F+1) x.d ⟨by omega,by omega⟩ ⟨by omega,d1⟩
 have hq:=rp x hES
 have ht:True:=trivial
 by_cases c:(2 * F+1) * x.d<2 * x.p
 ·have h3:=Nr ((2 * F+1) * x.d) (2 * x.p) ⟨hm.1,by omega⟩ ⟨by omega,by omega⟩ c
  have hb:b=true:=hu.2 (.inl (by omega))
  rw [hb]
  generalize (2 * F+1) * x.d=M at *
  refine aI Tryz.func215 [.tmp 4] ?_
  repeat' (first|((with_reducible refine cd (id:=1) (fun K hW => ?_));(try simp (maxSteps:=999999)(disch:=omega) only [go_sem]);and_intros;all_goals first|(refine hK _ ?_;clear hK K)|try exact aa)|((first|refine aj (fun K hK => ?_)|refine ae (h1) ?_);and_intros;all_goals first|(refine hK _ ?_;clear hK K)|try exact aa))
  refine hW _ (bg [(1, .b (cq F)),(2, .b (.c (.ptr 0 0))),(5, .b (.c (.ptr 1 0)))] [(0, .fix ((oB x).map CV.p)),(1, .fix ((qE (2 * x.p)).map CV.p))] 2) ?_ ?_
  ·refine aE [(1,some 1)] ?_ ?_
   and_intros
   all_goals first|exact aw|skip
  clear hW
  refine iN (id:=2) (.br 0 (.br 1 (.br 2 (.br 3 (.br 4 (.br 6 (.br 5 (.br 7 (.br 8 (.br 9 (.br 10 (.br 11 (.br 12 (.br 13 .leaf .nil) .nil) .nil) .nil) .nil) .nil) (.br 11 (.br 7 (.br 8 (.br 9 (.br 10 (.br 12 (.br 13 .leaf .nil) .nil) .nil) .nil) .nil) .nil) .nil)) (.br 11 (.br 5 (.br 7 (.br 8 (.br 9 (.br 10 (.br 12 (.br 13 .leaf .nil) .nil) .nil) .nil) .nil) .nil) .nil) .nil)) .nil) .nil) .nil) .nil) .nil) .nil) (by decide +kernel) (by (first|(refine And.intro (fun iw hiw => ?_) ?_;(focus ((try simp (maxSteps:=999999)(disch:=omega) only [go_sem] at hiw ⊢);(repeat (refine Eq.trans (if_neg ?_) ?_;(focus omega)));(first|exact hw iw (by omega)|rfl)));(focus (first|exact Nat.zero_le _|(simp (maxSteps:=999999)(disch:=omega) only [go_sem];done)|(simp (maxSteps:=999999)(disch:=omega) only [go_sem];omega))))|exact cS)) (fun K0 hW => ?_)
  refine (fun (tl:∀ st,Le st (bg [(8, .b (B false))] [] 1)→K0 st) => ?_) (fun st hl=>hW st _ hl ?_)
  ·clear hW
   repeat' (first|exact cE|(refine dA (fun K' hK' => ?_) ?_)|(refine cj (tl _ ?_);clear tl)|((first|refine ae (h2) ?_|refine ae (h3) ?_);(try simp (maxSteps:=999999)(disch:=omega) only [go_sem]);and_intros;(all_goals first|(refine hK' _ ?_;clear hK' K')|trivial|omega|exact Nat.le_of_ble_eq_true rfl|exact aa|skip))|(simp (maxSteps:=999999)(disch:=omega) only [go_sem];and_intros;(all_goals first|(refine hK' _ ?_;clear hK' K')|trivial|omega|exact Nat.le_of_ble_eq_true rfl|exact aa|skip)))
   all_goals
    refine aE [] ?_ ?_
    and_intros
    all_goals first|exact aw|skip
  clear hW
  repeat' (first|with_reducible exact aK|refine ak ht ?_|refine an ?_|(refine aj (fun K hK => ?_);and_intros;all_goals first|(refine hK _ ?_;clear hK K)|try exact aa)|(refine ai ?_;(try clear hB KB);(try clear hK K)))
 ·have h3:=Ly ((2 * F+1) * x.d) (2 * x.p) ⟨hm.1,by omega⟩ ⟨by omega,by omega⟩ (by omega)
  rw [ek] at h3
  generalize (2 * F+1) * x.d=M at *
  have h5:=tR k 2 ⟨by omega,by omega⟩ (by decide) (by decide)
  have hsq:=hs.2.2.2
  have hsq0:=hs.2.2.1
  have hro:=Nz (x:=x) (n:=k / 2) hES (by omega)
  have h6:=Kb x (k / 2) hES ⟨by omega,by omega⟩
  have hok:k % 2=0∨k % 2=1:=by omega
  have hk2:k=2 * (k / 2)+k % 2:=by omega
  generalize k / 2=m at *
  generalize k % 2=o at *
  generalize x.q * x.q * x.r=A at *
  refine aI Tryz.func215 [.tmp 4] ?_
  repeat' (first|((with_reducible refine cd (id:=1) (fun K hW => ?_));(try simp (maxSteps:=999999)(disch:=omega) only [go_sem]);and_intros;all_goals first|(refine hK _ ?_;clear hK K)|try exact aa)|((first|refine aj (fun K hK => ?_)|refine ae (h1) ?_);and_intros;all_goals first|(refine hK _ ?_;clear hK K)|try exact aa))
  refine hW _ (bg [(1, .b (cq F)),(2, .b (.c (.ptr 0 0))),(5, .b (.c (.ptr 1 0)))] [(0, .fix ((oB x).map CV.p)),(1, .fix ((qE (2 * x.p)).map CV.p))] 2) ?_ ?_
  ·refine aE [(1,some 1)] ?_ ?_
   and_intros
   all_goals first|exact aw|skip
  clear hW
  refine iN (id:=2) (.br 0 (.br 1 (.br 2 (.br 3 (.br 4 (.br 6 (.br 5 (.br 7 (.br 8 (.br 9 (.br 10 (.br 11 (.br 12 (.br 13 .leaf .nil) .nil) .nil) .nil) .nil) .nil) (.br 11 (.br 7 (.br 8 (.br 9 (.br 10 (.br 12 (.br 13 .leaf .nil) .nil) .nil) .nil) .nil) .nil) .nil)) (.br 11 (.br 5 (.br 7 (.br 8 (.br 9 (.br 10 (.br 12 (.br 13 .leaf .nil) .nil) .nil) .nil) .nil) .nil) .nil) .nil)) .nil) .nil) .nil) .nil) .nil) .nil) (by decide +kernel) (by (first|(refine And.intro (fun iw hiw => ?_) ?_;(focus ((try simp (maxSteps:=999999)(disch:=omega) only [go_sem] at hiw ⊢);(repeat (refine Eq.trans (if_neg ?_) ?_;(focus omega)));(first|exact hw iw (by omega)|rfl)));(focus (first|exact Nat.zero_le _|(simp (maxSteps:=999999)(disch:=omega) only [go_sem];done)|(simp (maxSteps:=999999)(disch:=omega) only [go_sem];omega))))|exact cS)) (fun K0 hW => ?_)
  refine (fun (tl:∀ st,Le st (bg [(2, .b (.c (.ptr 0 0))),(7, .b (.c (.ptr 1 0))),(8, .b (B true))] [(0, .fix ((oB x).map CV.p)),(1, .fix ((qE k).map CV.p))] 2)→K0 st) => ?_) (fun st hl=>hW st _ hl ?_)
  ·clear hW
   repeat' (first|exact cE|(refine dA (fun K' hK' => ?_) ?_)|(refine cj (tl _ ?_);clear tl)|((first|refine ae (h2) ?_|refine ae (h3) ?_);(try simp (maxSteps:=999999)(disch:=omega) only [go_sem]);and_intros;(all_goals first|(refine hK' _ ?_;clear hK' K')|trivial|omega|exact Nat.le_of_ble_eq_true rfl|exact aa|skip))|(simp (maxSteps:=999999)(disch:=omega) only [go_sem];and_intros;(all_goals first|(refine hK' _ ?_;clear hK' K')|trivial|omega|exact Nat.le_of_ble_eq_true rfl|exact aa|skip)))
   all_goals
    refine aE [(1,some 2)] ?_ ?_
    and_intros
    all_goals first|exact aw|skip
  clear hW
  by_cases c1:m / 18446744073709551616>0
  ·have g1:decide (m / 18446744073709551616>0)=true:=decide_eq_true c1
   have hmm:18446744073709551616 * 18446744073709551616≤m * m:=aJ (by omega) (by omega) (by decide) (by omega)
   have hb:b=false:=by
    rw [← Bool.not_eq_true,hu]
    rintro (q|⟨_,q⟩)
    ·omega
    ·split at q <;> omega
   rw [hb]
   repeat' (first|with_reducible exact aK|refine ak g1 ?_|refine an ?_|((first|refine aj (fun K hK => ?_)|refine ae (h5) ?_);and_intros;all_goals first|(refine hK _ ?_;clear hK K)|try exact aa)|(refine ai ?_;(try clear hB KB);(try clear hK K)))
  ·have g1:decide (m / 18446744073709551616>0)=false:=decide_eq_false c1
   rcases hok with rfl|rfl
   ·have g2:((0:Int) == 0)=true:=rfl
    rw [if_pos rfl] at hu
    have hb:b=decide (wX x m≥0):=by
     rw [Bool.eq_iff_iff,hu,decide_eq_true_eq,ge_iff_le,hro]
     constructor
     ·rintro (q|q)
      ·have:m=0:=by omega
       rw [this];exact hsq0
      ·exact q.2
     ·intro q
      rcases Decidable.em (k≤0) with w|w
      ·exact .inl w
      ·exact .inr ⟨by omega,q⟩
    rw [hb]
    repeat' (first|with_reducible exact aK|refine ak (And.intro g1 g2) ?_|refine an ?_|((first|refine aj (fun K hK => ?_)|refine ae (h5) ?_|refine ae (h6) ?_);and_intros;all_goals first|(refine hK _ ?_;clear hK K)|try exact aa)|(refine ai ?_;(try clear hB KB);(try clear hK K)))
    all_goals skip
   ·have g2:((1:Int) == 0)=false:=rfl
    rw [if_neg (by decide)] at hu
    have hmm:0≤m * m∧m * m≤18446744073709551615 * 18446744073709551615:=⟨az (by omega) (by omega),aJ (by omega) (by omega) (by omega) (by omega)⟩
    have h7:=jm (m % 18446744073709551616) (m % 18446744073709551616) ⟨by omega,by omega⟩ ⟨by omega,by omega⟩
    rw [show m % 18446744073709551616 * (m % 18446744073709551616)=m * m by rw [show m % 18446744073709551616=m by omega]] at h7
    have h8:=qn (m * m) m hmm.1 (by omega) (by omega)
    have h9:=ze A (m * m+m)
    have hb:b=decide (kV A (m * m+m)>0):=by
     rw [Bool.eq_iff_iff,hu,decide_eq_true_eq]
     unfold kV
     constructor
     ·rintro (q|q)
      ·omega
      ·rw [if_neg (by omega),if_neg (by omega)];decide
     ·intro q
      refine .inr ⟨by omega, ?_⟩
      split at q
      ·omega
      split at q <;> omega
    rw [hb]
    generalize m * m=mm at *
    repeat' (first|refine ak (And.intro g1 g2) ?_|refine an ?_|((first|refine aj (fun K hK => ?_)|refine ae (h5) ?_);and_intros;all_goals first|(refine hK _ ?_;clear hK K)|try exact aa))
    refine iN (id:=10) (.br 0 (.br 1 (.br 2 (.br 3 (.br 5 (.br 4 (.br 6 (.br 7 (.br 8 (.br 9 (.br 10 (.br 11 (.br 12 .leaf .nil) .nil) .nil) .nil) .nil) .nil) (.br 10 (.br 6 (.br 7 (.br 8 (.br 9 (.br 11 (.br 12 .leaf .nil) .nil) .nil) .nil) .nil) .nil) .nil)) (.br 10 (.br 4 (.br 6 (.br 7 (.br 8 (.br 9 (.br 11 (.br 12 .leaf .nil) .nil) .nil) .nil) .nil) .nil) .nil) .nil)) .nil) .nil) .nil) .nil) .nil) (by decide +kernel) (by (first|(refine And.intro (fun iw hiw => ?_) ?_;(focus ((try simp (maxSteps:=999999)(disch:=omega) only [go_sem] at hiw ⊢);(repeat (refine Eq.trans (if_neg ?_) ?_;(focus omega)));(first|exact hw iw (by omega)|rfl)));(focus (first|exact Nat.zero_le _|(simp (maxSteps:=999999)(disch:=omega) only [go_sem];done)|(simp (maxSteps:=999999)(disch:=omega) only [go_sem];omega))))|exact cS)) (fun K0 hW => ?_)
    refine (fun (tl:∀ st,Le st (bg [(2, .b (.c (.ptr 0 0))),(8, .b (B true)),(12, .b (.c (.ptr 1 0)))] [(0, .fix ((oB x).map CV.p)),(1, .fix ((qE (mm+m)).map CV.p))] 2)→K0 st) => ?_) (fun st hl=>hW st _ hl ?_)
    ·clear hW
     repeat' (first|exact cE|(refine dA (fun K' hK' => ?_) ?_)|(refine cj (tl _ ?_);clear tl)|((first|refine ae (h7) ?_|refine ae (h8) ?_);(try simp (maxSteps:=999999)(disch:=omega) only [go_sem]);and_intros;(all_goals first|(refine hK' _ ?_;clear hK' K')|trivial|omega|exact Nat.le_of_ble_eq_true rfl|exact aa|skip))|(simp (maxSteps:=999999)(disch:=omega) only [go_sem];and_intros;(all_goals first|(refine hK' _ ?_;clear hK' K')|trivial|omega|exact Nat.le_of_ble_eq_true rfl|exact aa|skip)))
     all_goals
      refine aE [(1,some 3)] ?_ ?_
      and_intros
      all_goals first|exact aw|skip
    clear hW
    repeat' (first|(((with_reducible refine bC (id:=11) [] (by decide +kernel) (by decide +kernel) ?_ (fun K hK => ?_));(first|(refine And.intro (fun iw hiw => ?_) ?_;(focus ((try simp (maxSteps:=999999)(disch:=omega) only [go_sem] at hiw ⊢);(repeat (refine Eq.trans (if_neg ?_) ?_;(focus omega)));(first|exact hw iw (by omega)|rfl)));(focus (first|exact Nat.zero_le _|(simp (maxSteps:=999999)(disch:=omega) only [go_sem];done)|(simp (maxSteps:=999999)(disch:=omega) only [go_sem];omega))))|exact cS));(try simp (maxSteps:=999999)(disch:=omega) only [go_sem]);and_intros;(all_goals first|(refine hK _ (by simp (maxSteps:=999999)(disch:=omega) only [go_sem]) ?_;clear hK K)|exact aa|skip))|((first|refine aq (fun hg=>hq) ?_|refine aq (fun hg=>h9) ?_);and_intros;all_goals first|(refine hK _ ?_;clear hK K)|try exact aa))
    refine hK _ (by simp (maxSteps:=999999)(disch:=omega) only [go_sem]) ?_
    clear hK
    repeat' (first|with_reducible exact aK|(refine ai ?_;(try clear hB KB);(try clear hK K)))
    all_goals skip
theorem sv (x:Ex) (h:ExOk x):aF Sg 200 [ag (oB x)] (fun r=>r = .tup [cq (hx x),B true]):=by
 have hf:=GQ x h
 have hu:=Vp x h
 obtain ⟨_,_,f0,f1⟩:=iJ h
 unfold hx
 generalize oA x 2 (2 * dz x+1)=b at *
 generalize dz x=F at *
 cases b
 ·have g1:decide (F≥9223372036854775808)=false:=decide_eq_false (by omega)
  have g0:false=false:=rfl
  refine aI Tryz.func200 [.tmp 2, .tmp 3] ?_
  repeat' (first|with_reducible exact aK|refine ak (And.intro g1 g0) ?_|refine an ?_|((first|refine aj (fun K hK => ?_)|refine ae (hf) ?_|refine ae (hu) ?_);and_intros;all_goals first|(refine hK _ ?_;clear hK K)|try exact aa)|(refine ai ?_;(try clear hB KB);(try clear hK K)))
  all_goals skip
 ·have g1:decide (F+1≥9223372036854775808)=false:=decide_eq_false (by omega)
  have g0:true=true:=rfl
  refine aI Tryz.func200 [.tmp 2, .tmp 3] ?_
  repeat' (first|with_reducible exact aK|refine ak (And.intro g1 g0) ?_|refine an ?_|((first|refine aj (fun K hK => ?_)|refine ae (hf) ?_|refine ae (hu) ?_);and_intros;all_goals first|(refine hK _ ?_;clear hK K)|try exact aa)|(refine ai ?_;(try clear hB KB);(try clear hK K)))
  all_goals skip
end Go.Proofs.YtcbifofjjpfbcaaGreatDoor
