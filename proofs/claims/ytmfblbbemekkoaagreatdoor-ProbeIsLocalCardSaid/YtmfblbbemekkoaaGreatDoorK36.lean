/- Part of the proof: Z6, Z7, Z8, L1, L6. -/
import Derived.Test.YtmfblbbemekkoaaGreatDoorK34
import Derived.Test.YtmfblbbemekkoaaGreatDoorK35
set_option linter.unusedSimpArgs false
set_option linter.unusedVariables false
set_option maxHeartbeats 4000000
set_option maxRecDepth 16000
namespace Go.Proofs.YtmfblbbemekkoaaGreatDoor
open Go Go.SL
open Go.RowKit (wrap64)
attribute [local go_sem] qm
theorem Bi (s:Script) (x y:Int) (E:EvOk s) (hx:i64 x) (hy:i64 y):aD Sg 28 [ag (aM s),I x,I y] (fun r=>r = .tup [.c (.p (if fw s x y=0 then Ew (gC s x y) else .val (.slice none 0 0))),I (fw s x y)]):=by
 have ht:True:=trivial
 have h1:=tc s x y E
 by_cases h0:fw s x y=0
 ·rw [if_pos h0]
  have C:=E.pt h0
  have h2:=fun bx=>Cr s x y _ C E.len hx hy bx
  have e:gC s x y=cW (bz s.bits) (bI s x y) s.ops s.ops.length:=by unfold gC;rw [if_pos h0]
  rw [e]
  rw [h0] at h1 ⊢
  generalize cW (bz s.bits) (bI s x y) s.ops s.ops.length=L at *
  generalize dF s x y=q at *
  refine lv ?_
  refine xJ Tryz.func28 rfl (rs:=[.tmp 6, .tmp 7]) rfl rfl dZ (by decide +kernel) (Nat.le_of_ble_eq_true rfl) (bL (by simp (maxSteps:=999999)(disch:=omega) only [go_sem])) ?_
  repeat' (first|refine aj ht ?_|refine ak ?_|((first|refine ai (fun K hK => ?_)|refine ae (h1) ?_);and_intros;all_goals first|(refine hK _ ?_;clear hK K)|try exact aa))
  refine dd (h2 _ ?_ ?_) rfl ?_ ?_ ?_
  ·(first|(simp (maxSteps:=999999)(disch:=omega) only [go_sem];done)|(simp (maxSteps:=999999)(disch:=omega) only [go_sem];rfl))
  ·intro iw hiw
   simp (maxSteps:=999999)(disch:=omega) only [go_sem]
   repeat (refine Eq.trans (if_neg ?_) ?_;(focus omega))
   rfl
  ·intro iw hiw
   unfold aA
   rw [if_neg (by omega),if_neg (by omega)]
  ·exact Nat.le_of_ble_eq_true rfl
  simp (maxSteps:=999999)(disch:=omega) only [go_sem]
  refine hK _ ?_
  clear hK
  repeat' (first|(refine ai (fun K hK => ?_);and_intros;all_goals first|(refine hK _ ?_;clear hK K)|try exact aa)|(refine an ?_;(try clear hB KB);(try clear hK K)))
  exact lg ⟨oW (PV.le_refl _),oW (PV.le_refl _),trivial⟩
 ·rw [if_neg h0]
  have g0:(fw s x y != 0)=true:=by rw [bne_iff_ne];exact h0
  refine aC Tryz.func28 [.tmp 6, .tmp 7] ?_
  repeat' (first|with_reducible exact cn|refine aj g0 ?_|refine ak ?_|((first|refine ai (fun K hK => ?_)|refine ae (h1) ?_);and_intros;all_goals first|(refine hK _ ?_;clear hK K)|try exact aa)|(refine an ?_;(try clear hB KB);(try clear hK K)))
end Go.Proofs.YtmfblbbemekkoaaGreatDoor
set_option maxHeartbeats 8000000
set_option maxRecDepth 16000
namespace Go.Proofs.YtmfblbbemekkoaaGreatDoor
open Go Go.SL
open Go.RowKit (wrap64)
attribute [local go_sem] cB Int.toNat_natCast cO
theorem AF (m:Int) (L:List Mic) (hm:Full m) (hl:L.length≤100000) (hS:fA m none L):aD Sg 31 [U m, .c (.p (Ew L))] (fun r=>r = .b (B true)):=by
 have e:∀ n:Int,(n != n)=false:=fun n=>by simp
 have e2:∀ n:Int,(n == n)=true:=fun n=>by simp
 have ht:True:=trivial
 refine aC Tryz.func31 [.tmp 4] ?_
 repeat' (first|refine ak ?_|(refine ai (fun K hK => ?_);and_intros;all_goals first|(refine hK _ ?_;clear hK K)|try exact aa))
 refine aS (X:=Nat) (fun i=>aZ [(0, .b (U m)),(1, .b (.c (.p (Ew L)))),(9, .b (.c (.p (Ew L)))),(10, .b (I L.length)),(11, .b (I i))] [] 1) (fun i=>i≤L.length) (fun i=>L.length - i) 0 ?_ ?_ ?_
 ·omega
 ·refine ay [] ?_ ?_
  and_intros
  all_goals first|exact ao|skip
 ·intro i hi
  rcases Nat.lt_or_ge i L.length with h|h
  ·have hst:=vY hS i h
   rcases hst with (hk|hk|hk)|⟨hk,hp⟩
   ·repeat' (first|refine aj hk ?_|refine ak ?_|(refine ai (fun K hK => ?_);and_intros;all_goals first|(refine hK _ ?_;clear hK K)|try exact aa)|(refine bc (fun hb => ?_) (fun hb => ?_);all_goals try exact aJ))
    rw [ah]
    refine au (i+1) ?_ (by omega) (by omega)
    refine ay [] ?_ ?_
    and_intros
    all_goals first|exact ao|skip
   ·repeat' (first|refine aj hk ?_|refine ak ?_|(refine ai (fun K hK => ?_);and_intros;all_goals first|(refine hK _ ?_;clear hK K)|try exact aa)|(refine bc (fun hb => ?_) (fun hb => ?_);all_goals try exact aJ))
    rw [ah]
    refine au (i+1) ?_ (by omega) (by omega)
    refine ay [] ?_ ?_
    and_intros
    all_goals first|exact ao|skip
   ·repeat' (first|refine aj hk ?_|refine ak ?_|(refine ai (fun K hK => ?_);and_intros;all_goals first|(refine hK _ ?_;clear hK K)|try exact aa)|(refine bc (fun hb => ?_) (fun hb => ?_);all_goals try exact aJ))
    rw [ah]
    refine au (i+1) ?_ (by omega) (by omega)
    refine ay [] ?_ ?_
    and_intros
    all_goals first|exact ao|skip
   ·cases i with
    | zero=>rw [if_pos rfl] at hp;cases hp
    | succ i =>
     rw [if_neg (by omega)] at hp
     have hp:(L.getD i default).out=(L.getD (i+1) default).inp:=Option.some.inj hp
     have g0:(((i+1:Nat):Int) == 0)=false:=by rw [beq_eq_false_iff_ne];omega
     rcases hk with ⟨hk,hv,k0,k1,ho⟩|hk
     ·have hs:=gO (L.getD (i+1) default).inp (L.getD (i+1) default).k m hm hv k0 k1
      rw [← ho] at hs
      have hq:(L.getD (i+1) default).inp=(L.getD i default).out:=hp.symm
      rcases hk with hk|hk
      ·repeat' (first|refine aj (And.intro hk (And.intro g0 (And.intro hq (And.intro e2 e)))) ?_|refine ak ?_|((first|refine ai (fun K hK => ?_)|refine ae (hs) ?_);and_intros;all_goals first|(refine hK _ ?_;clear hK K)|try exact aa)|(refine bc (fun hb => ?_) (fun hb => ?_);all_goals try exact aJ))
       rw [ah]
       refine au (i+1+1) ?_ (by omega) (by omega)
       refine ay [] ?_ ?_
       and_intros
       all_goals first|exact ao|skip
      ·repeat' (first|refine aj (And.intro hk (And.intro g0 (And.intro hq (And.intro e2 e)))) ?_|refine ak ?_|((first|refine ai (fun K hK => ?_)|refine ae (hs) ?_);and_intros;all_goals first|(refine hK _ ?_;clear hK K)|try exact aa)|(refine bc (fun hb => ?_) (fun hb => ?_);all_goals try exact aJ))
       rw [ah]
       refine au (i+1+1) ?_ (by omega) (by omega)
       refine ay [] ?_ ?_
       and_intros
       all_goals first|exact ao|skip
     ·have hq:(L.getD (i+1) default).inp=(L.getD i default).out:=hp.symm
      repeat' (first|refine aj (And.intro hk (And.intro g0 (And.intro hq (And.intro e2 e)))) ?_|refine ak ?_|(refine ai (fun K hK => ?_);and_intros;all_goals first|(refine hK _ ?_;clear hK K)|try exact aa)|(refine bc (fun hb => ?_) (fun hb => ?_);all_goals try exact aJ))
      rw [ah]
      refine au (i+1+1) ?_ (by omega) (by omega)
      refine ay [] ?_ ?_
      and_intros
      all_goals first|exact ao|skip
  ·repeat' (first|with_reducible exact cn|refine ak ?_|(refine ai (fun K hK => ?_);and_intros;all_goals first|(refine hK _ ?_;clear hK K)|try exact aa)|(refine bc (fun hb => ?_) (fun hb => ?_);all_goals try exact aJ)|(refine an ?_;(try clear hB KB);(try clear hK K)))
end Go.Proofs.YtmfblbbemekkoaaGreatDoor
set_option maxHeartbeats 8000000
set_option maxRecDepth 16000
namespace Go.Proofs.YtmfblbbemekkoaaGreatDoor
open Go Go.SL
open Go.RowKit (wrap64)
def PQ:Pixel:=⟨1,2,3,255,255⟩
def QV:Image := { w:=1,h:=1,solid:=true,color:=PQ,p0:=⟨0,0,0,[]⟩,p1:=⟨0,0,0,[]⟩,p2:=⟨0,0,0,[]⟩,p3:=⟨0,0,0,[]⟩,p4:=⟨0,0,0,[]⟩ }
def Rg:Op := { kind:=1,image:=0,x:=1,y:=0,mask:=0,maskX:=0,maskY:=0,opacity:=255,operator:=4,mode:=1,isolated:=false,knockout:=false }
def Al:Script := { bits:=8,canvas:=⟨0,0,2,1⟩,tileW:=1,tileH:=1,order:=[],images:=[QV],ops:=[Rg] }
theorem zF:EvOk Al:=⟨⟨by decide,by decide,by decide⟩,fun o ho=>by rw [List.mem_singleton.1 ho];decide,fun _ m hm=>by rw [List.mem_singleton.1 hm];exact ⟨.inr (.inr rfl),by decide,by decide,by decide⟩⟩
theorem Qo:fw Al 1 0=0∧fw Al 0 0=0∧mQ Al 1 0=PQ∧mQ Al 0 0=aG∧(gC Al 1 0).length=3∧bz Al.bits=255:=by decide +kernel
theorem Cw:aD Sg 21 [] (fun r=>r = .b (B true)):=by
 have ht:True:=trivial
 obtain ⟨e1,e2,e3,e4,e5,e6⟩:=Qo
 have h1:=mT Al 1 0 zF ⟨by decide,by decide⟩ ⟨by decide,by decide⟩
 have h2:=mT Al 0 0 zF ⟨by decide,by decide⟩ ⟨by decide,by decide⟩
 have h3:=Bi Al 1 0 zF ⟨by decide,by decide⟩ ⟨by decide,by decide⟩
 have C:=zF.pt e1
 have hS:fA 255 none (gC Al 1 0):=by
  rw [(wV C).2.2,e6]
  rw [e6] at C
  exact oY C _ (Nat.le_refl _)
 have h4:=AF 255 (gC Al 1 0) ⟨.inl rfl⟩ (by rw [e5];decide) hS
 rw [e1,e3] at h1
 rw [e2,e4] at h2
 rw [e1,if_pos rfl] at h3
 unfold Ew at h3 h4
 rw [e5] at h3 h4
 generalize bd cB (gC Al 1 0)=G at *
 refine aC Tryz.func21 [.tmp 0] ?_
 repeat' (first|((with_reducible refine aT (id:=2) (fun K hW => ?_));(try simp (maxSteps:=999999)(disch:=omega) only [go_sem]);and_intros;all_goals first|(refine hK _ ?_;clear hK K)|try exact aa)|(refine ai (fun K hK => ?_);and_intros;all_goals first|(refine hK _ ?_;clear hK K)|try exact aa))
 refine hW _ (aZ [(0, .b (B false)),(1, .b (.c (.ptr 0 0))),(2, .b (.c (.ptr 1 0)))] [(0, .fix ((aH PQ).map CV.p)),(1, .fix ((aM Al).map CV.p))] 2) ?_ ?_
 ·refine ay [(1,some 3)] ?_ ?_
  and_intros
  all_goals first|exact ao|skip
  ·exact iY
  ·intro i hi j hj
   have hi0:i=0:=by omega
   subst hi0
   have hivl:j=0∨j=1∨j=2∨j=3∨j=4∨j=5∨j=6∨j=7∨j=8∨j=9∨j=10∨j=11∨j=12∨j=13∨j=14∨j=15∨j=16∨j=17∨j=18∨j=19∨j=20∨j=21∨j=22∨j=23∨j=24∨j=25∨j=26∨j=27:=by omega
   rcases hivl with rfl|rfl|rfl|rfl|rfl|rfl|rfl|rfl|rfl|rfl|rfl|rfl|rfl|rfl|rfl|rfl|rfl|rfl|rfl|rfl|rfl|rfl|rfl|rfl|rfl|rfl|rfl|rfl <;> (first|exact PV.le_refl _|exact iY)
  ·intro i hi j hj
   have hi0:i=0:=by omega
   subst hi0
   have hivl:j=0∨j=1∨j=2∨j=3∨j=4∨j=5∨j=6∨j=7∨j=8∨j=9∨j=10∨j=11:=by omega
   rcases hivl with rfl|rfl|rfl|rfl|rfl|rfl|rfl|rfl|rfl|rfl|rfl|rfl <;> (exact PV.le_refl _)
 clear hW
 repeat' (first|((first|refine ai (fun K hK => ?_)|refine wO ?_|refine ae (h1) ?_|refine ae (h2) ?_|refine ae (h3) ?_|refine aE (fun hg=>h4) ?_);and_intros;all_goals first|(refine hK _ ?_;clear hK K)|try exact aa)|(refine an ?_;(try clear hB KB);(try clear hK K)))
 rfl
end Go.Proofs.YtmfblbbemekkoaaGreatDoor
set_option maxHeartbeats 4000000
set_option maxRecDepth 16000
namespace Go.Proofs.YtmfblbbemekkoaaGreatDoor
open Go Go.SL
open Go.RowKit (wrap64)
attribute [local go_sem] Int.toNat_natCast
theorem Of.sl {c:Scene} {s:Script} (h:Of c s):ScriptLen s:=by
 have h1:=(wj c).order
 exact ⟨by rw [h.o];exact h1,Nat.le_trans h.n2 (by decide),Nat.le_trans h.V.cnt (by decide)⟩
theorem Kw {m:Image} {mx:Int} (h:ImgV m mx):EB m:=by
 cases hs:m.solid with
 | true=>have p:=tz h hs;exact ⟨p.n0,p.n1,p.n2⟩
 | false =>
  have hf:=h.f
  unfold aW at hf
  simp only [hs,Bool.and_eq_true,Bool.false_or,decide_eq_true_eq] at hf
  have e:m.color=aG:=by simp_all
  unfold EB
  rw [e]
  exact ⟨by decide,by decide,by decide⟩
theorem Of.ev {c:Scene} {s:Script} (h:Of c s):EvOk s:=⟨h.sl,h.op,fun _ m hm=>by
 obtain ⟨i,hi,rfl⟩:=List.mem_iff_getElem.1 hm
 have:=h.im i (by omega) (by omega)
 unfold fS at this
 rw [Int.toNat_natCast,List.getD_eq_getElem?_getD,List.getElem?_eq_getElem hi] at this
 exact ⟨.inl this,Kw this⟩⟩
theorem MI {r:Rect} (hr:Small r) (x y:Int):i64 (EI r x)∧i64 (Dn r y):=by
 obtain ⟨i1,i2,i3,i4⟩:=Jm hr x y
 obtain ⟨x0,x1,y0,y1,hw,hh⟩:=hr
 exact ⟨⟨by omega,by omega⟩,⟨by omega,by omega⟩⟩
end Go.Proofs.YtmfblbbemekkoaaGreatDoor
set_option maxHeartbeats 4000000
set_option maxRecDepth 16000
namespace Go.Proofs.YtmfblbbemekkoaaGreatDoor
open Go Go.SL
open Go.RowKit (wrap64)
attribute [local go_sem] Int.toNat_natCast
def fP (d:Scene) (i:Nat):Row:=if i<d.pics.length then (d.pics.getD i default).row else ⟨0,[]⟩
theorem DR {d:Scene} (hd:SceneOk d) (i:Nat):RowOk (fP d i):=by
 unfold fP
 split
 ·rename_i h;exact (hd.pic i h).row
 ·exact ⟨⟨by decide,by decide⟩,fun i hi=>absurd hi (Nat.not_lt_zero i),Nat.zero_le _⟩
def jF (s:Script) (i:Nat):Nat:=(s.images.getD i default).h.toNat * (s.images.getD i default).w.toNat
def LK (u v mx:Int) (i:Nat):List (Nat × SV):=[(5, .b (.c (.ptr 1 0))),(8, .b (B false)),(9, .b (.c (.ptr 2 0))),(10, .b (I u)),(11, .b (I v)),(12, .b (.c (.ptr 3 0))),(13, .b (U mx)),(15, .b (I i))]
def Mu (s:Script) (d:Scene) (u v mx:Int) (n:Nat):List Image:=(List.range n).map (mg s u v fun i=>aL (fP d i) (jF s i) mx)
def PP (s:Script) (d:Scene) (u v mx:Int) (i:Nat) (l:List (Nat × Bx)):List (Nat × Bx):=(1, .fix ((eJ d).map CV.p)) :: (2, .fix ((aM s).map CV.p)) ::
 (3, .fix [.p (PI s.bits), .p (PI s.canvas.x0), .p (PI s.canvas.y0), .p (PI s.canvas.x1), .p (PI s.canvas.y1), .p (PI s.tileW), .p (PI s.tileH), .p (eT s.order), .own 4 i, .p (kq s.ops)]) :: (4, .arr 47 28 i (bd aY (Mu s d u v mx i))) :: l
def MO (s:Script) (d:Scene) (u v mx:Int) (i:Nat) (l:List (Nat × Bx)):List (Nat × Bx):=PP s d u v mx i ((5, .fix ((aY (s.images.getD i default)).map CV.p)) :: l)
attribute [local go_sem] LK PP MO
theorem Fk {r:Row} {N:Nat} {m:Int}:(aL r N m).length=N:=by simp [aL]
theorem Nq {r:Row} {N:Nat} {m:Int} (h:0≤m):∀ p ∈ aL r N m,PixV p m:=fun p hp=>by
 unfold aL at hp
 obtain ⟨i,_,rfl⟩:=List.mem_map.1 hp
 exact yQ r i h
theorem AT {m:Image} {l k:List Pixel} {i n:Nat} {u v:Int} {ops:List Op} (hn:n<ops.length):ft m l i u v k (ops.take (n+1))=eR m l i u v (ft m l i u v k (ops.take n)) (ops.getD n default):=by
 unfold ft
 rw [List.take_add_one,List.getElem?_eq_getElem hn,List.foldl_append,List.getD_eq_getElem?_getD,List.getElem?_eq_getElem hn]
 rfl
theorem Fp {c:Scene} {s:Script} (h:Of c s) {m u v:Int} (C:Pt s m u v) {g:Nat→List Pixel} (hg:∀ i,i<s.images.length→(g i).length=jF s i) (hp:∀ i,i<s.images.length→∀ p ∈ g i,PixV p m):Of c (fy s u v g s.images.length):=by
 have hl:(fy s u v g s.images.length).images.length=s.images.length:=by simp [fy]
 exact ⟨h.b,h.cv,h.w,h.h,h.o,by rw [hl];exact h.n1,by rw [hl];exact h.n2,Ib C hg hp,⟨h.V.wf,fun i hi=>by rw [hl];exact h.V.ok i hi,by rw [hl];exact h.V.imgs,h.V.cnt,Dv h.b h.cv h.w h.h h.o (by rw [hl];have:=h.n2;omega) (by have:=h.V.cnt;exact this)⟩,h.op⟩
theorem yW (c d:Scene) (hc:SceneOk c) (hd:SceneOk d) (x y:Int):aD Sg 8 [ag (eJ c),ag (eJ d),I x,I y] (fun r=>r = .b (B true)):=by
 have ht:True:=trivial
 have hg:=vr c hc
 have hO:=PN c
 have E:=hO.ev
 have hsm:Small (ax c).canvas:=cm c
 have hin:=Jm hsm x y
 have hp:=Fs (ax c).canvas x y hsm
 have hi:=MI hsm x y
 have C:=hO.pt (x:=EI (ax c).canvas x) (y:=Dn (ax c).canvas y) hin
 have hsz:=fun k hk=>IF c (k:=k) hk
 have htm:∀ o ∈ (ax c).ops,OpTame (ck c.bits) o:=(jH c).tame
 have hcnt:=hO.V.cnt
 have hn2:=hO.n2
 have hmu:=jY c.bits
 have huv : -100≤EI (ax c).canvas x∧EI (ax c).canvas x≤100 ∧ -100≤Dn (ax c).canvas y∧Dn (ax c).canvas y≤100:=by
  obtain ⟨b1,b2,b3,b4,b5,b6⟩:=hsm
  obtain ⟨i1,i2,i3,i4⟩:=hin
  have hcx : -6≤(ar c).x0∧(ar c).x0≤6 ∧ -6≤(ar c).y0∧(ar c).y0≤6:=by
   unfold ar
   dsimp only
   omega
  have i1:(ar c).x0≤EI (ax c).canvas x:=i1
  have i2:EI (ax c).canvas x<(ar c).x1:=i2
  have i3:(ar c).y0≤Dn (ax c).canvas y:=i3
  have i4:Dn (ax c).canvas y<(ar c).y1:=i4
  have b5:1≤(ar c).x1 - (ar c).x0∧(ar c).x1 - (ar c).x0≤5:=b5
  have b6:1≤(ar c).y1 - (ar c).y0∧(ar c).y1 - (ar c).y0≤4:=b6
  omega
 generalize EI (ax c).canvas x=u at *
 generalize Dn (ax c).canvas y=v at *
 have h3:aD Sg 25 [I (ax c).bits] (fun x=>x = .tup [U (ck c.bits),B (decide ((ax c).bits=8∨(ax c).bits=16))]):=by
  have:=wG (ax c).bits
  rw [show (if (ax c).bits=8 then (255:Int) else if (ax c).bits=16 then 65535 else 0)=bz (ax c).bits from rfl,C.mx] at this
  exact this
 have hgl:∀ i,i<(ax c).images.length→(aL (fP d i) (jF (ax c) i) (ck c.bits)).length=jF (ax c) i:=fun i _=>Fk
 have hgv:∀ i,i<(ax c).images.length→∀ p ∈ aL (fP d i) (jF (ax c) i) (ck c.bits),PixV p (ck c.bits):=fun i _=>Nq (by omega)
 have hT:=Fp hO C hgl hgv
 have hval:=vB C hgl
 have D:=hT.pt (x:=u) (y:=v) hin
 have h1:=mT (ax c) u v E hi.1 hi.2
 have h2:=mT (fy (ax c) u v (fun i=>aL (fP d i) (jF (ax c) i) (ck c.bits)) (ax c).images.length) u v hT.ev hi.1 hi.2
 rw [(wV C).1,(wV C).2.1] at h1
 rw [(wV D).1,(wV D).2.1,← hval] at h2
 have hso:=uJ (ax c).ops (ax c).ops (by omega) (by omega)
 rw [decide_eq_true rfl] at hso
 have haw:=Cw
 have hform:=fun i hi=>Em hO (i:=i) hi
 generalize dF (ax c) u v=w at *
 generalize ck c.bits=mx at *
 generalize hS:ax c=s at *
 refine aC Tryz.func8 [.tmp 8] ?_
 repeat' (first|((with_reducible refine aT (id:=5) (fun K hW => ?_));(try simp (maxSteps:=999999)(disch:=omega) only [go_sem]);and_intros;all_goals first|(refine hK _ ?_;clear hK K)|try exact aa)|((first|refine ai (fun K hK => ?_)|refine ae (hg) ?_|refine ae (hp) ?_|refine ae (h3) ?_);and_intros;all_goals first|(refine hK _ ?_;clear hK K)|try exact aa))
 refine hW _ (aZ [(5, .b (.c (.ptr 1 0))),(8, .b (B false)),(9, .b (.c (.ptr 2 0))),(10, .b (I u)),(11, .b (I v)),(12, .b (.c (.ptr 3 0))),(13, .b (U mx))] [(1, .fix ((eJ d).map CV.p)),(2, .fix ((aM s).map CV.p)),
  (3, .fix [.p (PI s.bits), .p (PI s.canvas.x0), .p (PI s.canvas.y0), .p (PI s.canvas.x1), .p (PI s.canvas.y1), .p (PI s.tileW), .p (PI s.tileH), .p (eT s.order), .p Ec, .p (kq s.ops)])] 4) ?_ ?_
 ·refine ay [(1,some 1),(2,some 2),(3,some 3)] ?_ ?_
  and_intros
  all_goals first|exact ao|skip
 clear hW
 repeat' (first|refine ak ?_|(refine ai (fun K hK => ?_);and_intros;all_goals first|(refine hK _ ?_;clear hK K)|try exact aa))
 refine aS (X:=Nat) (fun i=>aZ (LK u v mx i) (PP s d u v mx i []) 5) (fun i=>i≤s.images.length) (fun i=>s.images.length - i) 0 ?_ ?_ ?_
 ·omega
 ·refine ay [(1,some 1),(2,some 2),(3,some 3),(4,none)] ?_ ?_
  and_intros
  all_goals first|exact ao|skip
 intro i hi2
 rcases Nat.lt_or_ge i s.images.length with h|h
 ·have g0:decide ((i:Int)<s.images.length)=true:=decide_eq_true (by omega)
  have hf:=hform i h
  have hzi:=hsz i h
  obtain ⟨hfit,b1,b2,b3,b4,b5,b6⟩:=jy hf
  have hpx:=wL (xB (s.images.getD i default) hf)
  have hgp:=wg (fP d i) (jF s i:Nat) mx (DR hd i) (by omega) (by have h20:jF s i≤4 * 5:=Nat.mul_le_mul (by omega) (by omega);omega) (by unfold u16;omega)
  rw [Int.toNat_natCast] at hgp
  have hlen:=Fk (r:=fP d i) (N:=jF s i) (m:=mx)
  have hN:jF s i=(s.images.getD i default).h.toNat * (s.images.getD i default).w.toNat:=rfl
  rw [← hN] at hpx b5 b6
  have hrange:Mu s d u v mx (i+1)=Mu s d u v mx i ++ [mg s u v (fun i=>aL (fP d i) (jF s i) mx) i]:=by
   unfold Mu;rw [List.range_succ,List.map_append];rfl
  have hloc:mg s u v (fun i=>aL (fP d i) (jF s i) mx) i=cY (s.images.getD i default).w (s.images.getD i default).h (ft (s.images.getD i default) (sQ (s.images.getD i default) (jF s i)) i u v (aL (fP d i) (jF s i) mx) s.ops):=rfl
  generalize hG:aL (fP d i) (jF s i) mx=G at *
  generalize hL:sQ (s.images.getD i default) (jF s i)=L at *
  generalize mg s u v (fun i=>aL (fP d i) (jF s i) mx) i=LI at *
  generalize hR:fP d i=R at *
  generalize jF s i=N at *
  have hLl:L.length=N:=by rw [← hL];exact zu
  repeat' (first|refine aj g0 ?_|refine ak ?_|((with_reducible refine aT (id:=12) (fun K hW => ?_));(try simp (maxSteps:=999999)(disch:=omega) only [go_sem]);and_intros;all_goals first|(refine hK _ ?_;clear hK K)|try exact aa)|((first|refine ai (fun K hK => ?_)|refine ae (hpx) ?_);and_intros;all_goals first|(refine hK _ ?_;clear hK K)|try exact aa))
  refine hW _ (aZ ((16, .b (.c (.ptr 5 0))) :: (17, .b (.c (.p (.lst 5 N (bd aH L))))) :: (18, .b (.c (.ptr 6 0))) :: (64, .b (B (decide ((i:Int)<d.pics.length)))) :: LK u v mx i) (MO s d u v mx i [(6, .fix [.p (PI 0), .p Ec])]) 7) ?_ ?_
  ·refine ay [(1,some 1),(2,some 2),(3,some 3),(4,some 4),(5,some 5),(6,some 6)] ?_ ?_
   and_intros
   all_goals first|exact ao|skip
  clear hW
  refine ER (t:=decide ((i:Int)<d.pics.length)) (aZ ((16, .b (.c (.ptr 5 0))) :: (17, .b (.c (.p (.lst 5 N (bd aH L))))) :: (18, .b (.c (.ptr 6 0))) :: LK u v mx i) (MO s d u v mx i [(6, .fix ((yN R).map CV.p))]) 7) ?_ ?_ ?_ ?_
  ·simp (maxSteps:=999999)(disch:=omega) only [go_sem]
  ·intro hb
   have hb2:i<d.pics.length:=by simpa using hb
   have e:R=(d.pics.getD i default).row:=by rw [← hR,fP,if_pos hb2]
   repeat' (refine ai (fun K hK => ?_);and_intros;all_goals first|(refine hK _ ?_;clear hK K)|try exact aa)
   rw [ah]
   refine ⟨_, ?_,rfl⟩
   rw [e]
   refine ay [(1,some 1),(2,some 2),(3,some 3),(4,some 4),(5,some 5),(6,some 6)] ?_ ?_
   and_intros
   all_goals first|exact ao|skip
  ·intro hb
   have hb2:¬ i<d.pics.length:=by simpa using hb
   have e:R=⟨0,[]⟩:=by rw [← hR,fP,if_neg hb2]
   refine uS ?_
   rw [ah]
   refine ⟨_, ?_,rfl⟩
   rw [e]
   refine ay [(1,some 1),(2,some 2),(3,some 3),(4,some 4),(5,some 5),(6,some 6)] ?_ ?_
   and_intros
   all_goals first|exact ao|skip
   all_goals exact iY
  repeat' (first|((with_reducible refine aT (id:=14) (fun K hW => ?_));(try simp (maxSteps:=999999)(disch:=omega) only [go_sem]);and_intros;all_goals first|(refine hK _ ?_;clear hK K)|try exact aa)|(refine JA (hgp) ?_;and_intros;all_goals first|(refine hK _ ?_;clear hK K)|try exact aa))
  refine hW _ (aZ ((16, .b (.c (.ptr 5 0))) :: (17, .b (.c (.p (.lst 5 N (bd aH L))))) :: (19, .b (.c (.own 6 N))) :: LK u v mx i) (MO s d u v mx i [(6, .arr 41 5 N (bd aH (ft (s.images.getD i default) L i u v G (s.ops.take 0))))]) 7) ?_ ?_
  ·refine ay [(1,some 1),(2,some 2),(3,some 3),(4,some 4),(5,some 5),(6,some 7)] ?_ ?_
   and_intros
   all_goals first|exact ao|skip
  clear hW
  repeat' (first|refine ak ?_|(refine ai (fun K hK => ?_);and_intros;all_goals first|(refine hK _ ?_;clear hK K)|try exact aa))
  refine aS (X:=Nat) (fun n=>aZ ((16, .b (.c (.ptr 5 0))) :: (17, .b (.c (.p (.lst 5 N (bd aH L))))) :: (19, .b (.c (.own 6 N))) :: (20, .b (I n)) :: LK u v mx i) (MO s d u v mx i [(6, .arr 41 5 N (bd aH (ft (s.images.getD i default) L i u v G (s.ops.take n))))]) 7) (fun n=>n≤s.ops.length) (fun n=>s.ops.length - n) 0 ?_ ?_ ?_
  ·omega
  ·refine ay [(1,some 1),(2,some 2),(3,some 3),(4,some 4),(5,some 5),(6,some 6)] ?_ ?_
   and_intros
   all_goals first|exact ao|skip
  intro n hn
  rcases Nat.lt_or_ge n s.ops.length with hlt|hge
  ·have g3:decide ((n:Int)<s.ops.length)=true:=decide_eq_true (by omega)
   have hmem:(s.ops.getD n default) ∈ s.ops:=by
    rw [List.getD_eq_getElem?_getD,List.getElem?_eq_getElem hlt];exact List.getElem_mem _
   have hta:=htm _ hmem
   obtain ⟨x1,x2⟩:=hta.x
   obtain ⟨x3,x4⟩:=hta.y
   obtain ⟨x5,x6⟩:=hta.mx
   obtain ⟨x7,x8⟩:=hta.my
   have hst:=AT (m:=(s.images.getD i default)) (l:=L) (k:=G) (i:=i) (u:=u) (v:=v) hlt
   have hkl:(ft (s.images.getD i default) L i u v G (s.ops.take n)).length=N:=by rw [ly];exact hlen
   generalize ft (s.images.getD i default) L i u v G (s.ops.take n)=KK at *
   by_cases c1:(s.ops.getD n default).kind=1∧(s.ops.getD n default).image=i
   ·have g1:(((s.ops.getD n default).kind == 1) && ((s.ops.getD n default).image == (i:Int)))=true:=by rw [c1.1,c1.2];simp
    by_cases c2:(s.ops.getD n default).mask=i+1
    ·have g2:((s.ops.getD n default).mask == (i:Int)+1)=true:=beq_iff_eq.2 c2
     repeat' (first|refine aj (And.intro g3 (And.intro g1 g2)) ?_|refine ak ?_|(refine ai (fun K hK => ?_);and_intros;all_goals first|(refine hK _ ?_;clear hK K)|try exact aa))
     refine lp 6 N (s.images.getD i default) L KK (u - (s.ops.getD n default).x) (v - (s.ops.getD n default).y) ?_ ?_ hLl hkl b5 ⟨b1,b3⟩ ⟨b2,b4⟩ b6 ?_ ?_
     ·(first|(simp (maxSteps:=999999)(disch:=omega) only [go_sem];done)|(simp (maxSteps:=999999)(disch:=omega) only [go_sem];rfl))
     ·exact Nat.le_of_ble_eq_true rfl
     ·intro iw hiw
      (try simp (maxSteps:=999999)(disch:=omega) only [go_sem] at hiw ⊢)
      (repeat (refine Eq.trans (if_neg ?_) ?_;(focus omega)))
      (try rfl)
     simp (maxSteps:=999999)(disch:=omega) only [go_sem]
     refine hK _ ?_
     clear hK
     repeat' (first|refine aj g2 ?_|(refine ai (fun K hK => ?_);and_intros;all_goals first|(refine hK _ ?_;clear hK K)|try exact aa))
     refine lp 6 N (s.images.getD i default) L (gr (s.images.getD i default) L KK (u - (s.ops.getD n default).x) (v - (s.ops.getD n default).y)) (u - (s.ops.getD n default).maskX) (v - (s.ops.getD n default).maskY) ?_ ?_ hLl (by rw [lP];exact hkl) b5 ⟨b1,b3⟩ ⟨b2,b4⟩ b6 ?_ ?_
     ·(first|(simp (maxSteps:=999999)(disch:=omega) only [go_sem];done)|(simp (maxSteps:=999999)(disch:=omega) only [go_sem];rfl))
     ·exact Nat.le_of_ble_eq_true rfl
     ·intro iw hiw
      (try simp (maxSteps:=999999)(disch:=omega) only [go_sem] at hiw ⊢)
      (repeat (refine Eq.trans (if_neg ?_) ?_;(focus omega)))
      (try rfl)
     simp (maxSteps:=999999)(disch:=omega) only [go_sem]
     refine hK _ ?_
     clear hK
     repeat' (first|refine ak ?_|(refine ai (fun K hK => ?_);and_intros;all_goals first|(refine hK _ ?_;clear hK K)|try exact aa))
     rw [ah]
     refine au (n+1) ?_ (by omega) (by omega)
     refine ay [(1,some 1),(2,some 2),(3,some 3),(4,some 4),(5,some 5),(6,some 6)] ?_ ?_
     and_intros
     all_goals first|exact ao|skip
     all_goals exact .inl (by rw [hst];unfold eR;rw [if_pos c2,if_pos c1])
    ·have g2:((s.ops.getD n default).mask == (i:Int)+1)=false:=beq_eq_false_iff_ne.2 c2
     repeat' (first|refine aj (And.intro g3 (And.intro g1 g2)) ?_|refine ak ?_|(refine ai (fun K hK => ?_);and_intros;all_goals first|(refine hK _ ?_;clear hK K)|try exact aa))
     refine lp 6 N (s.images.getD i default) L KK (u - (s.ops.getD n default).x) (v - (s.ops.getD n default).y) ?_ ?_ hLl hkl b5 ⟨b1,b3⟩ ⟨b2,b4⟩ b6 ?_ ?_
     ·(first|(simp (maxSteps:=999999)(disch:=omega) only [go_sem];done)|(simp (maxSteps:=999999)(disch:=omega) only [go_sem];rfl))
     ·exact Nat.le_of_ble_eq_true rfl
     ·intro iw hiw
      (try simp (maxSteps:=999999)(disch:=omega) only [go_sem] at hiw ⊢)
      (repeat (refine Eq.trans (if_neg ?_) ?_;(focus omega)))
      (try rfl)
     simp (maxSteps:=999999)(disch:=omega) only [go_sem]
     refine hK _ ?_
     clear hK
     repeat' (first|refine aj g2 ?_|refine ak ?_|(refine ai (fun K hK => ?_);and_intros;all_goals first|(refine hK _ ?_;clear hK K)|try exact aa))
     rw [ah]
     refine au (n+1) ?_ (by omega) (by omega)
     refine ay [(1,some 1),(2,some 2),(3,some 3),(4,some 4),(5,some 5),(6,some 6)] ?_ ?_
     and_intros
     all_goals first|exact ao|skip
     all_goals exact .inl (by rw [hst];unfold eR;rw [if_neg c2,if_pos c1])
   ·have g1:(((s.ops.getD n default).kind == 1) && ((s.ops.getD n default).image == (i:Int)))=false:=by
     rw [← Bool.not_eq_true]
     simpa using c1
    by_cases c2:(s.ops.getD n default).mask=i+1
    ·have g2:((s.ops.getD n default).mask == (i:Int)+1)=true:=beq_iff_eq.2 c2
     repeat' (first|refine aj (And.intro g3 (And.intro g1 g2)) ?_|refine ak ?_|(refine ai (fun K hK => ?_);and_intros;all_goals first|(refine hK _ ?_;clear hK K)|try exact aa))
     refine lp 6 N (s.images.getD i default) L KK (u - (s.ops.getD n default).maskX) (v - (s.ops.getD n default).maskY) ?_ ?_ hLl hkl b5 ⟨b1,b3⟩ ⟨b2,b4⟩ b6 ?_ ?_
     ·(first|(simp (maxSteps:=999999)(disch:=omega) only [go_sem];done)|(simp (maxSteps:=999999)(disch:=omega) only [go_sem];rfl))
     ·exact Nat.le_of_ble_eq_true rfl
     ·intro iw hiw
      (try simp (maxSteps:=999999)(disch:=omega) only [go_sem] at hiw ⊢)
      (repeat (refine Eq.trans (if_neg ?_) ?_;(focus omega)))
      (try rfl)
     simp (maxSteps:=999999)(disch:=omega) only [go_sem]
     refine hK _ ?_
     clear hK
     repeat' (first|refine ak ?_|(refine ai (fun K hK => ?_);and_intros;all_goals first|(refine hK _ ?_;clear hK K)|try exact aa))
     rw [ah]
     refine au (n+1) ?_ (by omega) (by omega)
     refine ay [(1,some 1),(2,some 2),(3,some 3),(4,some 4),(5,some 5),(6,some 6)] ?_ ?_
     and_intros
     all_goals first|exact ao|skip
     all_goals exact .inl (by rw [hst];unfold eR;rw [if_pos c2,if_neg c1])
    ·have g2:((s.ops.getD n default).mask == (i:Int)+1)=false:=beq_eq_false_iff_ne.2 c2
     repeat' (first|refine aj (And.intro g3 (And.intro g1 g2)) ?_|refine ak ?_|(refine ai (fun K hK => ?_);and_intros;all_goals first|(refine hK _ ?_;clear hK K)|try exact aa))
     rw [ah]
     refine au (n+1) ?_ (by omega) (by omega)
     refine ay [(1,some 1),(2,some 2),(3,some 3),(4,some 4),(5,some 5),(6,some 6)] ?_ ?_
     and_intros
     all_goals first|exact ao|skip
     all_goals exact .inl (by rw [hst];unfold eR;rw [if_neg c2,if_neg c1])
  ·have g3:decide ((n:Int)<s.ops.length)=false:=decide_eq_false (by omega)
   have hn2':n=s.ops.length:=by omega
   subst hn2'
   have hkl:(ft (s.images.getD i default) L i u v G s.ops).length=N:=by rw [ly];exact hlen
   have hio:=mK (s.images.getD i default).w (s.images.getD i default).h (ft (s.images.getD i default) L i u v G s.ops) (by omega)
   have hok:dO (s.images.getD i default).w (s.images.getD i default).h (ft (s.images.getD i default) L i u v G s.ops).length=true:=by
    unfold dO
    rw [hfit,hkl,b5,decide_eq_true rfl];rfl
   rw [kM,if_pos hok,← hloc] at hio
   rw [List.take_length]
   repeat' (first|refine ak ?_|((with_reducible refine aT (id:=16) (fun K hW => ?_));(try simp (maxSteps:=999999)(disch:=omega) only [go_sem]);and_intros;all_goals first|(refine hK _ ?_;clear hK K)|try exact aa))
   refine hW _ (aZ ((16, .b (.c (.ptr 5 0))) :: (19, .b (.c (.p (wc (ft (s.images.getD i default) L i u v G s.ops))))) :: (80, .b (B (decide ((s.ops.length:Int)<s.ops.length)))) :: LK u v mx i) (MO s d u v mx i []) 6) ?_ ?_
   ·refine ay [(1,some 1),(2,some 2),(3,some 3),(4,some 4),(5,some 5)] ?_ ?_
    and_intros
    all_goals first|exact ao|skip
    all_goals first
     | exact hkl.symm
     | exact fun _ _ _ _=>PV.le_refl _
   clear hW
   repeat' (first|refine aj g3 ?_|refine ak ?_|((first|refine ai (fun K hK => ?_)|refine ae (hio) ?_);and_intros;all_goals first|(refine hK _ ?_;clear hK K)|try exact aa))
   rw [ah]
   refine au (i+1) ?_ (by omega) (by omega)
   refine ay [(1,some 1),(2,some 2),(3,some 3),(4,some 8)] ?_ ?_
   and_intros
   all_goals first|exact ao|skip
   have hl1:(Mu s d u v mx i).length=i:=by simp [Mu]
   have key:=fun g hg=>dC (enc:=aY) (xs:=Mu s d u v mx i) (x:=LI) (s:=28) (g:=g) hg
   simp only [hl1,← hrange] at key
   refine .inr (key _ fun j hj => ?_)
   have hivl:j=0∨j=1∨j=2∨j=3∨j=4∨j=5∨j=6∨j=7∨j=8∨j=9∨j=10∨j=11∨j=12∨j=13∨j=14∨j=15∨j=16∨j=17∨j=18∨j=19∨j=20∨j=21∨j=22∨j=23∨j=24∨j=25∨j=26∨j=27:=by omega
   rcases hivl with rfl|rfl|rfl|rfl|rfl|rfl|rfl|rfl|rfl|rfl|rfl|rfl|rfl|rfl|rfl|rfl|rfl|rfl|rfl|rfl|rfl|rfl|rfl|rfl|rfl|rfl|rfl|rfl <;> rfl
 ·have g0:decide ((i:Int)<s.images.length)=false:=decide_eq_false (by omega)
  have hi3:i=s.images.length:=by omega
  subst hi3
  repeat' (first|refine ak ?_|((with_reducible refine aT (id:=7) (fun K hW => ?_));(try simp (maxSteps:=999999)(disch:=omega) only [go_sem]);and_intros;all_goals first|(refine hK _ ?_;clear hK K)|try exact aa))
  refine hW _ (aZ [(8, .b (B false)),(9, .b (.c (.ptr 1 0))),(10, .b (I u)),(11, .b (I v)),(12, .b (.c (.ptr 2 0))),(50, .b (B (decide ((s.images.length:Int)<s.images.length))))] [(1, .fix ((aM s).map CV.p)),(2, .fix ((aM (fy s u v (fun i=>aL (fP d i) (jF s i) mx) s.images.length)).map CV.p))] 3) ?_ ?_
  ·refine ay [(1,some 2),(2,some 3)] ?_ ?_
   and_intros
   all_goals first|exact ao|skip
   all_goals first
    | (show s.images.length=(List.map _ _).length;rw [List.length_map,List.length_range])
    | exact fun _ _ _ _=>PV.le_refl _
  clear hW
  repeat' (first|refine aj g0 ?_|refine ak ?_|((first|refine ai (fun K hK => ?_)|refine ae (h1) ?_|refine ae (h2) ?_|refine ae (haw) ?_|refine aE (fun hg=>hso) ?_);and_intros;all_goals first|(refine hK _ ?_;clear hK K)|try exact aa)|(refine an ?_;(try clear hB KB);(try clear hK K)))
  refine congrArg (fun b=>SV.b (B b)) (?_:_=true)
  simp only [beq_self_eq_true,Bool.and_self,Bool.true_and,Bool.and_true]
end Go.Proofs.YtmfblbbemekkoaaGreatDoor
