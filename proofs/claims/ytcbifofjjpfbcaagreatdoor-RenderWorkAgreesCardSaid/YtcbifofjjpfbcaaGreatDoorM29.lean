/- Part of the proof: TE, P7, R3, WP, VC, VD, LP. -/
import Derived.Test.YtcbifofjjpfbcaaGreatDoorM26
import Derived.Test.YtcbifofjjpfbcaaGreatDoorM27
import Derived.Test.YtcbifofjjpfbcaaGreatDoorM28
set_option linter.unusedSimpArgs false
set_option linter.unusedVariables false
set_option maxRecDepth 8000
set_option maxHeartbeats 2000000
namespace Go.Proofs.YtcbifofjjpfbcaaGreatDoor
open Go Go.SL
open Go.RowKit (wrap64)
theorem MZ {t:Script} (hf:bD t=0) (hk:kt t.bits t.images.length t.ops []) (ho:cK t.ops []=[]):jh t=(0,0):=by
 rw [jh,if_pos hf]
 exact vy hk ho
theorem JF (n:N5) {m:Int} (h:0≤m):PixV (vh n m) m:=by
 have f1:=eJ n.e m h
 have a1:=eJ (n.d.tdiv 3) (cJ n.e m) f1.1
 have key:∀ a,0≤a→a≤cJ n.e m→PixV ⟨cJ n.a a,cJ n.b a,cJ n.c a,a,cJ n.e m⟩ m:=fun a h1 h2=>by
  have c0:=eJ n.a a h1
  have c1:=eJ n.b a h1
  have c2:=eJ n.c a h1
  exact ⟨c0.1,c1.1,c2.1,c0.2,c1.2,c2.2,h2,f1.2⟩
 unfold vh
 dsimp only
 split
 ·exact key _ a1.1 a1.2
 ·exact key _ f1.1 (Int.le_refl _)
theorem IC (r:Row) (i:Nat) {m:Int} (h:0≤m):PixV (qV r m i) m:=by
 have hb:∀ i,PixV (pS r m i) m:=fun i=>by unfold pS;exact JF _ h
 unfold qV
 split
 ·exact ⟨Int.le_refl _,Int.le_refl _,Int.le_refl _,Int.le_refl _,Int.le_refl _,Int.le_refl _,Int.le_refl _,h⟩
 split
 ·obtain ⟨a,b,c,d,e,f,g,k⟩:=hb i
  exact ⟨a,b,c,by dsimp only;omega,by dsimp only;omega,by dsimp only;omega,Int.le_refl _,Int.le_refl _⟩
 split
 ·exact hb 0
 ·exact hb i
theorem yr {w h:Int} {p:Pixel} (hf:cl w h=true):bp (ky w h p)=true:=by
 unfold bp
 rw [show (ky w h p).w=w from rfl,show (ky w h p).h=h from rfl,hf]
 rfl
theorem tE {w h m:Int} {p:Pixel} (hf:cl w h=true) (hp:PixV p m):ImgV (ky w h p) m:=⟨yr hf,fun x y _ _ _ _=>hp⟩
theorem xJ {w h:Int} {l:List Pixel} (hf:cl w h=true) (hl:(l.length:Int)=w * h):bp (fD w h l)=true:=by
 obtain ⟨b1,b2,b3,b4,b5,b6⟩:=ed hf
 have e:(h - 1) * w+w=w * h:=by rw [Int.sub_mul,Int.one_mul,Int.mul_comm h w];omega
 have hk:∀ k,aO (fD w h l) (bO w h l k)=true:=fun k=>by
  unfold aO de
  rw [show (fD w h l).solid=false from rfl,if_neg (by decide)]
  have:(bO w h l k).s.length=l.length:=by simp [bO]
  rw [this]
  show (cl w h && decide (w≤w) && decide (w≤16777216) && decide ((h - 1) * w+w≤(l.length:Int)) && decide (w=w) && decide (h=h))=true
  rw [hf,e,hl]
  simp
  omega
 unfold bp
 rw [show (fD w h l).w=w from rfl,show (fD w h l).h=h from rfl,hf]
 show (true && (aO _ (bO w h l 0) && aO _ (bO w h l 1) && aO _ (bO w h l 2) && aO _ (bO w h l 3) && aO _ (bO w h l 4) && (false || decide (ba=ba))))=true
 rw [hk,hk,hk,hk,hk]
 simp
theorem JJ {w h:Int} {l:List Pixel} {x y:Int} (hl:(l.length:Int)=w * h) (hx:0≤x) (hxw:x<w) (hy:0≤y) (hyh:y<h):(y * w+x).toNat<l.length∧eF (fD w h l) x y=l.getD (y * w+x).toNat default:=by
 have e1:0≤y * w:=az hy (by omega)
 have e2:y * w≤(h - 1) * w:=aJ (by omega) (Int.le_refl _) (by omega) (by omega)
 have e:(h - 1) * w+w=w * h:=by rw [Int.sub_mul,Int.one_mul,Int.mul_comm h w];omega
 have hi:(y * w+x).toNat<l.length:=by omega
 refine ⟨hi, ?_⟩
 unfold eF
 rw [if_neg (by show ¬ false=true;decide)]
 have key:∀ k,(bO w h l k).s.getD (y * w+x).toNat 0=sD k (l.getD (y * w+x).toNat default):=fun k=>by
  simp only [bO,List.getD_eq_getElem?_getD,List.getElem?_map,List.getElem?_eq_getElem hi,Option.map_some,Option.getD_some]
 show (⟨(bO w h l 0).s.getD (y * w+x).toNat 0,(bO w h l 1).s.getD (y * w+x).toNat 0,(bO w h l 2).s.getD (y * w+x).toNat 0,(bO w h l 3).s.getD (y * w+x).toNat 0,(bO w h l 4).s.getD (y * w+x).toNat 0⟩:Pixel)=_
 rw [key,key,key,key,key]
 rfl
theorem MM {w h m:Int} {l:List Pixel} (hf:cl w h=true) (hl:(l.length:Int)=w * h) (hp:∀ p ∈ l,PixV p m):ImgV (fD w h l) m:=by
 refine ⟨xJ hf hl,fun x y h1 h2 h3 h4 => ?_⟩
 obtain ⟨hi,e⟩:=JJ hl h1 h2 h3 h4
 rw [e,List.getD_eq_getElem?_getD,List.getElem?_eq_getElem hi]
 exact hp _ (List.getElem_mem _)
theorem Qd {p:Pic} {c:Rect} {m:Int} (hc:Small c) (hm:0≤m):ImgV (kM p c m) m:=by
 have hl:=Px (p:=p) hc
 have hlen:(cB p.row (gW p c * gH p c).toNat m).length=(gW p c * gH p c).toNat:=by simp [cB]
 have hok:=nW (w:=gW p c) (h:=gH p c) ⟨hl.1,hl.2.1⟩ ⟨hl.2.2.1,hl.2.2.2.1⟩ hlen
 have hf:cl (gW p c) (gH p c)=true:=by
  unfold dg at hok
  rw [Bool.and_eq_true] at hok;exact hok.1
 unfold kM
 split
 ·exact tE hf (IC _ _ hm)
 ·refine MM hf (by rw [hlen];omega) fun q hq => ?_
  unfold cB at hq
  obtain ⟨i,_,rfl⟩:=List.mem_map.1 hq
  exact IC _ _ hm
structure Of (c:Scene) (s:Script):Prop where
 b:s.bits=(aD c).bits
 cv:s.canvas=aG c
 w:s.tileW=cT c
 h:s.tileH=cW c
 o:s.order=(aD c).order
 n1:1≤s.images.length
 n2:s.images.length≤6
 im:na s
 V:VOps s
 op:∀ o ∈ s.ops,0≤o.opacity
theorem Of.mx {c:Scene} {s:Script} (h:Of c s):bA s.bits=dF c.bits:=by rw [h.b];exact zp c
theorem QX (c:Scene):Full (dF c.bits):=⟨by have:=mL c.bits;omega⟩
theorem Of.pt {c:Scene} {s:Script} (h:Of c s) {x y:Int} (hx:iO (aG c) x y):Pt s (dF c.bits) x y :=
 ⟨h.V,QX c,h.mx,h.im,h.op,by rw [h.cv];exact iE (cY c),by rw [h.cv];exact hx⟩
theorem Tk (c:Scene):na (aD c):=by
 intro i h0 h1
 rw [zp]
 have hm:0≤dF c.bits:=by have:=mL c.bits;omega
 have hmem:gQ (aD c) i ∈ bq c:=by
  have hi:i.toNat<(bq c).length:=by
   have h1:i<((bq c).length:Int):=h1
   omega
  show (bq c).getD i.toNat default ∈ bq c
  rw [List.getD_eq_getElem?_getD,List.getElem?_eq_getElem hi]
  exact List.getElem_mem _
 generalize gQ (aD c) i=q at hmem
 have hs:=cY c
 unfold bq at hmem
 split at hmem
 ·rw [List.mem_singleton.1 hmem]
  refine tE ?_ ⟨hm,Int.le_refl _,Int.le_refl _,Int.le_refl _,hm,hm,Int.le_refl _,Int.le_refl _⟩
  have:=nW (w:=1+c.w % 5) (h:=1+c.h % 4) (n:=((1+c.w % 5) * (1+c.h % 4)).toNat) (by omega) (by omega) rfl
  unfold dg at this
  rw [Bool.and_eq_true] at this;exact this.1
 ·unfold bS at hmem
  obtain ⟨p,_,rfl⟩:=List.mem_map.1 hmem
  exact Qd hs hm
theorem SU (c:Scene):Of c (aD c):=by
 have hi:=oV c
 have hg:=pe c
 refine ⟨rfl,rfl,rfl,rfl,rfl,hi.1,Nat.le_trans hi.2 (by decide),Tk c,EB ?_,fun o ho=>(hg.tame o ho).op.1⟩
 rw [MZ (SW rfl rfl rfl rfl rfl (sm c) (Nat.le_trans (AT c) (by decide))) hg.ok hg.op]
end Go.Proofs.YtcbifofjjpfbcaaGreatDoor
set_option maxHeartbeats 1000000
namespace Go.Proofs.YtcbifofjjpfbcaaGreatDoor
section
variable {s:Script} {m:Int}
def eM (s:Script) (r:Rect) (i:Nat):Bool := !aU (eS (bn s i) r)
def eV (s:Script) (r:Rect) (i:Nat):Bool:=eM s r i && (bI s.ops i).all (eM s r)
theorem JY {r:Rect} {i:Nat} {x y:Int} (hr:aU r=false) (hxy:iO r x y) (h:eM s r i=false):¬ BY (bn s i) x y:=fun ⟨h1,h2⟩=>by
 unfold eM at h
 have:=((pX h1 hr).2 ⟨h2,hxy⟩).1
 rw [this] at h
 cases h
theorem KS (W:Wf s.ops) {r:Rect} {i j:Nat} (hi:i<s.ops.length) (hk:(aB s.ops i).kind=2) (h:eM s r i=false) (h1:i<j) (h2:j≤aR s.ops i):eV s r j=false:=by
 have hel:=fT W hi
 have hm:i ∈ bI s.ops j:=(lx W (by omega) h1).2 ⟨hk,h2⟩
 unfold eV
 have:(bI s.ops j).all (eM s r)=false:=by
  rw [← Bool.not_eq_true,List.all_eq_true]
  exact fun q=>by have:=q i hm;rw [h] at this;cases this
 rw [this,Bool.and_false]
theorem pg {r:Rect} {i:Nat} (h:∀ g ∈ bI s.ops i,eM s r g=true):eV s r i=eM s r i:=by
 unfold eV
 rw [List.all_eq_true.2 h,Bool.and_true]
theorem KN (W:Wf s.ops) {r:Rect} {i:Nat} (hi:i<s.ops.length) (h:∀ g ∈ bI s.ops i,eM s r g=true) (hp:(aB s.ops i).kind=2→eM s r i=true):∀ g ∈ bI s.ops (i+1),eM s r g=true:=by
 intro g hg
 rcases W.kinds i hi with k|k|k
 ·rw [cr k] at hg;exact h g hg
 ·rw [ct k] at hg
  rcases List.mem_cons.1 hg with e|e
  ·rw [e];exact hp k
  ·exact h g e
 ·rw [dQ k] at hg;exact h g (List.mem_of_mem_tail hg)
theorem OZ {x y:Int} (C:Pt s m x y) {r:Rect} {i:Nat} (hr:aU r=false) (hxy:iO r x y) (hi:i<s.ops.length) (hk:(aB s.ops i).kind≠3) (h:eM s r i=false):jM m (cD s x y) s.ops (aR s.ops i+1)=jM m (cD s x y) s.ops i :=
 NT C hi hk (JY hr hxy h)
end
end Go.Proofs.YtcbifofjjpfbcaaGreatDoor
set_option maxHeartbeats 4000000
set_option maxRecDepth 16000
namespace Go.Proofs.YtcbifofjjpfbcaaGreatDoor
open Go Go.SL
open Go.RowKit (wrap64)
attribute [local go_sem] Int.toNat_natCast cz cH
theorem DV {a b:Pixel} (h0:a.c0=b.c0) (h1:a.c1=b.c1) (h2:a.c2=b.c2) (h3:a.a=b.a) (h4:a.f=b.f):a=b:=by
 cases a;cases b;simp only at h0 h1 h2 h3 h4;simp only [h0,h1,h2,h3,h4]
theorem NF {a b:Acc} (h0:a.c0=b.c0) (h1:a.c1=b.c1) (h2:a.c2=b.c2) (h3:a.a=b.a) (h4:a.own=b.own) (h5:a.f=b.f):a=b:=by
 cases a;cases b;simp only at h0 h1 h2 h3 h4 h5;simp only [h0,h1,h2,h3,h4,h5]
theorem HR (ko : Bool) (op mode m : Int) (n : Nat) (f : Nat → Pixel) (x : Nat → Acc) (b : Nat → Pixel) (hm : Full m) (hn : n ≤ 1000) (ho : 1 ≤ op ∧ op ≤ 12) (hmo : 1 ≤ mode ∧ mode ≤ 12) (hf : ∀ k, k < n → PixV (f k) m) (hx : ∀ k, k < n → AccV (x k) (b k) m) (hk : ko = true → op = 4) :
  aF Sg 157 [B ko,I op,I mode,U m, .c (.p (ra n f)), .c (.p (Hi n x)), .c (.p (ra n b))] (fun r=>r = .tup [.c (.p (Hi n fun k=>dI ko op mode m (f k) (x k) (b k))),B true]):=by
 have ht:True:=trivial
 have hr:∀ k,k<n→aF Sg 171 [B ko,I op,I mode,U m,ag (aW (f k)),ag (cH (x k)),ag (aW (b k))] (fun r=>r = .tup [ag (cH (dI ko op mode m (f k) (x k) (b k))),B true]):=fun k hkn=>As ko op mode m (f k) (x k) (b k) hm ho hmo (hf k hkn) (hx k hkn) hk
 obtain ⟨q,hq⟩:∃ q:Nat→Acc,q=fun k=>dI ko op mode m (f k) (x k) (b k):=⟨_,rfl⟩
 have hr:∀ k,k<n→aF Sg 171 [B ko,I op,I mode,U m,ag (aW (f k)),ag (cH (x k)),ag (aW (b k))] (fun r=>r = .tup [ag (cH (q k)),B true]):=by rw [hq];exact hr
 rw [← hq]
 have hs:∀ k,f (k+1)=f k→x (k+1)=x k→b (k+1)=b k→q (k+1)=q k:=fun k h1 h2 h3=>by rw [hq];simp only [h1,h2,h3]
 clear hq
 have g0:((n:Int) != n)=false:=by simp
 refine aI Tryz.func157 [.tmp 14, .tmp 15] ?_
 repeat' (first|with_reducible exact aK|refine ak g0 ?_|refine an ?_|((first|refine aj (fun K hK => ?_)|refine aY ?_);and_intros;all_goals first|(refine hK _ ?_;clear hK K)|try exact aa)|((first|apply aC|apply ay);(case hf=>rfl);(case hc=>exact aS);(all_goals first|(intro hb;(try simp only [bZ] at hb))|skip))|exact ao|(refine aH (fun hb => ?_) (fun hb => ?_);all_goals try exact ax)|refine ar (fun KB hB => ?_)|(refine hB _ ?_;clear hB KB)|refine aA (S:=Sg) (by assumption) ?_|(refine ai ?_;(try clear hB KB);(try clear hK K)))
 refine aM (X:=Nat) (fun i=>bg [(0, .b (B ko)),(1, .b (I op)),(2, .b (I mode)),(3, .b (U m)),(4, .b (.c (.p (ra n f)))),(5, .b (.c (.p (Hi n x)))),(6, .b (.c (.p (ra n b)))),(16, .b (.c (.own 1 i))),(33, .b (I n)),(34, .b (I i))] [(1, .arr 147 6 i (nZ cH q))] 2) (fun i=>i≤n) (fun i=>n - i) 0 ?_ ?_ ?_
 ·exact Nat.zero_le _
 ·refine aE [(1,none)] ?_ ?_
  and_intros
  all_goals first|exact aw|skip
 intro i hi
 rcases Nat.lt_or_ge i n with hk|hk
 ·have g1:decide ((i:Int)<n)=true:=decide_eq_true (by omega)
  have hv:=hr i hk
  cases i with
  | zero =>
   have g2:decide (((0:Nat):Int)>0)=false:=by decide
   repeat' (first|with_reducible exact aK|refine ak (And.intro g1 g2) ?_|((first|((with_reducible refine bC (id:=7) [] (by decide +kernel) (by decide +kernel) ?_ (fun K hK => ?_));(first|(refine And.intro (fun iw hiw => ?_) ?_;(focus ((try simp (maxSteps:=999999)(disch:=omega) only [go_sem] at hiw ⊢);(repeat (refine Eq.trans (if_neg ?_) ?_;(focus omega)));(first|exact hw iw (by omega)|rfl)));(focus (first|exact Nat.zero_le _|(simp (maxSteps:=999999)(disch:=omega) only [go_sem];done)|(simp (maxSteps:=999999)(disch:=omega) only [go_sem];omega))))|exact cS))|((with_reducible refine ch (id:=7) [] (by decide +kernel) (by decide +kernel) ?_ (fun K hK => ?_));(first|(refine And.intro (fun iw hiw => ?_) ?_;(focus ((try simp (maxSteps:=999999)(disch:=omega) only [go_sem] at hiw ⊢);(repeat (refine Eq.trans (if_neg ?_) ?_;(focus omega)));(first|exact hw iw (by omega)|rfl)));(focus (first|exact Nat.zero_le _|(simp (maxSteps:=999999)(disch:=omega) only [go_sem];done)|(simp (maxSteps:=999999)(disch:=omega) only [go_sem];omega))))|exact cS)));(try simp (maxSteps:=999999)(disch:=omega) only [go_sem]);and_intros;(all_goals first|(refine hK _ (by simp (maxSteps:=999999)(disch:=omega) only [go_sem]) ?_;clear hK K)|exact aa|skip))|((first|((with_reducible refine bC (id:=9) [(90,3),(94,3),(98,3)] (by decide +kernel) (by decide +kernel) ?_ (fun K hK => ?_));(first|(refine And.intro (fun iw hiw => ?_) ?_;(focus ((try simp (maxSteps:=999999)(disch:=omega) only [go_sem] at hiw ⊢);(repeat (refine Eq.trans (if_neg ?_) ?_;(focus omega)));(first|exact hw iw (by omega)|rfl)));(focus (first|exact Nat.zero_le _|(simp (maxSteps:=999999)(disch:=omega) only [go_sem];done)|(simp (maxSteps:=999999)(disch:=omega) only [go_sem];omega))))|exact cS))|((with_reducible refine ch (id:=9) [(90,3),(94,3),(98,3)] (by decide +kernel) (by decide +kernel) ?_ (fun K hK => ?_));(first|(refine And.intro (fun iw hiw => ?_) ?_;(focus ((try simp (maxSteps:=999999)(disch:=omega) only [go_sem] at hiw ⊢);(repeat (refine Eq.trans (if_neg ?_) ?_;(focus omega)));(first|exact hw iw (by omega)|rfl)));(focus (first|exact Nat.zero_le _|(simp (maxSteps:=999999)(disch:=omega) only [go_sem];done)|(simp (maxSteps:=999999)(disch:=omega) only [go_sem];omega))))|exact cS)));(try simp (maxSteps:=999999)(disch:=omega) only [go_sem]);and_intros;(all_goals first|(refine hK _ (by simp (maxSteps:=999999)(disch:=omega) only [go_sem]) ?_;clear hK K)|exact aa|skip))|refine an ?_|((first|refine aj (fun K hK => ?_)|refine aY ?_|refine ae (hv) ?_|refine aq (fun hg=>hv) ?_);and_intros;all_goals first|(refine hK _ ?_;clear hK K)|try exact aa)|((first|apply aC|apply ay);(case hf=>rfl);(case hc=>exact aS);(all_goals first|(intro hb;(try simp only [bZ] at hb))|skip))|exact ao|(refine aH (fun hb => ?_) (fun hb => ?_);all_goals try exact ax)|refine ar (fun KB hB => ?_)|(refine hB _ ?_;clear hB KB)|refine aA (S:=Sg) (by assumption) ?_|(refine ai ?_;(try clear hB KB);(try clear hK K)))
   refine hK _ (by simp (maxSteps:=999999)(disch:=omega) only [go_sem]) ?_
   clear hK
   repeat' (first|with_reducible exact aK|refine ak ht ?_|refine an ?_|((first|refine aj (fun K hK => ?_)|refine aY ?_);and_intros;all_goals first|(refine hK _ ?_;clear hK K)|try exact aa)|((first|apply aC|apply ay);(case hf=>rfl);(case hc=>exact aS);(all_goals first|(intro hb;(try simp only [bZ] at hb))|skip))|exact ao|(refine aH (fun hb => ?_) (fun hb => ?_);all_goals try exact ax)|refine ar (fun KB hB => ?_)|(refine hB _ ?_;clear hB KB)|refine aA (S:=Sg) (by assumption) ?_|(refine ai ?_;(try clear hB KB);(try clear hK K)))
   rw [ah]
   refine au 1 ?_ (by omega) (by omega)
   refine aE [(1,some 4)] ?_ ?_
   and_intros
   all_goals first|exact aw|skip
   refine .inr (kU (enc:=cH) (q:=q) (i:=0) fun j hj => ?_)
   have hivl:j=0∨j=1∨j=2∨j=3∨j=4∨j=5:=by omega
   rcases hivl with rfl|rfl|rfl|rfl|rfl|rfl <;> exact PV.le_refl _
  | succ k =>
   have g2:decide (((k+1:Nat):Int)>0)=true:=decide_eq_true (by omega)
   repeat' (first|with_reducible exact aK|refine ak (And.intro g1 g2) ?_|((first|((with_reducible refine bC (id:=7) [] (by decide +kernel) (by decide +kernel) ?_ (fun K hK => ?_));(first|(refine And.intro (fun iw hiw => ?_) ?_;(focus ((try simp (maxSteps:=999999)(disch:=omega) only [go_sem] at hiw ⊢);(repeat (refine Eq.trans (if_neg ?_) ?_;(focus omega)));(first|exact hw iw (by omega)|rfl)));(focus (first|exact Nat.zero_le _|(simp (maxSteps:=999999)(disch:=omega) only [go_sem];done)|(simp (maxSteps:=999999)(disch:=omega) only [go_sem];omega))))|exact cS))|((with_reducible refine ch (id:=7) [] (by decide +kernel) (by decide +kernel) ?_ (fun K hK => ?_));(first|(refine And.intro (fun iw hiw => ?_) ?_;(focus ((try simp (maxSteps:=999999)(disch:=omega) only [go_sem] at hiw ⊢);(repeat (refine Eq.trans (if_neg ?_) ?_;(focus omega)));(first|exact hw iw (by omega)|rfl)));(focus (first|exact Nat.zero_le _|(simp (maxSteps:=999999)(disch:=omega) only [go_sem];done)|(simp (maxSteps:=999999)(disch:=omega) only [go_sem];omega))))|exact cS)));(try simp (maxSteps:=999999)(disch:=omega) only [go_sem]);and_intros;(all_goals first|(refine hK _ (by simp (maxSteps:=999999)(disch:=omega) only [go_sem]) ?_;clear hK K)|exact aa|skip))|((first|((with_reducible refine bC (id:=9) [(90,3),(94,3),(98,3)] (by decide +kernel) (by decide +kernel) ?_ (fun K hK => ?_));(first|(refine And.intro (fun iw hiw => ?_) ?_;(focus ((try simp (maxSteps:=999999)(disch:=omega) only [go_sem] at hiw ⊢);(repeat (refine Eq.trans (if_neg ?_) ?_;(focus omega)));(first|exact hw iw (by omega)|rfl)));(focus (first|exact Nat.zero_le _|(simp (maxSteps:=999999)(disch:=omega) only [go_sem];done)|(simp (maxSteps:=999999)(disch:=omega) only [go_sem];omega))))|exact cS))|((with_reducible refine ch (id:=9) [(90,3),(94,3),(98,3)] (by decide +kernel) (by decide +kernel) ?_ (fun K hK => ?_));(first|(refine And.intro (fun iw hiw => ?_) ?_;(focus ((try simp (maxSteps:=999999)(disch:=omega) only [go_sem] at hiw ⊢);(repeat (refine Eq.trans (if_neg ?_) ?_;(focus omega)));(first|exact hw iw (by omega)|rfl)));(focus (first|exact Nat.zero_le _|(simp (maxSteps:=999999)(disch:=omega) only [go_sem];done)|(simp (maxSteps:=999999)(disch:=omega) only [go_sem];omega))))|exact cS)));(try simp (maxSteps:=999999)(disch:=omega) only [go_sem]);and_intros;(all_goals first|(refine hK _ (by simp (maxSteps:=999999)(disch:=omega) only [go_sem]) ?_;clear hK K)|exact aa|skip))|refine an ?_|((first|refine aj (fun K hK => ?_)|refine aY ?_|refine ae (hv) ?_|refine aq (fun hg=>hv) ?_);and_intros;all_goals first|(refine hK _ ?_;clear hK K)|try exact aa)|((first|apply aC|apply ay);(case hf=>rfl);(case hc=>exact aS);(all_goals first|(intro hb;(try simp only [bZ] at hb))|skip))|exact ao|(refine aH (fun hb => ?_) (fun hb => ?_);all_goals try exact ax)|refine ar (fun KB hB => ?_)|(refine hB _ ?_;clear hB KB)|refine aA (S:=Sg) (by assumption) ?_|(refine ai ?_;(try clear hB KB);(try clear hK K)))
   ·rw [ah]
    refine au (k+2) ?_ (by omega) (by omega)
    refine aE [(1,some 3)] ?_ ?_
    and_intros
    all_goals first|exact aw|skip
    have e:q (k+1)=q k:=by
     refine hs k ?_ ?_ ?_
     ·exact DV (by omega) (by omega) (by omega) (by omega) (by omega)
     ·exact NF (by omega) (by omega) (by omega) (by omega) (by omega) (by omega)
     ·exact DV (by omega) (by omega) (by omega) (by omega) (by omega)
    refine .inr (kU (enc:=cH) (q:=q) fun j hj => ?_)
    rw [e]
    have hivl:j=0∨j=1∨j=2∨j=3∨j=4∨j=5:=by omega
    rcases hivl with rfl|rfl|rfl|rfl|rfl|rfl <;> exact PV.le_refl _
   ·refine hK _ (by simp (maxSteps:=999999)(disch:=omega) only [go_sem]) ?_
    clear hK
    repeat' (first|with_reducible exact aK|refine ak ht ?_|refine an ?_|((first|refine aj (fun K hK => ?_)|refine aY ?_);and_intros;all_goals first|(refine hK _ ?_;clear hK K)|try exact aa)|((first|apply aC|apply ay);(case hf=>rfl);(case hc=>exact aS);(all_goals first|(intro hb;(try simp only [bZ] at hb))|skip))|exact ao|(refine aH (fun hb => ?_) (fun hb => ?_);all_goals try exact ax)|refine ar (fun KB hB => ?_)|(refine hB _ ?_;clear hB KB)|refine aA (S:=Sg) (by assumption) ?_|(refine ai ?_;(try clear hB KB);(try clear hK K)))
    rw [ah]
    refine au (k+2) ?_ (by omega) (by omega)
    refine aE [(1,some 4)] ?_ ?_
    and_intros
    all_goals first|exact aw|skip
    refine .inr (kU (enc:=cH) (q:=q) fun j hj => ?_)
    have hivl:j=0∨j=1∨j=2∨j=3∨j=4∨j=5:=by omega
    rcases hivl with rfl|rfl|rfl|rfl|rfl|rfl <;> exact PV.le_refl _
 ·have g1:decide ((i:Int)<n)=false:=decide_eq_false (by omega)
  obtain rfl:i=n:=by omega
  repeat' (first|with_reducible exact aK|refine ak g1 ?_|refine an ?_|((first|refine aj (fun K hK => ?_)|refine aY ?_);and_intros;all_goals first|(refine hK _ ?_;clear hK K)|try exact aa)|((first|apply aC|apply ay);(case hf=>rfl);(case hc=>exact aS);(all_goals first|(intro hb;(try simp only [bZ] at hb))|skip))|exact ao|(refine aH (fun hb => ?_) (fun hb => ?_);all_goals try exact ax)|refine ar (fun KB hB => ?_)|(refine hB _ ?_;clear hB KB)|refine aA (S:=Sg) (by assumption) ?_|(refine ai ?_;(try clear hB KB);(try clear hK K)))
end Go.Proofs.YtcbifofjjpfbcaaGreatDoor
set_option maxHeartbeats 4000000
set_option maxRecDepth 16000
namespace Go.Proofs.YtcbifofjjpfbcaaGreatDoor
open Go Go.SL
open Go.RowKit (wrap64)
theorem xI (m:Image) (x y:Int) (hf:bp m=true) (hx:0≤x) (hxm:x<m.w) (hy:0≤y) (hym:y<m.h):aF Sg 110 [ag (bl m),I x,I y] (fun r=>r = .b (ag (aW (eF m x y)))):=by
 unfold eF
 by_cases hs:m.solid=true
 ·rw [if_pos hs]
  refine aI Tryz.func110 [.cell 6 37] ?_
  repeat' (first|refine ak hs ?_|refine an ?_|(refine aj (fun K hK => ?_);and_intros;all_goals first|(refine hK _ ?_;clear hK K)|try exact aa)|(refine ai ?_;(try clear hB KB);(try clear hK K)))
  rfl
 ·rw [if_neg hs]
  have hs':m.solid=false:=by simpa using hs
  unfold bp at hf
  simp only [Bool.and_eq_true] at hf
  obtain ⟨_,⟨⟨⟨⟨⟨f0,f1⟩,f2⟩,f3⟩,f4⟩,_⟩⟩:=hf
  obtain ⟨a0,b0,c0,d0⟩:=fM hs' f0 hx hxm hy hym
  obtain ⟨a1,b1,c1,_⟩:=fM hs' f1 hx hxm hy hym
  obtain ⟨a2,b2,c2,_⟩:=fM hs' f2 hx hxm hy hym
  obtain ⟨a3,b3,c3,_⟩:=fM hs' f3 hx hxm hy hym
  obtain ⟨a4,b4,c4,_⟩:=fM hs' f4 hx hxm hy hym
  refine aI Tryz.func110 [.cell 6 37] ?_
  repeat' (first|(apply gZ;(case hc=>exact aS);(case ht=>(simp only [Int.toNat_natCast,Int.reduceBEq,Int.reduceBNe,Int.reduceLT,Int.reduceLE,decide_true,decide_false,oZ,hs'];done)))|refine an ?_|(refine aj (fun K hK => ?_);and_intros;all_goals first|(refine hK _ ?_;clear hK K)|try exact aa))
  refine aM (X:=Int) (fun k=>bg [(1, .b (I x)),(2, .b (I y)),(3, .b (.c (.ptr 0 0))),(6, .b (.c (.ptr 1 0))),(7, .b (.c (.ptr 2 0))),(15, .b (ag [PI m.p0.w,PI m.p0.h,PI m.p0.stride,jV m.p0.s,PI m.p1.w,PI m.p1.h,PI m.p1.stride,jV m.p1.s,PI m.p2.w,PI m.p2.h,PI m.p2.stride,jV m.p2.s,PI m.p3.w,PI m.p3.h,PI m.p3.stride,jV m.p3.s,PI m.p4.w,PI m.p4.h,PI m.p4.stride,jV m.p4.s])),(16, .b (I k))]
   [(0, .fix ((bl m).map CV.p)),(1, .fix ((aW ba).map CV.p)),(2, .fix [.p (PU (if 0<k then m.p0.s.getD (y * m.p0.stride+x).toNat 0 else 0)), .p (PU (if 1<k then m.p1.s.getD (y * m.p1.stride+x).toNat 0 else 0)), .p (PU (if 2<k then m.p2.s.getD (y * m.p2.stride+x).toNat 0 else 0)), .p (PU (if 3<k then m.p3.s.getD (y * m.p3.stride+x).toNat 0 else 0)), .p (PU (if 4<k then m.p4.s.getD (y * m.p4.stride+x).toNat 0 else 0))])] 3) (fun k=>0≤k∧k≤5) (fun k=>(5 - k).toNat) 0 ?_ ?_ ?_
  ·omega
  ·refine aE [(1,some 1),(2,some 2)] ?_ ?_
   and_intros
   all_goals first|exact aw|skip
  ·intro k hk
   have hkv:k=0∨k=1∨k=2∨k=3∨k=4∨k=5:=by omega
   rcases hkv with rfl|rfl|rfl|rfl|rfl|rfl
   ·repeat' (first|(apply ft;(case hc=>exact aS);(case ht=>(simp only [Int.toNat_natCast,Int.reduceBEq,Int.reduceBNe,Int.reduceLT,Int.reduceLE,decide_true,decide_false,oZ,hs'];done)))|refine an ?_|(refine aj (fun K hK => ?_);and_intros;all_goals first|(refine hK _ ?_;clear hK K)|try exact aa))
    rw [ah]
    refine au 1 ?_ (by omega) (by decide)
    refine aE [(1,some 1),(2,some 2)] ?_ ?_
    and_intros
    all_goals first|exact aw|skip
   ·repeat' (first|(apply ft;(case hc=>exact aS);(case ht=>(simp only [Int.toNat_natCast,Int.reduceBEq,Int.reduceBNe,Int.reduceLT,Int.reduceLE,decide_true,decide_false,oZ,hs'];done)))|refine an ?_|(refine aj (fun K hK => ?_);and_intros;all_goals first|(refine hK _ ?_;clear hK K)|try exact aa))
    rw [ah]
    refine au 2 ?_ (by omega) (by decide)
    refine aE [(1,some 1),(2,some 2)] ?_ ?_
    and_intros
    all_goals first|exact aw|skip
   ·repeat' (first|(apply ft;(case hc=>exact aS);(case ht=>(simp only [Int.toNat_natCast,Int.reduceBEq,Int.reduceBNe,Int.reduceLT,Int.reduceLE,decide_true,decide_false,oZ,hs'];done)))|refine an ?_|(refine aj (fun K hK => ?_);and_intros;all_goals first|(refine hK _ ?_;clear hK K)|try exact aa))
    rw [ah]
    refine au 3 ?_ (by omega) (by decide)
    refine aE [(1,some 1),(2,some 2)] ?_ ?_
    and_intros
    all_goals first|exact aw|skip
   ·repeat' (first|(apply ft;(case hc=>exact aS);(case ht=>(simp only [Int.toNat_natCast,Int.reduceBEq,Int.reduceBNe,Int.reduceLT,Int.reduceLE,decide_true,decide_false,oZ,hs'];done)))|refine an ?_|(refine aj (fun K hK => ?_);and_intros;all_goals first|(refine hK _ ?_;clear hK K)|try exact aa))
    rw [ah]
    refine au 4 ?_ (by omega) (by decide)
    refine aE [(1,some 1),(2,some 2)] ?_ ?_
    and_intros
    all_goals first|exact aw|skip
   ·repeat' (first|(apply ft;(case hc=>exact aS);(case ht=>(simp only [Int.toNat_natCast,Int.reduceBEq,Int.reduceBNe,Int.reduceLT,Int.reduceLE,decide_true,decide_false,oZ,hs'];done)))|refine an ?_|(refine aj (fun K hK => ?_);and_intros;all_goals first|(refine hK _ ?_;clear hK K)|try exact aa))
    rw [ah]
    refine au 5 ?_ (by omega) (by decide)
    refine aE [(1,some 1),(2,some 2)] ?_ ?_
    and_intros
    all_goals first|exact aw|skip
   ·repeat' (first|(apply gZ;(case hc=>exact aS);(case ht=>(simp only [Int.toNat_natCast,Int.reduceBEq,Int.reduceBNe,Int.reduceLT,Int.reduceLE,decide_true,decide_false,oZ,hs'];done)))|refine an ?_|(refine aj (fun K hK => ?_);and_intros;all_goals first|(refine hK _ ?_;clear hK K)|try exact aa)|(refine ai ?_;(try clear hB KB);(try clear hK K)))
    rfl
theorem IG (m:Image) (x y:Int):aF Sg 158 [ag (bl m),I x,I y] (fun r=>r = .b (ag (aW (cu m x y)))):=by
 have hF:=tv m
 unfold cu
 by_cases h:bp m=false∨x<0∨m.w≤x∨y<0∨m.h≤y
 ·rw [if_pos h]
  have g:(!bp m || decide (x<0) || decide (x≥m.w) || decide (y<0) || decide (y≥m.h))=true:=by
   simp only [Bool.or_eq_true,Bool.not_eq_true',decide_eq_true_eq]
   rcases h with h|h|h|h|h
   ·exact .inl (.inl (.inl (.inl h)))
   ·exact .inl (.inl (.inl (.inr h)))
   ·exact .inl (.inl (.inr h))
   ·exact .inl (.inr h)
   ·exact .inr h
  refine aI Tryz.func158 [.cell 6 37] ?_
  repeat' (first|refine ak g ?_|refine an ?_|((first|refine aj (fun K hK => ?_)|refine ae (hF) ?_);and_intros;all_goals first|(refine hK _ ?_;clear hK K)|try exact aa)|(refine ai ?_;(try clear hB KB);(try clear hK K)))
  rfl
 ·rw [if_neg h]
  have hf:bp m=true:=by
   rw [← Bool.not_eq_false];exact fun q=>h (.inl q)
  have hp:=xI m x y hf (by omega) (by omega) (by omega) (by omega)
  rw [hf] at hF
  have g1:decide (x<0)=false:=decide_eq_false (by omega)
  have g2:decide (x≥m.w)=false:=decide_eq_false (by omega)
  have g3:decide (y<0)=false:=decide_eq_false (by omega)
  have g4:decide (y≥m.h)=false:=decide_eq_false (by omega)
  generalize eF m x y=p at *
  refine aI Tryz.func158 [.cell 6 37] ?_
  repeat' (first|refine ak (And.intro g1 (And.intro g2 (And.intro g3 g4))) ?_|refine an ?_|((first|refine aj (fun K hK => ?_)|refine ae (hF) ?_|refine ae (hp) ?_);and_intros;all_goals first|(refine hK _ ?_;clear hK K)|try exact aa)|(refine ai ?_;(try clear hB KB);(try clear hK K)))
  rfl
theorem oF (m:Image):aF Sg 107 [ag (bl m)] (fun r=>r = .b (I (if cl m.w m.h=false then 6 else if bp m=false then 7 else 0))):=by
 have h1:=ur m.w m.h
 have h2:=tv m
 have ht:True:=trivial
 cases hf:cl m.w m.h
 ·rw [hf] at h1
  rw [if_pos rfl]
  refine aI Tryz.func107 [.tmp 2] ?_
  repeat' (first|with_reducible exact aK|refine ak ht ?_|refine an ?_|((first|refine aj (fun K hK => ?_)|refine ae (h1) ?_);and_intros;all_goals first|(refine hK _ ?_;clear hK K)|try exact aa)|(refine ai ?_;(try clear hB KB);(try clear hK K)))
 ·rw [hf] at h1
  rw [if_neg (by decide)]
  cases hg:bp m
  ·rw [hg] at h2
   rw [if_pos rfl]
   refine aI Tryz.func107 [.tmp 2] ?_
   repeat' (first|with_reducible exact aK|refine ak ht ?_|refine an ?_|((first|refine aj (fun K hK => ?_)|refine ae (h1) ?_|refine ae (h2) ?_);and_intros;all_goals first|(refine hK _ ?_;clear hK K)|try exact aa)|(refine ai ?_;(try clear hB KB);(try clear hK K)))
  ·rw [hg] at h2
   rw [if_neg (by decide)]
   refine aI Tryz.func107 [.tmp 2] ?_
   repeat' (first|with_reducible exact aK|refine ak ht ?_|refine an ?_|((first|refine aj (fun K hK => ?_)|refine ae (h1) ?_|refine ae (h2) ?_);and_intros;all_goals first|(refine hK _ ?_;clear hK K)|try exact aa)|(refine ai ?_;(try clear hB KB);(try clear hK K)))
end Go.Proofs.YtcbifofjjpfbcaaGreatDoor
set_option maxHeartbeats 8000000
set_option maxRecDepth 16000
namespace Go.Proofs.YtcbifofjjpfbcaaGreatDoor
open Go Go.SL
open Go.RowKit (wrap64)
attribute [local go_sem] TV sY Int.toNat_natCast
def PF (s:Script) (q:Nat):Pixel:=dH s (s.canvas.x0+((q % (s.canvas.x1 - s.canvas.x0).toNat:Nat):Int)) (s.canvas.y0+((q / (s.canvas.x1 - s.canvas.x0).toNat:Nat):Int))
def jg (s:Script) (n:Nat):List Pixel:=(List.range n).map (PF s)
theorem uN {s:Script} {n:Nat}:(jg s n).length=n:=by simp [jg]
def eL (s:Script):Image:=fh (s.canvas.x1 - s.canvas.x0) (s.canvas.y1 - s.canvas.y0) (jg s ((s.canvas.x1 - s.canvas.x0) * (s.canvas.y1 - s.canvas.y0)).toNat)
end Go.Proofs.YtcbifofjjpfbcaaGreatDoor
set_option maxHeartbeats 4000000
set_option maxRecDepth 16000
namespace Go.Proofs.YtcbifofjjpfbcaaGreatDoor
open Go Go.SL
open Go.RowKit (wrap64)
attribute [local go_sem] Int.toNat_natCast
def AZ (r:Rect) (x y:Int):Bool := !aU r && decide (r.x0≤x) && decide (x<r.x1) && decide (r.y0≤y) && decide (y<r.y1)
theorem Es {r:Rect} {x y:Int}:AZ r x y=true↔BY r x y:=by
 unfold AZ BY iO
 simp only [Bool.and_eq_true,Bool.not_eq_true',decide_eq_true_eq,and_assoc]
end Go.Proofs.YtcbifofjjpfbcaaGreatDoor
set_option maxHeartbeats 4000000
set_option maxRecDepth 16000
namespace Go.Proofs.YtcbifofjjpfbcaaGreatDoor
open Go Go.SL
open Go.RowKit (wrap64)
theorem BQ {S:Env} {f:FuncId} {args:List BV} {e sz n:Nat} {g:Nat→Nat→PV} (h:kr S f args e sz n g):aF S f args fun r=>r = .b (.c (.p (.lst sz n g))) :=
 ⟨h.1,fun ok w vs h1 h2 h3 h4=>(h.2 ok w vs h1 h2 h3 h4).mono fun ex w' ⟨v,xs,he,hB,h0,hown,hone,hd⟩=>by
  refine ⟨v,_,he,rfl,trivial,hB, ?_⟩
  rcases hown.2 with ⟨e1,e2⟩|⟨b,cap,cur,hv,hge,hh,hnc,_,hcs,htk⟩
  ·rw [e1]
   exact ⟨none,0,by rw [e2],by omega,fun h=>by omega⟩
  ·rw [hv]
   refine ⟨_,cap,rfl,hnc,fun _=>⟨b,0,rfl,⟨bN hh,fun q=>by omega⟩,fun i hi j hj => ?_⟩⟩
   have hlt:i * sz+j<n * sz:=dq hi hj
   have hlt2:i * sz+j<cur.size:=by rw [hcs];exact Nat.lt_of_lt_of_le hlt (Nat.mul_le_mul_right _ hnc)
   have hlx:i * sz+j<xs.length:=by rw [hown.1];exact hlt
   have hxe:xs.getD (i * sz+j) undef=cur.getD (i * sz+j) undef:=by
    rw [← htk];simp [List.getElem?_take,hlt]
   refine ⟨cur.getD (i * sz+j) undef,by rw [Nat.zero_add];exact bG hh hlt2, ?_, ?_⟩
   ·rw [← hxe,List.getD_eq_getElem?_getD,List.getElem?_eq_getElem hlx]
    exact hone _ (List.getElem_mem hlx)
   ·rw [← hxe]
    exact bt.mono (fun b hb=>hb.elim) (hd i hi j hj)⟩
attribute [local go_sem] Int.toNat_natCast bU
theorem TR {st : St} {bx : Nat → Option Bx} {nx q e sz n m : Nat} {F G : Nat → Nat → PV} {kf : Nat → SV} (hkf : st.kf = kf) (hkl : ∀ s, (kf s).lt nx) (hq : q < nx) (hbl : ∀ i y, bx i = some y → i < nx ∧ y.lt nx)
  (hoth:∀ i,i<nx→i≠q→st.bx i=bx i) (hqb:st.bx q=some (.arr e sz n F)) (hF:F=G∨∀ i,i<n→∀ j,j<sz→PV.le (F i j) (G i j)):Le st (uV [] (aN q (.arr e sz n G) bx) (nx+m) kf):=by
 refine VZ nx [] [] hkf hkl (Nat.le_add_right _ _) (by omega) trivial (fun i hi hn => ?_) (fun i hi=>by cases hi) rfl (fun i x hx => ?_)
 ·unfold aN at hi
  rw [if_neg (by omega)] at hi
  cases hb:bx i with
  | none=>exact absurd hb hi
  | some y=>have:=(hbl i y hb).1;omega
 ·unfold aN at hx
  by_cases hiq:i=q
  ·subst hiq
   rw [if_pos rfl] at hx
   cases hx
   refine .inr ⟨?_,by omega,trivial⟩
   unfold fI
   rw [gT hq]
   exact ⟨_,hqb,rfl,rfl,rfl,hF⟩
  ·rw [if_neg hiq] at hx
   obtain ⟨h1,h2⟩:=hbl i x hx
   exact .inl ⟨h1,(hoth i h1 hiq).trans hx,h2⟩
end Go.Proofs.YtcbifofjjpfbcaaGreatDoor
