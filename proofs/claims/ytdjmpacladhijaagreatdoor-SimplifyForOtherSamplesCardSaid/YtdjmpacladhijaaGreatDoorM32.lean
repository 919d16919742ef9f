/- Part of the proof: Br, BrT, T1, T3, T4, T7, T8, ER, T9, TA, TB, EB, TE, P1, P2, H1, E5, BrP, KB. -/
import Derived.ChangeArms
import Derived.DataReads
import Derived.DataOpen
import Derived.OpenShut
import Derived.Lib.LaidTab
import Derived.Carry
import Derived.ProofKit
import Derived.WideKeyArgs
import Derived.WalkKit
import GoSem.ClaimJoined
import Derived.Test.YtdjmpacladhijaaGreatDoorM13
import Derived.Test.YtdjmpacladhijaaGreatDoorM25
set_option linter.unusedSimpArgs false
set_option linter.unusedVariables false
set_option maxRecDepth 16000
set_option maxHeartbeats 2000000
namespace Go.SL
section
open Go Go.ChangeShapes
def a8f:Lit→Value
 | .int k n => .int k n
 | .bool b => .bool b
 | .string s => .string ⟨s.toArray⟩
 | .float k b => .float k b
 | .nil => .nilIface
mutual
def HI {H:Type}:DataW H→List Value
 | .lit l=>[a8f l]
 | .agg parts=>DJ parts
 | .nil=>[]
 | .ptr _=>[]
 | .slice _ _=>[]
 | .iface _ _=>[]
 | .map _=>[]
 | .held _=>[]
def DJ {H:Type}:List (DataW H)→List Value
 | []=>[]
 | d :: r=>HI d ++ DJ r
end
def Lay (H:Type) (P:Program) (t:TypeId) (n:Nat) (d:DataW H):Prop :=
 ∀ (enc:TypeId × Value→H) (w:World) (sp:Nat→Bool) (held:Bool) (fuel:Nat) (cs:List Value) (ps:List MemPlace),DataW.trod enc P w 0 sp held fuel t cs=some (d,ps)→cs=HI d∧cs.length=n
section
variable {H:Type} {enc:TypeId × Value→H} {P:Program}
end
end
section
open Go Go.ChangeShapes Go.WideShapes Go.ChangeAt Go.RowKit
section
variable {P:Program} {H:Type} {enc:TypeId × Value→H}
theorem ve {w : World} {base : Nat} {spare : Nat → Bool} {held : Bool} {t0 t1 t2 t3 t4 : TypeId} {args : Array Value} {ds : List (DataW H)} {ps : List MemPlace} (h : DataW.TrodAll enc P w base spare held [t0, t1, t2, t3, t4] args.toList ds ps) :
  ∃ v0 v1 v2 v3 v4 d0 d1 d2 d3 d4 p0 p1 p2 p3 p4,args = #[v0,v1,v2,v3,v4]∧ds=[d0,d1,d2,d3,d4]∧ps=p0 ++ p1 ++ p2 ++ p3 ++ p4∧DataW.Trod enc P w base spare held t0 v0 d0 p0∧DataW.Trod enc P w base spare held t1 v1 d1 p1 ∧
   DataW.Trod enc P w base spare held t2 v2 d2 p2∧DataW.Trod enc P w base spare held t3 v3 d3 p3∧DataW.Trod enc P w base spare held t4 v4 d4 p4:=by
 obtain ⟨v0,vs,d0,ds',p0,q,hargs,rfl,rfl,h0,hrest⟩:=trodAll_cons h;obtain ⟨v1,vs1,d1,ds1,p1,q1,rfl,rfl,rfl,h1,hrest1⟩:=trodAll_cons hrest;obtain ⟨v2,vs2,d2,ds2,p2,q2,rfl,rfl,rfl,h2,hrest2⟩:=trodAll_cons hrest1;obtain ⟨v3,vs3,d3,ds3,p3,q3,rfl,rfl,rfl,h3,hrest3⟩:=trodAll_cons hrest2;obtain ⟨v4,vs4,d4,ds4,p4,q4,rfl,rfl,rfl,h4,hrest4⟩:=trodAll_cons hrest3;obtain ⟨rfl,rfl,rfl⟩:=trodAll_nil hrest4;exact ⟨v0,v1,v2,v3,v4,d0,d1,d2,d3,d4,p0,p1,p2,p3,p4,by grind,rfl,by simp,h0,h1,h2,h3,h4⟩
end
end
end Go.SL
namespace Go.Proofs.YtdjmpacladhijaaGreatDoor
open Go Go.SL
open Go.RowKit (wrap64)
theorem SP {x:Ex} {m:Int} (hm:0<m) (h:ExOk x) (h':ExOk ⟨m * x.p,m * x.q,x.r,m * x.d⟩):hx ⟨m * x.p,m * x.q,x.r,m * x.d⟩=hx x:=by
 obtain ⟨a1,a2,_⟩:=mH h;have key:∀ n,pa ⟨m * x.p,m * x.q,x.r,m * x.d⟩ 2 n=pa x 2 n:=fun n=>by
  simp only [pa];have e1:n * (m * x.d) - 2 * (m * x.p)=m * (n * x.d - 2 * x.p):=by grind
  have e2:2 * (m * x.q) * (2 * (m * x.q)) * x.r=m * m * (2 * x.q * (2 * x.q) * x.r):=by grind
  rw [e1,e2];congr 1;have hmm:=Int.mul_pos hm hm;have e4:m * (n * x.d - 2 * x.p) * (m * (n * x.d - 2 * x.p))=m * m * ((n * x.d - 2 * x.p) * (n * x.d - 2 * x.p)):=by grind
  rw [e4];refine propext (or_congr ⟨fun q => ?_,fun q => ?_⟩ ⟨fun q=>Int.le_of_mul_le_mul_left q hmm,fun q=>Int.mul_le_mul_of_nonneg_left q (Int.le_of_lt hmm)⟩)
  ·refine Int.le_of_mul_le_mul_left (a:=m) ?_ hm;grind
  ·have:=Int.mul_le_mul_of_nonneg_left q (Int.le_of_lt hm);grind
 grind [LI,hx]
section
section
variable {op mode m cs sl cb ab:Int}
variable {fs c acc:Int}
theorem uA (hm:Full m) (hs:Pre cs sl m) (hd:Pre cb ab m) (hf:sl≤fs) (hfm:fs≤m):dB mode m cs sl fs cb cb ab=dk 4 mode m cs sl cb ab:=by
 have hk:=nJ (mode:=mode) hm hs hd hf hfm hd.s0 (Int.le_trans hd.sa hd.am);have hv:=jG (op:=4) (mode:=mode) hm hs hd;have e:dR 4 mode m cs sl cb ab=⟨m * (eG mode m cs sl fs cb cb ab).p,m * (eG mode m cs sl fs cb cb ab).q,(eG mode m cs sl fs cb cb ab).r,m * (eG mode m cs sl fs cb cb ab).d⟩:=by
  have e1:iD 4 sl ab m=m:=rfl;have e2:jy 4 sl ab m=m - sl:=rfl;unfold dR eG;rw [e1,e2];generalize aR mode cs sl cb ab=t;congr 1
  ·grind
  ·grind
 show hx _=hx _;rw [e] at hv ⊢;exact (SP hm.pos hk hv).symm
theorem Jo (hm:Full m):dU m sl fs ab ab=cK 4 sl ab m:=by grind [dU,cK,iD,jy]
end
end
section
section
variable {op m a b f g:Int}
end
section
variable {m a f acc acc' b:Int}
end
theorem Kb {x:Acc} {m:Int} (hm:Full m) (h:AccV x bG m) (ho:x.own=x.a):bU x bG m=⟨x.c0,x.c1,x.c2,x.a,x.f⟩:=by
 have e:∀ {c:Int},0≤c→c≤x.own→iC c 0 x.own m=c:=fun {c} q1 q2=>by
  unfold iC;rw [Int.mul_zero,Int.sub_zero,fA hm.pos];split
  ·omega
  ·rename_i hn;have h1:=au (Int.le_of_lt hm.pos) q1;rcases Int.lt_or_eq_of_le q1 with q|q
   ·exact absurd (Int.mul_pos hm.pos q) (by omega)
   ·exact q
 have l0:=h.l0;have l1:=h.l1;have l2:=h.l2;show (⟨iC x.c0 0 x.own m,iC x.c1 0 x.own m,iC x.c2 0 x.own m,x.own,x.f⟩:Pixel)=_;rw [e h.n0 (by omega),e h.n1 (by omega),e h.n2 (by omega),ho]
end
section
theorem KG {n m d:Int} (hm:0<m) (hd:0<d):cn (n * d) (m * d)=cn n m:=by
 obtain ⟨a1,a2⟩:=mQ (n:=n) hm;refine tf (Int.mul_pos hm hd) ?_ ?_
 ·have:=Int.mul_le_mul_of_nonneg_right a1 (Int.le_of_lt hd);grind
 ·have:=Int.mul_lt_mul_of_pos_right a2 hd;grind
section
variable {op mode m cs sl cb ab:Int}
theorem xr (hm:Full m) (hs:Pre cs sl m) (hd:Pre cb ab m):dk 3 mode m cs sl cb ab=cb:=by
 have ho:=jG (op:=3) (mode:=mode) hm hs hd;unfold dk;rw [rZ ho (by show 0 * _ * _ * _=0;simp)];show cn ((aR mode cs sl cb ab).p * 0+(m - ab) * cs * 0 * (aR mode cs sl cb ab).d+m * cb * m * (aR mode cs sl cb ab).d) (m * m * (aR mode cs sl cb ab).d)=cb;have hd0:0<m * m * (aR mode cs sl cb ab).d:=ho.d0;rw [show (aR mode cs sl cb ab).p * 0+(m - ab) * cs * 0 * (aR mode cs sl cb ab).d+m * cb * m * (aR mode cs sl cb ab).d=m * m * (aR mode cs sl cb ab).d * cb by grind,fA hd0]
theorem Oc (hm:Full m):cK 3 sl ab m=ab:=by
 unfold cK;rw [show iD 3 sl ab m=0 from rfl,show jy 3 sl ab m=m from rfl,Int.zero_mul,Int.zero_add,fA hm.pos]
end
section
variable {ko:Bool} {op mode m:Int} {s:Pixel} {x:Acc} {b:Pixel}
theorem Ur (hm:Full m) (hs:PixV s m) (h:AccV x b m):bQ false 3 mode m s x b=x:=by
 unfold bQ;rw [if_neg (by decide)];simp only [xr hm hs.pre0 h.pre0,xr hm hs.pre1 h.pre1,xr hm hs.pre2 h.pre2,Oc hm];rfl
theorem Ff (hm:Full m) (hs:PixV s m) (hop:op=6∨op=7∨op=9∨op=10):bQ false op mode m s kz b=kz:=by
 have hz:=(JV hm).pre0;have fa:iD op s.a 0 m=0:=by rcases hop with rfl|rfl|rfl|rfl <;> rfl
 have col:∀ {c:Int},Pre c s.a m→dk op mode m c s.a 0 0=0:=fun {c} hc=>by
  have hz:Pre 0 0 m:=⟨Int.le_refl _,Int.le_refl _,Int.le_of_lt hm.pos⟩
  obtain ⟨t1,t2⟩:=pE (mode:=mode) hm hc hz (.inr rfl);refine lJ hm hc hz t2 ?_;grind [zw]
 have al:cK op s.a 0 m=0:=by
  unfold cK;rw [fa,Int.zero_mul,Int.mul_zero,Int.zero_add,kr hm.pos]
 have sh:eC op s.f 0 m=0:=by
  unfold eC;rcases hop with rfl|rfl|rfl|rfl <;> simp [kr hm.pos]
 unfold bQ;rw [if_neg (by decide)];simp only [kz,col hs.pre0,col hs.pre1,col hs.pre2,al,sh]
def Kz (s:Pixel):Acc:=⟨s.c0,s.c1,s.c2,s.a,s.a,s.f⟩
theorem qs (hm:Full m) (hs:PixV s m) (hop:op=2∨op=4∨op=5∨op=8∨op=11∨op=12):bQ false op mode m s kz b=Kz s:=by
 have fa:iD op s.a 0 m=m:=by
  unfold iD;rcases hop with rfl|rfl|rfl|rfl|rfl|rfl <;> simp
 have col:∀ {c:Int},Pre c s.a m→dk op mode m c s.a 0 0=c:=fun {c} hc=>by
  have hz:Pre 0 0 m:=⟨Int.le_refl _,Int.le_refl _,Int.le_of_lt hm.pos⟩
  obtain ⟨t1,t2⟩:=pE (mode:=mode) hm hc hz (.inr rfl);refine lJ hm hc hz t2 ?_;grind [zw]
 have al:cK op s.a 0 m=s.a:=by
  unfold cK;rw [fa,Int.mul_zero,Int.add_zero,fA hm.pos]
 have sh:eC op s.f 0 m=s.f:=by
  unfold eC;rcases hop with rfl|rfl|rfl|rfl|rfl|rfl <;> simp [fA hm.pos]
 unfold bQ;rw [if_neg (by decide)];simp only [kz,Kz,col hs.pre0,col hs.pre1,col hs.pre2,al,sh]
theorem NO {mode':Int} (hm:Full m) (hs:PixV s m) (h:AccV x bG m):bQ true op mode m s x bG=bQ true op mode' m s x bG:=by
 have col:∀ {c y mo:Int},Pre c s.a m→0≤y→y≤m→dB mo m c s.a s.f y 0 0=cn ((m - s.f) * y+m * c) m:=fun {c y mo} hc h0 h1=>by
  have hz:Pre 0 0 m:=⟨Int.le_refl _,Int.le_refl _,Int.le_of_lt hm.pos⟩
  obtain ⟨t1,t2⟩:=pE (mode:=mo) hm hc hz (.inr rfl);have ho:=nJ (mode:=mo) hm hc hz hs.af hs.fm h0 h1;have hd:=(lI (mode:=mo) hm hc hz).d0;unfold dB;rw [rZ ho t2];show cn ((aR mo c s.a 0 0).p+((m - s.f) * y+(s.f - s.a) * 0+(m - 0) * c) * (aR mo c s.a 0 0).d) (m * (aR mo c s.a 0 0).d)=_;rw [t1,Int.zero_add,Int.mul_zero,Int.add_zero,Int.sub_zero,KG hm.pos (by omega)]
 have l0:=h.l0;have l1:=h.l1;have l2:=h.l2;have am:=h.am;unfold bQ;rw [if_pos rfl,if_pos rfl];simp only [bG,col hs.pre0 h.n0 (by omega),col hs.pre1 h.n1 (by omega),col hs.pre2 h.n2 (by omega)]
theorem yL (hm:Full m) (hs:PixV s m) (hb:PixV b m):bQ true 4 mode m s (gL b) b=bQ false 4 mode m s (gL b) b:=by
 unfold bQ;rw [if_pos rfl,if_neg (by decide)];simp only [gL,uA hm hs.pre0 hb.pre0 hs.af hs.fm,uA hm hs.pre1 hb.pre1 hs.af hs.fm,uA hm hs.pre2 hb.pre2 hs.af hs.fm,Jo hm]
theorem yI (hm:Full m) (hs:PixV s m) (h:AccV x b m):bQ false 1 mode m s x b=kz:=by
 have col:∀ {c d:Int},Pre c s.a m→Pre d x.a m→dk 1 mode m c s.a d x.a=0:=fun {c d} hc hd=>by
  have ho:=jG (op:=1) (mode:=mode) hm hc hd;unfold dk;rw [rZ ho (by show 0 * _ * _ * _=0;simp),zw,show iD 1 s.a x.a m=0 from rfl,show jy 1 s.a x.a m=0 from rfl];simp [kr (show 0<(dR 1 mode m c s.a d x.a).d from ho.d0)]
 unfold bQ;rw [if_neg (by decide)];have al:∀ y,cK 1 s.a y m=0:=fun y=>by
  unfold cK;rw [show iD 1 s.a y m=0 from rfl,show jy 1 s.a y m=0 from rfl,Int.zero_mul,Int.zero_mul,Int.zero_add,kr hm.pos]
 simp only [kz,col hs.pre0 h.pre0,col hs.pre1 h.pre1,col hs.pre2 h.pre2,al];rfl
theorem Ej (hm:Full m) (hs:PixV s m) (h:AccV x b m):bQ false 2 1 m s x b=Kz s:=by
 have col:∀ {c d:Int},Pre c s.a m→Pre d x.a m→dk 2 1 m c s.a d x.a=c:=fun {c d} hc hd=>by
  refine lJ hm hc hd rfl ?_;show c * x.a * m+(m - x.a) * c * m * 1+0 * d * m * 1=c * (m * m * 1)
  grind
 have al:∀ y,cK 2 s.a y m=s.a:=fun y=>by
  unfold cK;rw [show iD 2 s.a y m=m from rfl,show jy 2 s.a y m=0 from rfl,Int.zero_mul,Int.add_zero,fA hm.pos]
 unfold bQ;rw [if_neg (by decide)];simp only [Kz,col hs.pre0 h.pre0,col hs.pre1 h.pre1,col hs.pre2 h.pre2,al];rfl
theorem zW (hm:Full m) (hs:PixV s m) (h:AccV x b m) (ha:s.a=m):bQ false 4 1 m s x b=Kz s:=by
 have hf:s.f=m:=Int.le_antisymm hs.fm (by have:=hs.af;omega);have col:∀ {c d:Int},Pre c s.a m→Pre d x.a m→dk 4 1 m c s.a d x.a=c:=fun {c d} hc hd=>by
  refine lJ hm hc hd rfl ?_;show c * x.a * m+(m - x.a) * c * m * 1+(m - s.a) * d * m * 1=c * (m * m * 1)
  grind
 have al:∀ y,cK 4 s.a y m=s.a:=fun y=>by
  unfold cK;rw [show iD 4 s.a y m=m from rfl,show jy 4 s.a y m=m - s.a from rfl,ha,Int.sub_self,Int.zero_mul,Int.add_zero,fA hm.pos]
 have sh:∀ g,eC 4 s.f g m=s.f:=fun g=>by rw [ng hm,show Ws 4 s.f g m=m * s.f+(m - s.f) * g from rfl,hf,Int.sub_self,Int.zero_mul,Int.add_zero,fA hm.pos]
 unfold bQ;rw [if_neg (by decide)];simp only [Kz,col hs.pre0 h.pre0,col hs.pre1 h.pre1,col hs.pre2 h.pre2,al,sh]
theorem Jk {y:Acc} (hm:Full m) (hf:s.f=m):bQ true 4 mode m s x b=bQ true 4 mode m s y b:=by
 have col:∀ {c d u v:Int},dB mode m c s.a s.f u d b.a=dB mode m c s.a s.f v d b.a:=fun {c d u v}=>by grind [dB,eG]
 grind [dU,cn,eC,Ws,ng,bQ]
end
end
section
section
variable {s:Script} {x y:Int}
theorem Ee {r q:Rect} (h:cS r q=true) (hq:aM q=false) (hxy:jo q x y):aM r=false∧jo r x y:=by
 unfold cS at h;grind [jo]
end
end
theorem IV {s:Script} {i k:Nat} {r:Rx}:r ∈ kM s i k↔r.2=i∧0≤r.1∧r.1<k∧uN s r.1 r.2=true:=by
 simp only [kM,List.mem_map,List.mem_filter,List.mem_range];constructor
 ·grind
 ·rintro ⟨h1,h2,h3,h4⟩;refine ⟨r.1.toNat,⟨by omega, ?_⟩, ?_⟩
  ·grind
  grind
theorem Vh {s:Script} {k:Nat} {r:Rx}:r ∈ jv s k↔r.2<k∧uN s r.1 r.2=true:=by
 simp only [jv,List.mem_flatMap,List.mem_range,IV];grind [uN,rm]
theorem vF {s:Script} {r:Rx}:r ∈ fc s↔(gu s).1=0∧uN s r.1 r.2=true:=by grind [fc,gu,uN,jv,Vh,rm]
theorem Kv (s:Script):(fc s).Pairwise (fun a b=>a.2<b.2∨a.2=b.2∧a.1<b.1):=by
 unfold fc;split
 ·rw [jv,List.pairwise_flatMap];refine ⟨fun a _ => ?_, ?_⟩
  ·rw [kM,List.pairwise_map];refine List.Pairwise.filter _ ?_;refine (List.pairwise_lt_range (n:=10)).imp ?_;omega
  ·refine (List.pairwise_lt_range (n:=s.ops.length)).imp ?_;grind [kM,IV]
 simp_all
theorem vX {s:Script} {r:Rx} (h:(fc s).head?=some r):r ∈ fc s∧∀ q ∈ fc s,r.2<q.2∨r.2=q.2∧r.1≤q.1:=by
 have hp:=Kv s;cases hl:fc s with
 | nil=>grind
 | cons a t =>
  rw [hl] at h hp;simp only [List.head?_cons,Option.some.injEq] at h;subst h;refine ⟨List.mem_cons_self ..,fun q hq => ?_⟩;rcases List.mem_cons.1 hq with rfl|hq
  ·omega
  ·have:=(List.pairwise_cons.1 hp).1 q hq;omega
theorem UH {s:Script} (h:(fc s).head?=none):fc s=[]:=by simp_all
def oj (s:Script) (r:Rx):Script:=cl s (rf s r.1.toNat r.2.toNat)
theorem vw {f:Nat} {s:Script} (h:(fc s).head?=none):jA f s=(s.ops,[]):=by
 cases f with
 | zero=>rfl
 | succ f=>rw [jA,h]
theorem vl {f:Nat} {s:Script} {r:Rx} (h:(fc s).head?=some r):jA (f+1) s=((jA f (oj s r)).1,r :: (jA f (oj s r)).2):=by rw [jA,h];rfl
theorem Vo {s:Script} {r:Rx} (h:uN s r.1 r.2=true) (h5:5≤r.1) (h8:r.1≤8):Chg s (oj s r) r.1.toNat r.2.toNat:=by
 obtain ⟨g1,g2,g3,g4,g5⟩:=rm h;refine ⟨by omega,g3, ?_,fun h8 => ?_,fun h6 => ?_⟩
 ·grind [oj,rf]
 ·grind [Hq,Hm,ah,jw]
 ·rw [h6] at g5;have hu:IT s r.2.toNat=true:=g5;grind [IT]
section
theorem Jf {ops:List Op} {i:Nat} (hi:i<ops.length):ah ops i ∈ ops:=by grind [ah]
section
variable {s:Script} {m x y:Int}
theorem IF (C:Pt s m x y) {i:Nat} (hi:i<s.ops.length) (hk:(ah s.ops i).kind≠3) {t:Lv} {r:List Lv} (h:At s m i (t :: r)):PixV (kv s m x y i t.op.knockout t.acc t.back) m:=by
 have W:=C.V.wf;unfold kv;rcases W.kinds i hi with h1|h1|h1
 ·rw [if_pos h1];exact C.z.p _
 ·rw [if_neg (by omega)];have he:=fO W hi h1;have hel:=cB W hi;have h2:=ua C h (show i≤i+1 by omega) (by omega);rw [sH hi,iT,jX h1] at h2;have h3:=ua C h2 (show i+1≤aE s.ops i by omega) (by omega);have e:ep m (bg s x y) (iH s.ops (i+1) (aE s.ops i)) (ep m (bg s x y) [] (gU (ah s.ops i) t :: t :: r))=_:=tx (xl W hi h1) _ _;rw [e] at h3;exact pK C.hm h3.v.head.v
 omega
theorem Eg (C:Pt s m x y) {o t:Op} {p:Pixel} {k:Int} (hp:PixV p m) (hk:0≤k) (hkm:k≤m) (h:OpFit m t o):PixV (aL m o p k) m:=pc C.hm hp hk hkm h.op0 h.opm
theorem wJ (C:Pt s m x y) {i:Nat} (hi:i<s.ops.length) (hf:gY s.ops i=true) {t:Lv} {r:List Lv} (h:jP m (bg s x y) s.ops i=t :: r):t.acc=gL t.back:=by
 have W:=C.V.wf;simp only [gY,decide_eq_true_eq] at hf;obtain ⟨hk,h0⟩:=hf;have ha:=oK C i (by omega);rw [h] at ha;cases hs:bE s.ops i with
 | nil =>
  rw [iJ hs] at h0;have hi0:i=0:=by
   refine Nat.eq_zero_of_not_pos fun hp => ?_;have hk0:(ah s.ops 0).kind≠3:=fun q=>W.pops 0 (by omega) q rfl;have h1:dp s.ops 1 (-1)=1:=by rw [dp,if_pos ⟨hk0,iJ rfl⟩];rfl
   have:=lY s.ops (-1) (show 1≤i by omega);omega
  subst hi0;have:t=base:=(List.cons.inj h).1.symm;rw [this];rfl
 | cons p q =>
  rw [ee hs] at h0;have hp:p ∈ bE s.ops i:=by rw [hs];exact List.mem_cons_self ..
  have hpi:=ej hp;have hpk:=iz hp;have hsp:=dv hpk;have hsq:bE s.ops p=q:=lH (l:=[]) hs;have hip:i=p+1:=by
   refine Nat.le_antisymm (Nat.not_lt.1 fun hlt => ?_) hpi;have hk1:(ah s.ops (p+1)).kind≠3:=fun q3=>by
    have h1:=eI (ops:=s.ops) q3;rw [hsp] at h1;have h2:=wx W (i:=p+1+1) (p:=p) (by omega) (by rw [h1];exact fun hq=>by have:=ej (show p ∈ bE s.ops p from hq);omega) i (by omega);exact h2 hp
   have h1:1≤dp s.ops (p+1+1) p:=by rw [dp,if_pos ⟨hk1,ee hsp⟩];omega
   have:=lY s.ops p (show p+1+1≤i by omega);omega
  subst hip;rw [lx (by omega)] at h;obtain ⟨t0,r0,e0⟩:=(oK C p (by omega)).ne;rw [e0,jX hpk] at h;grind [gL,gU,ah]
theorem EE (C : Pt s m x y) {i : Nat} (hi : i < s.ops.length) (hk : (ah s.ops i).kind ≠ 3)
  (h:∀ t r,jP m (bg s x y) s.ops i=t :: r→lg m (bg s x y) (iH s.ops i (aE s.ops i+1)) t.op.knockout t.acc t.back=t.acc):ep m (bg s x y) (gv s i) [base]=ep m (bg s x y) s.ops [base]:=by
 have hel:=cB C.V.wf hi;have heg:=jl C.V.wf hi;obtain ⟨t,r,e⟩:=(oK C i (by omega)).ne;have e1:s.ops=s.ops.take i ++ (iH s.ops i (aE s.ops i+1) ++ s.ops.drop (aE s.ops i+1)):=by
  have:iH s.ops i (aE s.ops i+1) ++ s.ops.drop (aE s.ops i+1)=s.ops.drop i:=by
   conv=>rhs;rw [← List.take_append_drop (aE s.ops i+1) s.ops]
   rw [List.drop_append_of_le_length (by grind)];rfl
  rw [this,List.take_append_drop]
 have e2:ep m (bg s x y) (s.ops.take i) [base]=t :: r:=e
 conv=>rhs;rw [e1]
 rw [gv,fI,fI,fI,e2,kO C hi hk,h t r e]
theorem zu (C : Pt s m x y) {i : Nat} (hi : i < s.ops.length) (hk : (ah s.ops i).kind ≠ 3) {o : Op} (ho : o.kind = (ah s.ops i).kind)
  (h:∀ t r,jP m (bg s x y) s.ops i=t :: r→lg m (bg s x y) (o :: iH s.ops (i+1) (aE s.ops i+1)) t.op.knockout t.acc t.back=lg m (bg s x y) (iH s.ops i (aE s.ops i+1)) t.op.knockout t.acc t.back) :
  ep m (bg s x y) (s.ops.set i o) [base]=ep m (bg s x y) s.ops [base]:=by
 have W:=C.V.wf;have hel:=cB W hi;have heg:=jl W hi;obtain ⟨t,r,e⟩:=(oK C i (by omega)).ne;have tl:iH s.ops (i+1) (aE s.ops i+1) ++ s.ops.drop (aE s.ops i+1)=s.ops.drop (i+1):=by
  conv=>rhs;rw [← List.take_append_drop (aE s.ops i+1) s.ops]
  rw [List.drop_append_of_le_length (by grind)];rfl
 have e1:s.ops=s.ops.take i ++ ((ah s.ops i :: iH s.ops (i+1) (aE s.ops i+1)) ++ s.ops.drop (aE s.ops i+1)):=by rw [List.cons_append,tl,show ah s.ops i :: s.ops.drop (i+1)=s.ops.drop i by simp_all [ah],List.take_append_drop]
 have e3:s.ops.set i o=s.ops.take i ++ ((o :: iH s.ops (i+1) (aE s.ops i+1)) ++ s.ops.drop (aE s.ops i+1)):=by rw [List.cons_append,tl,List.set_eq_take_append_cons_drop,if_pos hi]
 have e2:ep m (bg s x y) (s.ops.take i) [base]=t :: r:=e;have hE:=KN W hi hk;rw [pQ (show i<aE s.ops i+1 by omega) (by omega)] at hE;have hE':Elm (o :: iH s.ops (i+1) (aE s.ops i+1)):=by
  rcases W.kinds i hi with h1|h1|h1
  ·rw [gy W hi h1,oB];exact .draw (ho.trans h1) .nil
  ·have:=fO W hi h1;rw [rP (show i+1≤aE s.ops i by omega) hel];exact .grp (ho.trans h1) (xl W hi h1) (nS W hi h1).1 .nil
  ·omega
 grind [iH,aE,fI,tx,pQ]
theorem rA (C : Pt s m x y) {i : Nat} (hi : i < s.ops.length) (hk : (ah s.ops i).kind ≠ 3) {o : Op} (ho : o.kind = (ah s.ops i).kind) {ko : Bool} {a : Acc} {b : Pixel} :
  lg m (bg s x y) (o :: iH s.ops (i+1) (aE s.ops i+1)) ko a b=bQ ko o.operator o.mode m (aL m o (if o.kind=1 then (bg s x y o).1 else yP m (bg s x y) (iH s.ops (i+1) (aE s.ops i)) o.knockout (cg o.isolated ko a b)) (bg s x y o).2) a b:=by
 have W:=C.V.wf;rcases W.kinds i hi with h|h|h
 ·grind [iH,gy,oB,Ie]
 ·have:=fO W hi h;rw [rP (show i+1≤aE s.ops i by omega) (cB W hi),MW (ho.trans h) (xl W hi h) (nS W hi h).1,if_neg (by omega)]
 omega
end
end
section
section
variable {s:Script} {m x y:Int}
theorem xP {o:Op} {p:Pixel} {k:Int} (hm:Full m) (h:o.opacity=m) (h2:o.mask=0∨k=m):aL m o p k=p:=by grind [aL,As]
theorem Xv {p:Pixel} (h:BA p=true):p=bG:=by
 simp only [BA,decide_eq_true_eq] at h;obtain ⟨c0,c1,c2,a,f⟩:=p;grind [bG]
theorem TA (C:Pt s m x y) {i:Nat} (hi:i<s.ops.length) (hk:(ah s.ops i).kind=2) (h:jw s.ops i=0):aE s.ops i=i+1:=by
 have W:=C.V.wf;have he:=fO W hi hk;have hel:=cB W hi;refine Nat.le_antisymm (Nat.not_lt.1 fun q => ?_) he;have hsp:=dv (ops:=s.ops) hk;have hk1:(ah s.ops (i+1)).kind≠3:=fun q3=>by
  have:=lN W (show i+1<s.ops.length by omega) q3 hsp;omega
 have h1:1≤dp s.ops (i+1+1) i:=by rw [dp,if_pos ⟨hk1,ee hsp⟩];omega
 have:=lY s.ops i (show i+1+1≤s.ops.length by omega);unfold jw at h;omega
theorem a5i (C:Pt s m x y) {i:Nat} (hi:i<s.ops.length) (hk:(ah s.ops i).kind≠3) (h:BL s i=true):ep m (bg s x y) (gv s i) [base]=ep m (bg s x y) s.ops [base]:=by
 have W:=C.V.wf;simp only [BL,Bool.and_eq_true,Bool.or_eq_true,decide_eq_true_eq] at h;obtain ⟨hn,h⟩:=h;refine EE C hi hk fun t r e => ?_;have ha:=oK C i (by omega);rw [e] at ha;refine vQ C hi hk hn ha ?_;rcases h with (h|h)|h
 ·exact BF C.hm h
 ·simp only [yo,TM,Bool.and_eq_true,Bool.or_eq_true,Bool.not_eq_true',decide_eq_true_eq,decide_eq_false_iff_not] at h;obtain ⟨h0,h⟩:=h;have hsm:Vq s (ah s.ops i)=(cH s ((ah s.ops i).mask - 1)).color.a:=if_neg h0;rw [hsm] at h;obtain ⟨g1,g2⟩:=FK C hi hk h0;have hz:(bg s x y (ah s.ops i)).2=0:=by
   by_cases hp:aM (cV s (ah s.ops i))=false∧jo (cV s (ah s.ops i)) x y
   ·grind
   ·exact g2 hp
  rw [hz];exact xZ C.hm h0
 ·have hz:kv s m x y i t.op.knockout t.acc t.back=bG:=by
   unfold kv;rcases W.kinds i hi with k|k|k
   ·rw [if_neg (by omega)] at h;rw [if_pos k];obtain ⟨g1,g2⟩:=AN C hi k;grind [ah,aM,bt,jo,Xv]
   ·grind [iH,TA,oB,MM]
   ·omega
  rw [hz];exact yH C.hm
theorem HK (C:Pt s m x y) {i:Nat} (hi:i<s.ops.length) (hk:(ah s.ops i).kind≠3) {t:Lv} {r:List Lv} (h:At s m i (t :: r)) (h4:(ah s.ops i).operator≠4):t.op.isolated=true∧t.op.knockout=false :=
 (h.fit C hi hk).ctx.resolve_left h4
theorem a4P (C:Pt s m x y) {i:Nat} (hi:i<s.ops.length) (hk:(ah s.ops i).kind≠3) (h:Xt s i=true):ep m (bg s x y) (gv s i) [base]=ep m (bg s x y) s.ops [base]:=by
 simp only [Xt,decide_eq_true_eq] at h;refine EE C hi hk fun t r e => ?_;have ha:=oK C i (by omega);rw [e] at ha;rw [kG C hi hk,h,(HK C hi hk ha (by omega)).2];have hf:=ha.fit C hi hk;have hs:=IF C hi hk ha;rw [(HK C hi hk ha (by omega)).2] at hs;exact Ur C.hm (Eg C hs (C.z.k0 _) (C.z.km _) hf) ha.v.head.v
theorem FZ:gL bG=kz:=rfl
theorem a6J (C:Pt s m x y) {i:Nat} (hi:i<s.ops.length) (hk:(ah s.ops i).kind≠3) (h:Nx s i=true):ep m (bg s x y) (gv s i) [base]=ep m (bg s x y) s.ops [base]:=by
 simp only [Nx,a4d,Bool.and_eq_true,Bool.not_eq_true',decide_eq_true_eq] at h;obtain ⟨hop,hf,hi1,hk1⟩:=h;refine EE C hi hk fun t r e => ?_;have ha:=oK C i (by omega);rw [e] at ha;obtain ⟨f1,f2⟩:=ha.frame hk;rw [hi1] at f1;rw [hk1] at f2;have hb:=(ha.v.head.iso f1).1;have hx:t.acc=kz:=by rw [wJ C hi hf e,hb];rfl
 have hs:=IF C hi hk ha;rw [kG C hi hk];rw [f2,hx] at hs ⊢;exact Ff C.hm (Eg C hs (C.z.k0 _) (C.z.km _) (ha.fit C hi hk)) hop
theorem Qw (C : Pt s m x y) {j : Nat} (hj : j < s.ops.length) (hk : (ah s.ops j).kind = 1) (h : NC s j = true) {t : Lv} {a : Acc} {r : List Lv} (h1 : At s m j (t :: r)) (h2 : At s m j ({ t with acc := a } :: r)) :
  iA m (bg s x y) (t :: r) (ah s.ops j)=iA m (bg s x y) ({ t with acc:=a } :: r) (ah s.ops j):=by
 have hf:=h1.fit C hj (by omega);obtain ⟨f1,f2⟩:=h1.frame (show (ah s.ops j).kind≠3 by omega);have hsv:=Eg C (C.z.p (ah s.ops j)) (C.z.k0 (ah s.ops j)) (C.z.km (ah s.ops j)) hf;have v1:=h1.v.head.v;have v2:AccV a t.back m:=h2.v.head.v;rw [lr hk,lr hk]
 suffices hh : bQ t.op.knockout (ah s.ops j).operator (ah s.ops j).mode m (aL m (ah s.ops j) (bg s x y (ah s.ops j)).1 (bg s x y (ah s.ops j)).2) t.acc t.back =
   bQ t.op.knockout (ah s.ops j).operator (ah s.ops j).mode m (aL m (ah s.ops j) (bg s x y (ah s.ops j)).1 (bg s x y (ah s.ops j)).2) a t.back by
  grind [nz]
 rw [f2];simp only [NC,Bool.or_eq_true,Bool.and_eq_true,Bool.not_eq_true',decide_eq_true_eq,jF] at h;rcases h with ⟨h,hko⟩|⟨⟨⟨⟨hm0,hop⟩,hso⟩,hcv⟩,h⟩
 ·rw [hko,h,yI C.hm hsv v1,yI C.hm hsv v2]
 ·have hc:=(AN C hj hk).1 (Ee hcv C.c C.xy) hso;rw [C.mx] at hop;have hsc:aL m (ah s.ops j) (bg s x y (ah s.ops j)).1 (bg s x y (ah s.ops j)).2=(cH s (ah s.ops j).image).color:=by rw [xP C.hm hop (.inl hm0),hc]
  rw [hsc] at hsv ⊢;split at h
  ·rename_i hko;have h4:(ah s.ops j).operator=4:=hf.ctx.elim id fun q=>by grind
   rw [decide_eq_true_eq,C.mx] at h;rw [hko,h4];exact Jk C.hm h
  ·rename_i hko;rw [Bool.not_eq_true] at hko;simp only [Bool.or_eq_true,Bool.and_eq_true,decide_eq_true_eq] at h;obtain ⟨hmo,h|⟨h,ha⟩⟩:=h
   ·rw [hko,h,hmo,Ej C.hm hsv v1,Ej C.hm hsv v2]
   ·rw [C.mx] at ha;rw [hko,h,hmo,zW C.hm hsv v1 ha,zW C.hm hsv v2 ha]
theorem Tl (C : Pt s m x y) : ∀ (f j : Nat), Cp s f j = true → ∀ {t : Lv} {a : Acc} {r : List Lv}, At s m j (t :: r) → At s m j ({ t with acc := a } :: r) →
  ep m (bg s x y) (s.ops.drop j) (t :: r)=ep m (bg s x y) (s.ops.drop j) ({ t with acc:=a } :: r)
 | 0,j,h,_,_,_,_,_=>by cases h
 | f+1,j,h,t,a,r,h1,h2=>by
  rw [Cp] at h;simp only [Bool.and_eq_true,Bool.or_eq_true,Bool.not_eq_true',decide_eq_true_eq,decide_eq_false_iff_not] at h;obtain ⟨⟨hj,hk⟩,h⟩:=h;have W:=C.V.wf;rcases h with ⟨h3,h4⟩|h
  ·have e:s.ops.drop j=ah s.ops j :: s.ops.drop (j+1):=by rw [List.drop_eq_getElem_cons hj,ah,List.getD_eq_getElem?_getD,List.getElem?_eq_getElem hj];rfl
   grind [iT,Qw]
  ·have hel:=cB W hj;have heg:=jl W hj;have e:s.ops.drop j=iH s.ops j (aE s.ops j+1) ++ s.ops.drop (aE s.ops j+1):=by
    conv=>lhs;rw [← List.take_append_drop (aE s.ops j+1) s.ops]
    rw [List.drop_append_of_le_length (by grind)];rfl
   have g1:=ua C h1 (show j≤aE s.ops j+1 by omega) (by omega);have g2:=ua C h2 (show j≤aE s.ops j+1 by omega) (by omega);rw [kO C hj hk] at g1 g2;rw [e,fI,fI,kO C hj hk,kO C hj hk];exact Tl C f (aE s.ops j+1) h g1 g2
theorem a5K (C:Pt s m x y) {i:Nat} (hi:i<s.ops.length) (hk:(ah s.ops i).kind≠3) (h:cdM s i=true):ep m (bg s x y) (gv s i) [base]=ep m (bg s x y) s.ops [base]:=by
 have W:=C.V.wf;have hel:=cB W hi;have heg:=jl W hi;obtain ⟨t,r,e⟩:=(oK C i (by omega)).ne;have ha:=oK C i (by omega);rw [e] at ha;have g1:=ua C ha (show i≤aE s.ops i+1 by omega) (by omega);rw [kO C hi hk] at g1;have g2:=ha.same (nq W hi hk);have e1:s.ops=s.ops.take i ++ (iH s.ops i (aE s.ops i+1) ++ s.ops.drop (aE s.ops i+1)):=by
  have:iH s.ops i (aE s.ops i+1) ++ s.ops.drop (aE s.ops i+1)=s.ops.drop i:=by
   conv=>rhs;rw [← List.take_append_drop (aE s.ops i+1) s.ops]
   rw [List.drop_append_of_le_length (by grind)];rfl
  rw [this,List.take_append_drop]
 have e2:ep m (bg s x y) (s.ops.take i) [base]=t :: r:=e
 conv=>rhs;rw [e1]
 rw [gv,fI,fI,fI,e2,kO C hi hk];exact Tl C _ _ h g2 g1
end
end
section
section
variable {s:Script} {m x y:Int}
theorem a6u (C:Pt s m x y) {i:Nat} (hi:i<s.ops.length) (hk:(ah s.ops i).kind≠3) (h:xQ s (ah s.ops i)=true):ep m (bg s x y) (s.ops.set i (cQ 5 (ah s.ops i))) [base]=ep m (bg s x y) s.ops [base]:=by
 simp only [xQ,TM,Bool.and_eq_true,Bool.not_eq_true',decide_eq_true_eq,decide_eq_false_iff_not] at h;obtain ⟨⟨⟨h0,hso⟩,ha⟩,hcv⟩:=h;have hsm:Vq s (ah s.ops i)=(cH s ((ah s.ops i).mask - 1)).color.a:=if_neg h0;rw [hsm,C.mx] at ha;have hz:(bg s x y (ah s.ops i)).2=m:=by rw [(FK C hi hk h0).1 (Ee hcv C.c C.xy) hso,ha]
 refine zu C hi hk rfl fun t r e => ?_;rw [rA C hi hk (o:=cQ 5 (ah s.ops i)) rfl,kG C hi hk];have key:∀ p k,aL m (cQ 5 (ah s.ops i)) p k=aL m (ah s.ops i) p m:=fun p k=>by
  unfold aL;rw [if_neg h0];rfl
 rw [key,hz];rfl
theorem BI (C:Pt s m x y) {i:Nat} (hi:i<s.ops.length) (hk:(ah s.ops i).kind≠3) (h1:AI s i=true) (h2:gY s.ops i=true∨JC s i=true) {t:Lv} {r:List Lv} (e:jP m (bg s x y) s.ops i=t :: r) (b:Bool):cg b t.op.knockout t.acc t.back=bG:=by
 have ha:=oK C i (by omega);rw [e] at ha;obtain ⟨f1,f2⟩:=ha.frame hk;have hb:=(ha.v.head.iso (f1.trans h1)).1;unfold cg;split
 ·rfl
 split
 ·exact hb
 ·rename_i q2;have hf:gY s.ops i=true:=h2.elim id fun q=>absurd (f2.trans q) q2;rw [wJ C hi hf e,hb];rfl
theorem a6y (C:Pt s m x y) {i:Nat} (hi:i<s.ops.length) (hk:(ah s.ops i).kind≠3) (h:IT s i=true):ep m (bg s x y) (s.ops.set i (cQ 6 (ah s.ops i))) [base]=ep m (bg s x y) s.ops [base]:=by
 simp only [IT,Bool.and_eq_true,Bool.or_eq_true,Bool.not_eq_true',decide_eq_true_eq] at h;obtain ⟨⟨⟨h1,h2⟩,h3⟩,h4⟩:=h;refine zu C hi hk rfl fun t r e => ?_;rw [rA C hi hk (o:=cQ 6 (ah s.ops i)) rfl,kG C hi hk,kv,BI C hi hk h3 h4 e (ah s.ops i).isolated,BI C hi hk h3 h4 e];rfl
theorem a5N (C:Pt s m x y) {i:Nat} (hi:i<s.ops.length) (hk:(ah s.ops i).kind≠3) (h:EN s i=true):ep m (bg s x y) (s.ops.set i (cQ 7 (ah s.ops i))) [base]=ep m (bg s x y) s.ops [base]:=by
 simp only [EN,Bool.and_eq_true] at h;obtain ⟨h1,h⟩:=h;refine zu C hi hk rfl fun t r e => ?_;have ha:=oK C i (by omega);rw [e] at ha;obtain ⟨f1,f2⟩:=ha.frame hk;rw [h1] at f1;have hb:=(ha.v.head.iso f1).1;have hs:=IF C hi hk ha;have hfit:=ha.fit C hi hk;have hsv:=Eg C hs (C.z.k0 (ah s.ops i)) (C.z.km (ah s.ops i)) hfit;rw [rA C hi hk (o:=cQ 7 (ah s.ops i)) rfl,kG C hi hk];show bQ _ 4 1 m (aL m (ah s.ops i) (kv s m x y i t.op.knockout t.acc t.back) (bg s x y (ah s.ops i)).2) _ _=_;generalize aL m (ah s.ops i) (kv s m x y i t.op.knockout t.acc t.back) (bg s x y (ah s.ops i)).2=p at *
 split at h
 ·rename_i hko;have h4:(ah s.ops i).operator=4:=hfit.ctx.elim id fun q=>by grind
  have hv:=ha.v.head.v;rw [hb] at hv;rw [h4,f2,hko,hb];exact NO C.hm hsv hv
 ·rename_i hko;rw [Bool.not_eq_true] at hko;simp only [Bool.and_eq_true,Aa,decide_eq_true_eq] at h;obtain ⟨⟨hf,hfr⟩,_⟩:=h;have hx:t.acc=kz:=by rw [wJ C hi hf e,hb];rfl
  rw [f2,hko,hx,qs C.hm hsv (.inr (.inl rfl)),qs C.hm hsv hfr]
theorem nI (V:VOps s) {i:Nat} (hi:i<s.ops.length) (hk:(ah s.ops i).kind=2) (h:jw s.ops i=1):(ah s.ops (i+1)).kind≠3∧aE s.ops (i+1)+1=aE s.ops i∧i+2≤aE s.ops i:=by
 have W:=V.wf;obtain ⟨h1,h2⟩:=rl W hi hk (by omega);have hel:=cB W hi;have hsp:=dv (ops:=s.ops) hk;have hs2:=nq W (show i+1<s.ops.length by omega) h2;have hge:=jl W (show i+1<s.ops.length by omega);obtain ⟨e3,e4,hin⟩:=nS W hi hk;have hlt:aE s.ops (i+1)<aE s.ops i:=by
  have hl2:=cB W (show i+1<s.ops.length by omega);refine Nat.not_le.1 fun q => ?_;rcases W.kinds (i+1) (by omega) with k|k|k
  ·grind [gy]
  ·grind [bE,aE,rE,ej]
  ·exact h2 k
 refine ⟨h2, ?_,h1⟩;refine Nat.le_antisymm hlt (Nat.not_lt.1 fun q => ?_);have hn3:(ah s.ops (aE s.ops (i+1)+1)).kind≠3:=fun q3=>by
  have:=lN W (show aE s.ops (i+1)+1<s.ops.length by omega) q3 (hs2.trans hsp);omega
 have:=SE (ops:=s.ops) (i:=i+1) (j:=aE s.ops (i+1)+1) (g:=i) (by omega) (by omega) h2 hn3 (ee hsp) (ee (hs2.trans hsp));omega
theorem tV (C : Pt s m x y) {i : Nat} (hi : i < s.ops.length) (hk : (ah s.ops i).kind = 2) (h : jw s.ops i = 1) {ko : Bool} {a : Acc} {b : Pixel} :
  lg m (bg s x y) (iH s.ops (i+1) (aE s.ops i)) ko a b=bQ ko (ah s.ops (i+1)).operator (ah s.ops (i+1)).mode m (aL m (ah s.ops (i+1)) (kv s m x y (i+1) ko a b) (bg s x y (ah s.ops (i+1))).2) a b:=by
 obtain ⟨h2,h3,h4⟩:=nI C.V hi hk h;have hel:=cB C.V.wf hi;grind [kG]
theorem a6C (C:Pt s m x y) {i:Nat} (hi:i<s.ops.length) (hk:(ah s.ops i).kind≠3) (h:Hq s i=true):ep m (bg s x y) (s.ops.set i (cQ 8 (ah s.ops i))) [base]=ep m (bg s x y) s.ops [base]:=by
 simp only [Hq,Bool.and_eq_true,decide_eq_true_eq] at h;obtain ⟨⟨h1,h2⟩,h3⟩:=h;obtain ⟨k1,k2,k3⟩:=nI C.V hi h1 h3;have hel:=cB C.V.wf hi;refine zu C hi hk rfl fun t r e => ?_;have ha:=oK C i (by omega);rw [e] at ha;have hin:=UV C hi h1 ha;have hfit:=hin.fit C (show i+1<s.ops.length by omega) k1;have h4:(ah s.ops (i+1)).operator=4:=hfit.ctx.elim id fun q=>by grind [ah,gU]
 have hs:=IF C (show i+1<s.ops.length by omega) k1 hin;have hsv:=Eg C hs (C.z.k0 (ah s.ops (i+1))) (C.z.km (ah s.ops (i+1))) hfit;obtain ⟨b1,b2⟩:=LK (i:=(ah s.ops i).isolated) (k:=t.op.knockout) C.hm ha.v.head.v;rw [rA C hi hk (o:=cQ 8 (ah s.ops i)) rfl,kG C hi hk,kv];show bQ _ _ _ m (aL m (ah s.ops i) (if (ah s.ops i).kind=1 then _ else yP m (bg s x y) (iH s.ops (i+1) (aE s.ops i)) false (cg (ah s.ops i).isolated t.op.knockout t.acc t.back)) (bg s x y (ah s.ops i)).2) _ _=_;rw [if_neg (by omega),if_neg (by omega),h2];have hg:yP m (bg s x y) (iH s.ops (i+1) (aE s.ops i)) false (cg (ah s.ops i).isolated t.op.knockout t.acc t.back)=yP m (bg s x y) (iH s.ops (i+1) (aE s.ops i)) true (cg (ah s.ops i).isolated t.op.knockout t.acc t.back):=by
  unfold yP;rw [tV C hi h1 h3,tV C hi h1 h3,h4];have e1:kv s m x y (i+1) false (gL (cg (ah s.ops i).isolated t.op.knockout t.acc t.back)) (cg (ah s.ops i).isolated t.op.knockout t.acc t.back)=kv s m x y (i+1) true (gL (cg (ah s.ops i).isolated t.op.knockout t.acc t.back)) (cg (ah s.ops i).isolated t.op.knockout t.acc t.back):=by
   generalize cg (ah s.ops i).isolated t.op.knockout t.acc t.back=B at *
   have:cg (ah s.ops (i+1)).isolated false (gL B) B=cg (ah s.ops (i+1)).isolated true (gL B) B:=by
    have q:(⟨(gL B).c0,(gL B).c1,(gL B).c2,(gL B).a,(gL B).a⟩:Pixel)=B:=by
     obtain ⟨c0,c1,c2,a,f⟩:=B;dsimp only at b2;rw [b2];rfl
    unfold cg;rw [q];rfl
   unfold kv;rw [this]
  have e2:kv s m x y (i+1) (gU (ah s.ops i) t).op.knockout (gU (ah s.ops i) t).acc (gU (ah s.ops i) t).back=kv s m x y (i+1) true (gL (cg (ah s.ops i).isolated t.op.knockout t.acc t.back)) (cg (ah s.ops i).isolated t.op.knockout t.acc t.back):=by
   show kv s m x y (i+1) (ah s.ops i).knockout _ _=_;rw [h2];rfl
  rw [e2] at hsv;rw [e1,yL C.hm hsv b1]
 rw [hg];rfl
theorem VY {a k:Bool}:cg a k kz bG=bG:=by cases a <;> cases k <;> rfl
theorem a7b (C:Pt s m x y) {i:Nat} (hi:i<s.ops.length) (hk:(ah s.ops i).kind≠3) (h:vg s i=true):ep m (bg s x y) (jY s i) [base]=ep m (bg s x y) s.ops [base]:=by
 have W:=C.V.wf;simp only [vg,Bool.and_eq_true,Bool.or_eq_true,decide_eq_true_eq] at h;obtain ⟨⟨⟨h1,hiso⟩,h3⟩,⟨h4,hmo⟩,hun⟩:=h;obtain ⟨k1,k2,k3⟩:=nI C.V hi h1 h3;have hel:=cB W hi;have hi1:i+1<s.ops.length:=by omega
 obtain ⟨t,r,e⟩:=(oK C i (by omega)).ne;have ha:=oK C i (by omega);rw [e] at ha;have hin:=UV C hi h1 ha;have hfit:=hin.fit C hi1 k1;have hs:=IF C hi1 k1 hin;have hB:cg (ah s.ops i).isolated t.op.knockout t.acc t.back=bG:=by rw [hiso];rfl
 have hsE:kv s m x y (i+1) (gU (ah s.ops i) t).op.knockout (gU (ah s.ops i) t).acc (gU (ah s.ops i) t).back=kv s m x y (i+1) (ah s.ops i).knockout kz bG:=by
  show kv s m x y (i+1) (ah s.ops i).knockout (gL (cg (ah s.ops i).isolated t.op.knockout t.acc t.back)) (cg (ah s.ops i).isolated t.op.knockout t.acc t.back)=_;rw [hB];rfl
 rw [hsE] at hs;have hsv:=Eg C hs (C.z.k0 (ah s.ops (i+1))) (C.z.km (ah s.ops (i+1))) hfit
 -- the operations,as parts
 have e1:s.ops=s.ops.take i ++ ((iH s.ops i (aE s.ops i+1)) ++ s.ops.drop (aE s.ops i+1)):=by
  have:iH s.ops i (aE s.ops i+1) ++ s.ops.drop (aE s.ops i+1)=s.ops.drop i:=by
   conv=>rhs;rw [← List.take_append_drop (aE s.ops i+1) s.ops]
   rw [List.drop_append_of_le_length (by grind)];rfl
  rw [this,List.take_append_drop]
 have e3:jY s i=s.ops.take i ++ ((bI s i :: iH s.ops (i+1+1) (aE s.ops (i+1)+1)) ++ s.ops.drop (aE s.ops i+1)):=by
  rw [k2];unfold jY iH;rw [List.append_assoc,List.append_assoc];rfl
 have e2:ep m (bg s x y) (s.ops.take i) [base]=t :: r:=e;have hkk:(bI s i).kind=(ah s.ops (i+1)).kind:=by
  unfold bI yY rR mr;split <;> split <;> rfl
 have hk2:(rR (ah s.ops i) (mr s (ah s.ops i) (ah s.ops (i+1)))).kind=(ah s.ops (i+1)).kind:=by unfold rR mr;split <;> rfl
 have hE':Elm (bI s i :: iH s.ops (i+1+1) (aE s.ops (i+1)+1)):=by
  rcases W.kinds (i+1) hi1 with q|q|q
  ·rw [gy W hi1 q,oB];exact .draw (hkk.trans q) .nil
  ·have:=fO W hi1 q;rw [rP (show i+1+1≤aE s.ops (i+1) by omega) (by omega)];exact .grp (hkk.trans q) (xl W hi1 q) (nS W hi1 q).1 .nil
  ·omega
 conv=>rhs;rw [e1]
 rw [e3,fI,fI,fI,fI,e2,kO C hi hk,tx hE']
 suffices hh:lg m (bg s x y) (bI s i :: iH s.ops (i+1+1) (aE s.ops (i+1)+1)) t.op.knockout t.acc t.back=lg m (bg s x y) (iH s.ops i (aE s.ops i+1)) t.op.knockout t.acc t.back by rw [hh]
 rw [kG C hi hk,rA C hi1 k1 hkk,kv,if_neg (show ¬ (ah s.ops i).kind=1 by omega),hB]
 -- the group's source is the element's
 have hg:yP m (bg s x y) (iH s.ops (i+1) (aE s.ops i)) (ah s.ops i).knockout bG=aL m (ah s.ops (i+1)) (kv s m x y (i+1) (ah s.ops i).knockout kz bG) (bg s x y (ah s.ops (i+1))).2:=by
  unfold yP;rw [tV C hi h1 h3,FZ,h4,hmo];generalize aL m (ah s.ops (i+1)) (kv s m x y (i+1) (ah s.ops i).knockout kz bG) (bg s x y (ah s.ops (i+1))).2=p at *
  have hst:bQ (ah s.ops i).knockout 4 1 m p kz bG=Kz p:=by
   cases (ah s.ops i).knockout with
   | false=>exact qs C.hm hsv (.inr (.inl rfl))
   | true =>
    rw [← FZ,yL C.hm hsv (uE C.hm),FZ];exact qs C.hm hsv (.inr (.inl rfl))
  have hv:=RO (ko:=(ah s.ops i).knockout) (op:=4) (mode:=1) C.hm hsv (JV C.hm) (.inl rfl);rw [hst] at hv ⊢;exact Kb C.hm hv rfl
 rw [hg]
 -- the new element's source
 have hsrc:(if (bI s i).kind=1 then (bg s x y (bI s i)).1 else yP m (bg s x y) (iH s.ops (i+1+1) (aE s.ops (i+1))) (bI s i).knockout (cg (bI s i).isolated t.op.knockout t.acc t.back))=kv s m x y (i+1) (ah s.ops i).knockout kz bG:=by
  unfold kv;rw [hkk];split
  ·rename_i q;have:bI s i=rR (ah s.ops i) (mr s (ah s.ops i) (ah s.ops (i+1))):=by
    unfold bI yY;rw [if_neg (by omega)]
   rw [this];unfold rR mr;grind [bg,jF,ah]
  ·rename_i q;have q2:(ah s.ops (i+1)).kind=2:=by
    rcases W.kinds (i+1) hi1 with k|k|k
    ·omega
    ·exact k
    ·omega
   have a1:(bI s i).isolated=true:=by
    unfold bI yY;rw [if_pos (hk2.trans q2)]
   have a2:(bI s i).knockout=(ah s.ops (i+1)).knockout:=by
    unfold bI yY;rw [if_pos (hk2.trans q2)];unfold rR mr;by_cases hu:jF s (ah s.ops (i+1))=true
    ·grind
    ·grind
   grind [VY]
 rw [hsrc];have aop:(bI s i).operator=(ah s.ops i).operator∧(bI s i).mode=(ah s.ops i).mode:=by
  unfold bI yY rR;split <;> exact ⟨rfl,rfl⟩
 rw [aop.1,aop.2];congr 1;generalize kv s m x y (i+1) (ah s.ops i).knockout kz bG=p at *
 have full:∀ o,jF s o=true→∀ p k,aL m o p k=p:=fun o ho p k=>by
  simp only [jF,Bool.and_eq_true,decide_eq_true_eq,C.mx] at ho;exact xP C.hm ho.2 (.inl ho.1)
 by_cases hu:jF s (ah s.ops (i+1))=true
 ·rw [full _ hu];have b1:(bI s i).mask=(ah s.ops i).mask∧(bI s i).maskX=(ah s.ops i).maskX∧(bI s i).maskY=(ah s.ops i).maskY∧(bI s i).opacity=(ah s.ops i).opacity:=by
   unfold bI yY rR mr;rw [if_pos hu];split <;> exact ⟨rfl,rfl,rfl,rfl⟩
  grind [bI,ah,aL,bg]
 ·have ho:=hun.resolve_left hu;rw [full _ ho];have b1:(bI s i).mask=(ah s.ops (i+1)).mask∧(bI s i).maskX=(ah s.ops (i+1)).maskX∧(bI s i).maskY=(ah s.ops (i+1)).maskY∧(bI s i).opacity=(ah s.ops (i+1)).opacity:=by
   unfold bI yY rR mr;rw [if_neg hu];split <;> exact ⟨rfl,rfl,rfl,rfl⟩
  grind [bI,ah,aL,bg]
theorem Ql (C:Pt s m x y) {n i:Int} (h:uN s n i=true):ch (cl s (rf s n.toNat i.toNat)) x y=ch s x y:=by
 simp only [uN,Bool.and_eq_true,Bool.not_eq_true',decide_eq_true_eq,decide_eq_false_iff_not] at h;obtain ⟨⟨⟨⟨⟨h1,h2⟩,h3⟩,h4⟩,h5⟩,h6⟩:=h;obtain ⟨k,rfl⟩:=Int.eq_ofNat_of_zero_le h3;rw [Int.toNat_natCast] at *
 have hi:k<s.ops.length:=by omega
 suffices hh:ep m (bg s x y) (rf s n.toNat k) [base]=ep m (bg s x y) s.ops [base] by
  show Ww (aN s.bits) (ep (aN s.bits) (bg s x y) (rf s n.toNat k) [base])=_;unfold ch;rw [C.mx,hh]
 have hv:n=1∨n=2∨n=3∨n=4∨n=5∨n=6∨n=7∨n=8∨n=9:=by omega
 rcases hv with rfl|rfl|rfl|rfl|rfl|rfl|rfl|rfl|rfl
 ·exact a5i C hi h5 h6
 ·exact a4P C hi h5 h6
 ·exact a6J C hi h5 h6
 ·exact a5K C hi h5 h6
 ·exact a6u C hi h5 h6
 ·exact a6y C hi h5 h6
 ·exact a5N C hi h5 h6
 ·exact a6C C hi h5 h6
 ·exact a7b C hi h5 h6
end
end
section
attribute [local go_sem] Int.toNat_natCast sy
def jD (b:Int):Int:=if b=16 then 65535 else 255
def Tv (b:Int):Int:=IntKind.u16.wrap ((jD b).tdiv 2)
def bW (s:Script):Int:=IntKind.i64.wrap (IntKind.i64.wrap (s.canvas.x1 - s.canvas.x0)+2)
def bH (s:Script):Int:=IntKind.i64.wrap (IntKind.i64.wrap (s.canvas.y1 - s.canvas.y0)+1)
def tQ (s:Script):Image:=jq (bW s) (bH s) ⟨Tv s.bits,0,jD s.bits,jD s.bits,jD s.bits⟩
def Oj (s:Script):Image:=jq 1 1 ⟨0,0,0,0,jD s.bits⟩
def dW (s:Script):List Image:=s.images ++ [tQ s,Oj s]
def bX (s:Script) (v:Int):Int:=IntKind.i64.wrap (s.canvas.x0 - eO (IntKind.i64.wrap (v.tdiv 16)) 3)
def uD (s:Script) (v:Int) (o:Op):Op :=
 if o.kind=3 then o
 else if eO v 16=0∨eO v 16=1 then { o with mask:=(dW s).length - 1,maskX:=bX s v,maskY:=s.canvas.y0 }
 else if eO v 16=2 then { o with mask:=(dW s).length,maskX:=s.canvas.x0,maskY:=s.canvas.y0 }
 else if eO v 16=3∨eO v 16=4 then (if o.kind=1 then { o with image:=(dW s).length - 2,x:=bX s v,y:=s.canvas.y0,opacity:=jD s.bits,mask:=0,maskX:=0,maskY:=0,mode:=1 } else o)
 else if eO v 16=5∨eO v 16=6∨eO v 16=7 then
  (if eO (IntKind.i64.wrap (v.tdiv 16)) 2=0 then { o with opacity:=jD s.bits,mask:=0,maskX:=0,maskY:=0,mode:=1,operator:=4 } else { o with opacity:=jD s.bits,mask:=0,maskX:=0,maskY:=0 })
 else if eO v 16=8 then { o with opacity:=0 }
 else o
def ra (s:Script) (l:List Int) (i:Nat):List Op:=(List.range s.ops.length).map fun a=>if a<i then uD s (l.getD a 0) (ah s.ops a) else ah s.ops a
def dX (s:Script) (l:List Int):Script := { s with images:=dW s,ops:=ra s l l.length }
theorem Yx {l:List Image} {c d:Image} {g:Nat→Nat→PV} (h0:∀ j,j<28→PV.le (g 0 j) ((aF c).getD j .any)) (h1:∀ j,j<28→PV.le (g 1 j) ((aF d).getD j .any)):∀ a,a<l.length+2→∀ j,j<28→PV.le (dV l.length (aQ aF l) g a j) (aQ aF (l ++ [c,d]) a j):=fun a ha j hj=>by
 unfold dV;by_cases h:a<l.length
 ·rw [if_pos h];have e:aQ aF l a j=aQ aF (l ++ [c,d]) a j:=congrArg (fun o=>(aF o).getD j .any) (show l.getD a default=(l ++ [c,d]).getD a default by rw [List.getD_eq_getElem?_getD,List.getD_eq_getElem?_getD,List.getElem?_append_left h]);rw [e];exact fun _ _ _ h=>h
 ·rw [if_neg h];have hv:a=l.length∨a=l.length+1:=by omega
  rcases hv with rfl|rfl
  ·have e:aQ aF (l ++ [c,d]) l.length j=(aF c).getD j .any:=congrArg (fun o=>(aF o).getD j .any) (show (l ++ [c,d]).getD l.length default=c by rw [List.getD_eq_getElem?_getD,List.getElem?_append_right (Nat.le_refl _),Nat.sub_self];rfl);rw [e,Nat.sub_self];exact h0 j hj
  ·have e:aQ aF (l ++ [c,d]) (l.length+1) j=(aF d).getD j .any:=congrArg (fun o=>(aF o).getD j .any) (show (l ++ [c,d]).getD (l.length+1) default=d by rw [List.getD_eq_getElem?_getD,List.getElem?_append_right (by omega),Nat.add_sub_cancel_left];rfl);rw [e,Nat.add_sub_cancel_left];exact h1 j hj
theorem vN (s:Script) (l:List Int) (i:Nat):(ra s l i).length=s.ops.length:=by rw [ra,List.length_map,List.length_range]
theorem KE (s:Script) (l:List Int) (i:Nat) {a:Nat} (h:a<s.ops.length):(ra s l i).getD a default=if a<i then uD s (l.getD a 0) (ah s.ops a) else ah s.ops a:=by rw [ra,List.getD_eq_getElem?_getD,List.getElem?_map,List.getElem?_range h];rfl
theorem Km (s:Script) (l:List Int) (i j:Nat) {a:Nat} (h:a<s.ops.length):aQ cC (ra s l i) a j=(cC (if a<i then uD s (l.getD a 0) (ah s.ops a) else ah s.ops a)).getD j .any:=congrArg (fun o=>(cC o).getD j .any) (KE s l i h)
theorem mG (s:Script) (l:List Int) (i j:Nat) {a:Nat} (h:a<s.ops.length):aQ cC (ra s l (i+1)) a j=if a=i then (cC (uD s (l.getD i 0) (ah s.ops i))).getD j .any else aQ cC (ra s l i) a j:=by
 rw [Km s l (i+1) j h,Km s l i j h];by_cases e:a=i
 ·rw [if_pos e,if_pos (by omega),e]
 ·rw [if_neg e];by_cases h2:a<i
  ·rw [if_pos h2,if_pos (by omega)]
  ·rw [if_neg h2,if_neg (by omega)]
theorem Vw (s:Script) (l:List Int) {i:Nat} (h:i=s.ops.length∨i=l.length) (h2:i≤l.length):ra s l i=ra s l l.length:=by
 rcases h with h|h
 ·refine List.map_congr_left fun a ha => ?_;rw [List.mem_range] at ha;rw [if_pos (by omega),if_pos (by omega)]
 ·rw [h]
attribute [local go_sem] yA
theorem BN (s : Script) (l : List Int) (hs : ScriptLen s) (hl : l.length ≤ 4611686018427387904) (ho : s.ops.length ≤ 4096) (hi : s.images.length ≤ 4096) :
  pB Sg 28 [ag (ay s), .c (.p (dq l))] (yA (dX s l)) 8 49 28 (dX s l).images.length (aQ aF (dX s l).images):=by
 have hsol:=iq (bW s) (bH s) ⟨Tv s.bits,0,jD s.bits,jD s.bits,jD s.bits⟩;have hdot:=iq 1 1 ⟨0,0,0,0,jD s.bits⟩;refine Md Tryz.func28 rfl (rs:=[.cell 4 39]) rfl rfl dI (by decide +kernel) (Nat.le_of_ble_eq_true rfl) (bN ba) ?_;repeat' (first|((with_reducible refine aX (id:=3) (fun K hW => ?_));(try simp (maxSteps:=999999)(disch:=omega) only [go_sem]);and_intros;all_goals first|(refine hK _ ?_;clear hK K)|try exact ai)|refine aC ?_)
 refine hW _ (aP [(1, .b (.c (.p (dq l)))),(2, .b (.c (.ptr 0 0))),(4, .b (.c (.ptr 1 0))),(5, .b (U 255))] [(0, .fix [.p (PI s.bits), .p (PI s.canvas.x0), .p (PI s.canvas.y0), .p (PI s.canvas.x1), .p (PI s.canvas.y1), .p (PI s.tileW), .p (PI s.tileH), .p (dq s.order), .own 3 s.images.length, .own 2 s.ops.length]),(1,sy),(2, .arr 33 12 s.ops.length (aQ cC s.ops)),(3, .arr 49 28 s.images.length (aQ aF s.images))] 4) ?_ ?_
 ·refine ar [(1,some 1),(2,some 2),(3,some 3)] ?_ ?_;and_intros;all_goals try exact ak
 clear hW;refine gQ ?_;refine jM fun K hK => ?_;refine bV ?_;and_intros;all_goals first|(refine hK _ ?_;clear hK K)|exact ai|skip
 refine zL (t:=(s.bits == 16)) (aP [(1, .b (.c (.p (dq l)))),(2, .b (.c (.ptr 0 0))),(4, .b (.c (.ptr 1 0))),(5, .b (U (jD s.bits)))] [(0, .fix [.p (PI s.bits), .p (PI s.canvas.x0), .p (PI s.canvas.y0), .p (PI s.canvas.x1), .p (PI s.canvas.y1), .p (PI s.tileW), .p (PI s.tileH), .p (dq s.order), .own 3 s.images.length, .own 2 s.ops.length]),(1,sy),(2, .arr 33 12 s.ops.length (aQ cC s.ops)),(3, .arr 49 28 s.images.length (aQ aF s.images))] 4) ?_ ?_ ?_ ?_
 ·exact ba
 ·intro hb;rw [beq_iff_eq] at hb;rw [show jD s.bits=65535 from if_pos hb];repeat' (refine aC ?_)
  rw [ae];refine ⟨_, ?_,rfl⟩;refine ar [(1,some 1),(2,some 2),(3,some 3)] ?_ ?_;and_intros;all_goals try exact ak
 ·intro hb;rw [beq_eq_false_iff_ne] at hb;rw [show jD s.bits=255 from if_neg hb];repeat' (refine aC ?_)
  refine ⟨_, ?_,rfl⟩;refine ar [(1,some 1),(2,some 2),(3,some 3)] ?_ ?_;and_intros;all_goals try exact ak
 repeat' (first|((with_reducible refine aX (id:=7) (fun K hW => ?_));(try simp (maxSteps:=999999)(disch:=omega) only [go_sem]);and_intros;all_goals first|(refine hK _ ?_;clear hK K)|try exact ai)|refine an (fun K hK => ?_)|refine aa (hsol) ?_|(refine aq hK ?_;try clear hK K))
 refine hW _ (aP [(1, .b (.c (.p (dq l)))),(2, .b (.c (.ptr 0 0))),(4, .b (.c (.ptr 1 0))),(5, .b (U (jD s.bits))),(8, .b (.c (.ptr 4 0)))] [(0, .fix [.p (PI s.bits), .p (PI s.canvas.x0), .p (PI s.canvas.y0), .p (PI s.canvas.x1), .p (PI s.canvas.y1), .p (PI s.tileW), .p (PI s.tileH), .p (dq s.order), .own 3 s.images.length, .own 2 s.ops.length]),(1,sy),(2, .arr 33 12 s.ops.length (aQ cC s.ops)),(3, .arr 49 28 s.images.length (aQ aF s.images)),(4, .fix ((aF (tQ s)).map CV.p))] 5) ?_ ?_
 ·refine ar [(1,some 1),(2,some 2),(3,some 3),(4,some 4)] ?_ ?_;and_intros;all_goals try exact ak
 clear hW;refine cM (id:=8) (.br 0 (.br 1 (.br 2 (.br 3 (.br 4 (.br 5 (.br 6 (.br 7 (.br 8 (.br 9 .leaf .nil) .nil) .nil) .nil) .nil) .nil) .nil) .nil) .nil) .nil) (by decide +kernel) bZ (fun K0 hW => ?_);refine (fun (tl:∀ st,Le st (aP [(1, .b (.c (.p (dq l)))),(2, .b (.c (.ptr 0 0))),(4, .b (.c (.ptr 1 0))),(5, .b (U (jD s.bits)))] [(0, .fix [.p (PI s.bits), .p (PI s.canvas.x0), .p (PI s.canvas.y0), .p (PI s.canvas.x1), .p (PI s.canvas.y1), .p (PI s.tileW), .p (PI s.tileH), .p (dq s.order), .own 3 (s.images.length+2), .own 2 s.ops.length]),(1,sy),(2, .arr 33 12 s.ops.length (aQ cC s.ops)),(3, .arr 49 28 (s.images.length+2) (aQ aF (dW s)))] 4)→K0 st) => ?_) (fun st hl=>hW st _ hl ?_)
 ·clear hW;repeat' (first|exact bp|(refine bO (fun K' hK' => ?_) ?_)|(refine aZ (tl _ ?_);clear tl)|(refine aa (hdot) ?_;(try simp (maxSteps:=999999)(disch:=omega) only [go_sem]);and_intros;(all_goals first|(refine hK' _ ?_;clear hK' K')|trivial|omega|exact Nat.le_of_ble_eq_true rfl|exact ai|skip))|(simp (maxSteps:=999999)(disch:=omega) only [go_sem];and_intros;(all_goals first|(refine hK' _ ?_;clear hK' K')|trivial|omega|exact Nat.le_of_ble_eq_true rfl|exact ai|skip)))
  all_goals
   refine ar [(1,some 1),(2,some 2),(3,some 6)] ?_ ?_;and_intros;all_goals try exact ak
  all_goals
   refine .inr (Yx (fun j hj => ?_) (fun j hj => ?_))
   ·skip
    have hivl:j=0∨j=1∨j=2∨j=3∨j=4∨j=5∨j=6∨j=7∨j=8∨j=9∨j=10∨j=11∨j=12∨j=13∨j=14∨j=15∨j=16∨j=17∨j=18∨j=19∨j=20∨j=21∨j=22∨j=23∨j=24∨j=25∨j=26∨j=27:=by omega
    rcases hivl with rfl|rfl|rfl|rfl|rfl|rfl|rfl|rfl|rfl|rfl|rfl|rfl|rfl|rfl|rfl|rfl|rfl|rfl|rfl|rfl|rfl|rfl|rfl|rfl|rfl|rfl|rfl|rfl <;> (first|exact fun _ _ _ h=>h|exact bP)
   ·skip
    have hivl:j=0∨j=1∨j=2∨j=3∨j=4∨j=5∨j=6∨j=7∨j=8∨j=9∨j=10∨j=11∨j=12∨j=13∨j=14∨j=15∨j=16∨j=17∨j=18∨j=19∨j=20∨j=21∨j=22∨j=23∨j=24∨j=25∨j=26∨j=27:=by omega
    rcases hivl with rfl|rfl|rfl|rfl|rfl|rfl|rfl|rfl|rfl|rfl|rfl|rfl|rfl|rfl|rfl|rfl|rfl|rfl|rfl|rfl|rfl|rfl|rfl|rfl|rfl|rfl|rfl|rfl <;> (first|exact fun _ _ _ h=>h|exact bP)
 clear hW;repeat' (refine aC ?_)
 refine aK (X:=Nat) (fun i=>aP [(1, .b (.c (.p (dq l)))),(2, .b (.c (.ptr 0 0))),(4, .b (.c (.ptr 1 0))),(5, .b (U (jD s.bits))),(9, .b (I (s.images.length+2))),(10, .b (I i))] [(0, .fix [.p (PI s.bits), .p (PI s.canvas.x0), .p (PI s.canvas.y0), .p (PI s.canvas.x1), .p (PI s.canvas.y1), .p (PI s.tileW), .p (PI s.tileH), .p (dq s.order), .own 3 (s.images.length+2), .own 2 s.ops.length]),(1,sy),(2, .arr 33 12 s.ops.length (aQ cC (ra s l i))),(3, .arr 49 28 (s.images.length+2) (aQ aF (dW s)))] 4)
  (fun i=>i≤s.ops.length∧i≤l.length) (fun i=>s.ops.length - i) 0 ?_ ?_ ?_
 ·exact ⟨Nat.zero_le _,Nat.zero_le _⟩
 ·refine ar [(1,some 1),(2,some 2),(3,some 3)] ?_ ?_;and_intros;all_goals try exact ak
  refine .inr fun a ha j hj => ?_;show PV.le (aQ cC s.ops a j) (aQ cC (ra s l 0) a j);rw [Km s l 0 j ha,if_neg (Nat.not_lt_zero a)];exact fun _ _ _ h=>h
 ·rintro i ⟨hi1,hi2⟩;have hend:∀ i,(i=s.ops.length∨i=l.length)→i≤l.length→ra s l i=ra s l l.length:=fun i h h2=>Vw s l h h2;rcases Nat.lt_or_ge i s.ops.length with hlt|hge
  ·rcases Nat.lt_or_ge i l.length with hll|hgl
   ·have hoi:(ra s l i).getD i default=ah s.ops i:=by rw [KE s l i hlt,if_neg (Nat.lt_irrefl i)]
    have hbl:(dW s).length=s.images.length+2:=by rw [dW,List.length_append];rfl
    by_cases hk3:(ah s.ops i).kind=3
    ·have hq:(((ra s l i).getD i default).kind == 3)=true:=by rw [hoi];exact beq_iff_eq.2 hk3
     have hop:uD s (l.getD i 0) (ah s.ops i)=ah s.ops i:=if_pos hk3
     repeat' (first|refine aj hq ?_|refine aC ?_|(refine aH (fun hb => ?_) (fun hb => ?_) <;> try exact ax))
     rw [ae];refine ao (i+1) ?_ ⟨by omega,by omega⟩ (by omega);refine ar [(1,some 1),(2,some 2),(3,some 3)] ?_ ?_;and_intros;all_goals try exact ak
     refine .inr fun a ha j hj => ?_;show PV.le _ (aQ cC (ra s l (i+1)) a j);rw [mG s l i j ha];by_cases e:a=i
     ·rw [if_pos e,hop];simp only [e,hoi];have hivl:j=0∨j=1∨j=2∨j=3∨j=4∨j=5∨j=6∨j=7∨j=8∨j=9∨j=10∨j=11:=by omega
      rcases hivl with rfl|rfl|rfl|rfl|rfl|rfl|rfl|rfl|rfl|rfl|rfl|rfl <;> exact fun _ _ _ h=>h
     ·rw [if_neg e];exact fun _ _ _ h=>h
    have hq:(((ra s l i).getD i default).kind == 3)=false:=by rw [hoi];exact beq_eq_false_iff_ne.2 hk3
    have hbi:((dW s).length:Int)=(s.images.length:Int)+2:=by rw [hbl];rfl
    have hv : eO (l.getD i 0) 16 = 0 ∨ eO (l.getD i 0) 16 = 1 ∨ eO (l.getD i 0) 16 = 2 ∨ eO (l.getD i 0) 16 = 3 ∨ eO (l.getD i 0) 16 = 4 ∨ eO (l.getD i 0) 16 = 5 ∨ eO (l.getD i 0) 16 = 6 ∨ eO (l.getD i 0) 16 = 7 ∨ eO (l.getD i 0) 16 = 8 ∨
      (eO (l.getD i 0) 16≠0∧eO (l.getD i 0) 16≠1∧eO (l.getD i 0) 16≠2∧eO (l.getD i 0) 16≠3∧eO (l.getD i 0) 16≠4∧eO (l.getD i 0) 16≠5∧eO (l.getD i 0) 16≠6∧eO (l.getD i 0) 16≠7∧eO (l.getD i 0) 16≠8):=by omega
    rcases hv with hm|hm|hm|hm|hm|hm|hm|hm|hm|⟨n0,n1,n2,n3,n4,n5,n6,n7,n8⟩
    ·have hop:=show uD s (l.getD i 0) (ah s.ops i)=_ from (if_neg hk3).trans (if_pos (by omega));rw [hbi] at hop;repeat' (first|refine aj (And.intro hq hm) ?_|(((with_reducible refine gx (id:=18) [(93,4),(97,3),(103,4),(105,8),(106,8),(107,8)] (by decide +kernel) (by decide +kernel) ?_ (fun K hK => ?_));exact bZ);(try simp (maxSteps:=999999)(disch:=omega) only [go_sem]);and_intros;(all_goals first|(refine hK _ ba ?_;clear hK K)|exact ai|skip))|refine bL ?_|((first|refine an (fun K hK => ?_)|refine aa (cj (l.getD i 0) 16 (by omega)) ?_|refine aa (cj (IntKind.i64.wrap ((l.getD i 0).tdiv 16)) 3 (by omega)) ?_);and_intros;all_goals first|(refine hK _ ?_;clear hK K)|try exact ai)|(refine aH (fun hb => ?_) (fun hb => ?_);all_goals try exact ax))
     refine hK _ ba ?_;clear hK;repeat' (refine aC ?_)
     rw [ae];refine ao (i+1) ?_ ⟨by omega,by omega⟩ (by omega);refine ar [(1,some 1),(2,some 2),(3,some 3)] ?_ ?_;and_intros;all_goals try exact ak
     refine .inr fun a ha j hj => ?_;show PV.le _ (aQ cC (ra s l (i+1)) a j);rw [mG s l i j ha];by_cases e:a=i
     ·rw [if_pos e,if_pos e,hop];simp only [hoi];have hivl:j=0∨j=1∨j=2∨j=3∨j=4∨j=5∨j=6∨j=7∨j=8∨j=9∨j=10∨j=11:=by omega
      rcases hivl with rfl|rfl|rfl|rfl|rfl|rfl|rfl|rfl|rfl|rfl|rfl|rfl <;> exact fun _ _ _ h=>h
     ·rw [if_neg e,if_neg e];exact fun _ _ _ h=>h
    ·have hop:=show uD s (l.getD i 0) (ah s.ops i)=_ from (if_neg hk3).trans (if_pos (by omega));rw [hbi] at hop;repeat' (first|refine aj (And.intro hq hm) ?_|(((with_reducible refine gx (id:=18) [(93,4),(97,3),(103,4),(105,8),(106,8),(107,8)] (by decide +kernel) (by decide +kernel) ?_ (fun K hK => ?_));exact bZ);(try simp (maxSteps:=999999)(disch:=omega) only [go_sem]);and_intros;(all_goals first|(refine hK _ ba ?_;clear hK K)|exact ai|skip))|refine bL ?_|((first|refine an (fun K hK => ?_)|refine aa (cj (l.getD i 0) 16 (by omega)) ?_|refine aa (cj (IntKind.i64.wrap ((l.getD i 0).tdiv 16)) 3 (by omega)) ?_);and_intros;all_goals first|(refine hK _ ?_;clear hK K)|try exact ai)|(refine aH (fun hb => ?_) (fun hb => ?_);all_goals try exact ax))
     refine hK _ ba ?_;clear hK;repeat' (refine aC ?_)
     rw [ae];refine ao (i+1) ?_ ⟨by omega,by omega⟩ (by omega);refine ar [(1,some 1),(2,some 2),(3,some 3)] ?_ ?_;and_intros;all_goals try exact ak
     refine .inr fun a ha j hj => ?_;show PV.le _ (aQ cC (ra s l (i+1)) a j);rw [mG s l i j ha];by_cases e:a=i
     ·rw [if_pos e,if_pos e,hop];simp only [hoi];have hivl:j=0∨j=1∨j=2∨j=3∨j=4∨j=5∨j=6∨j=7∨j=8∨j=9∨j=10∨j=11:=by omega
      rcases hivl with rfl|rfl|rfl|rfl|rfl|rfl|rfl|rfl|rfl|rfl|rfl|rfl <;> exact fun _ _ _ h=>h
     ·rw [if_neg e,if_neg e];exact fun _ _ _ h=>h
    ·have hop:=show uD s (l.getD i 0) (ah s.ops i)=_ from (if_neg hk3).trans ((if_neg (by omega)).trans (if_pos hm));rw [hbi] at hop
     repeat' (first|refine aj (And.intro hq hm) ?_|((with_reducible refine IG (id:=20) [(112,4),(115,4),(117,8),(118,8),(119,8)] ?_ (fun K hK => ?_));exact bZ;refine bV ?_)|refine aw ?_|refine an (fun K hK => ?_)|refine aa (cj (l.getD i 0) 16 (by omega)) ?_|(refine aH (fun hb => ?_) (fun hb => ?_) <;> try exact ax)|(refine aq hK ?_;try clear hK K)|(refine pz hK ?_;try clear hK K))
     rw [ae];refine ao (i+1) ?_ ⟨by omega,by omega⟩ (by omega);refine ar [(1,some 1),(2,some 2),(3,some 3)] ?_ ?_;and_intros;all_goals try exact ak
     refine .inr fun a ha j hj => ?_;show PV.le _ (aQ cC (ra s l (i+1)) a j);rw [mG s l i j ha];by_cases e:a=i
     ·rw [if_pos e,if_pos e,hop];simp only [hoi];have hivl:j=0∨j=1∨j=2∨j=3∨j=4∨j=5∨j=6∨j=7∨j=8∨j=9∨j=10∨j=11:=by omega
      rcases hivl with rfl|rfl|rfl|rfl|rfl|rfl|rfl|rfl|rfl|rfl|rfl|rfl <;> exact fun _ _ _ h=>h
     ·rw [if_neg e,if_neg e];exact fun _ _ _ h=>h
    ·by_cases hk1:(ah s.ops i).kind=1
     ·have hop:=show uD s (l.getD i 0) (ah s.ops i)=_ from (if_neg hk3).trans ((if_neg (by omega)).trans ((if_neg (by omega)).trans ((if_pos (by omega)).trans (if_pos hk1))));rw [hbi] at hop;have hq1:(((ra s l i).getD i default).kind == 1)=true:=by rw [hoi];exact beq_iff_eq.2 hk1
      repeat' (first|refine aj (And.intro hq (And.intro hm hq1)) ?_|(((with_reducible refine bT (id:=24) [(129,4),(133,3),(139,4),(141,8),(142,8),(143,8)] (by decide +kernel) (by decide +kernel) ?_ (fun K hK => ?_));exact bZ);(try simp (maxSteps:=999999)(disch:=omega) only [go_sem]);and_intros;(all_goals first|(refine hK _ ba ?_;clear hK K)|exact ai|skip))|refine bL ?_|((first|refine an (fun K hK => ?_)|refine aa (cj (l.getD i 0) 16 (by omega)) ?_|refine aa (cj (IntKind.i64.wrap ((l.getD i 0).tdiv 16)) 3 (by omega)) ?_);and_intros;all_goals first|(refine hK _ ?_;clear hK K)|try exact ai)|(refine aH (fun hb => ?_) (fun hb => ?_);all_goals try exact ax))
      refine hK _ ba ?_;clear hK;repeat' (refine aC ?_)
      rw [ae];refine ao (i+1) ?_ ⟨by omega,by omega⟩ (by omega);refine ar [(1,some 1),(2,some 2),(3,some 3)] ?_ ?_;and_intros;all_goals try exact ak
      refine .inr fun a ha j hj => ?_;show PV.le _ (aQ cC (ra s l (i+1)) a j);rw [mG s l i j ha];by_cases e:a=i
      ·rw [if_pos e,if_pos e,hop];simp only [hoi];have hivl:j=0∨j=1∨j=2∨j=3∨j=4∨j=5∨j=6∨j=7∨j=8∨j=9∨j=10∨j=11:=by omega
       rcases hivl with rfl|rfl|rfl|rfl|rfl|rfl|rfl|rfl|rfl|rfl|rfl|rfl <;> exact fun _ _ _ h=>h
      ·rw [if_neg e,if_neg e];exact fun _ _ _ h=>h
     ·have hop:=show uD s (l.getD i 0) (ah s.ops i)=_ from (if_neg hk3).trans ((if_neg (by omega)).trans ((if_neg (by omega)).trans ((if_pos (by omega)).trans (if_neg hk1))));have hq1:(((ra s l i).getD i default).kind == 1)=false:=by rw [hoi];exact beq_eq_false_iff_ne.2 hk1
      repeat' (first|refine aj (And.intro hq (And.intro hm hq1)) ?_|refine aw ?_|refine an (fun K hK => ?_)|refine aa (cj (l.getD i 0) 16 (by omega)) ?_|(refine aH (fun hb => ?_) (fun hb => ?_) <;> try exact ax)|(refine aq hK ?_;try clear hK K))
      rw [ae];refine ao (i+1) ?_ ⟨by omega,by omega⟩ (by omega);refine ar [(1,some 1),(2,some 2),(3,some 3)] ?_ ?_;and_intros;all_goals try exact ak
      refine .inr fun a ha j hj => ?_;show PV.le _ (aQ cC (ra s l (i+1)) a j);rw [mG s l i j ha];by_cases e:a=i
      ·rw [if_pos e,if_pos e,hop];simp only [hoi];have hivl:j=0∨j=1∨j=2∨j=3∨j=4∨j=5∨j=6∨j=7∨j=8∨j=9∨j=10∨j=11:=by omega
       rcases hivl with rfl|rfl|rfl|rfl|rfl|rfl|rfl|rfl|rfl|rfl|rfl|rfl <;> exact fun _ _ _ h=>h
      ·rw [if_neg e,if_neg e];exact fun _ _ _ h=>h
    ·by_cases hk1:(ah s.ops i).kind=1
     ·have hop:=show uD s (l.getD i 0) (ah s.ops i)=_ from (if_neg hk3).trans ((if_neg (by omega)).trans ((if_neg (by omega)).trans ((if_pos (by omega)).trans (if_pos hk1))));rw [hbi] at hop;have hq1:(((ra s l i).getD i default).kind == 1)=true:=by rw [hoi];exact beq_iff_eq.2 hk1
      repeat' (first|refine aj (And.intro hq (And.intro hm hq1)) ?_|(((with_reducible refine bT (id:=24) [(129,4),(133,3),(139,4),(141,8),(142,8),(143,8)] (by decide +kernel) (by decide +kernel) ?_ (fun K hK => ?_));exact bZ);(try simp (maxSteps:=999999)(disch:=omega) only [go_sem]);and_intros;(all_goals first|(refine hK _ ba ?_;clear hK K)|exact ai|skip))|refine bL ?_|((first|refine an (fun K hK => ?_)|refine aa (cj (l.getD i 0) 16 (by omega)) ?_|refine aa (cj (IntKind.i64.wrap ((l.getD i 0).tdiv 16)) 3 (by omega)) ?_);and_intros;all_goals first|(refine hK _ ?_;clear hK K)|try exact ai)|(refine aH (fun hb => ?_) (fun hb => ?_);all_goals try exact ax))
      refine hK _ ba ?_;clear hK;repeat' (refine aC ?_)
      rw [ae];refine ao (i+1) ?_ ⟨by omega,by omega⟩ (by omega);refine ar [(1,some 1),(2,some 2),(3,some 3)] ?_ ?_;and_intros;all_goals try exact ak
      refine .inr fun a ha j hj => ?_;show PV.le _ (aQ cC (ra s l (i+1)) a j);rw [mG s l i j ha];by_cases e:a=i
      ·rw [if_pos e,if_pos e,hop];simp only [hoi];have hivl:j=0∨j=1∨j=2∨j=3∨j=4∨j=5∨j=6∨j=7∨j=8∨j=9∨j=10∨j=11:=by omega
       rcases hivl with rfl|rfl|rfl|rfl|rfl|rfl|rfl|rfl|rfl|rfl|rfl|rfl <;> exact fun _ _ _ h=>h
      ·rw [if_neg e,if_neg e];exact fun _ _ _ h=>h
     ·have hop:=show uD s (l.getD i 0) (ah s.ops i)=_ from (if_neg hk3).trans ((if_neg (by omega)).trans ((if_neg (by omega)).trans ((if_pos (by omega)).trans (if_neg hk1))));have hq1:(((ra s l i).getD i default).kind == 1)=false:=by rw [hoi];exact beq_eq_false_iff_ne.2 hk1
      repeat' (first|refine aj (And.intro hq (And.intro hm hq1)) ?_|refine aw ?_|refine an (fun K hK => ?_)|refine aa (cj (l.getD i 0) 16 (by omega)) ?_|(refine aH (fun hb => ?_) (fun hb => ?_) <;> try exact ax)|(refine aq hK ?_;try clear hK K))
      rw [ae];refine ao (i+1) ?_ ⟨by omega,by omega⟩ (by omega);refine ar [(1,some 1),(2,some 2),(3,some 3)] ?_ ?_;and_intros;all_goals try exact ak
      refine .inr fun a ha j hj => ?_;show PV.le _ (aQ cC (ra s l (i+1)) a j);rw [mG s l i j ha];by_cases e:a=i
      ·rw [if_pos e,if_pos e,hop];simp only [hoi];have hivl:j=0∨j=1∨j=2∨j=3∨j=4∨j=5∨j=6∨j=7∨j=8∨j=9∨j=10∨j=11:=by omega
       rcases hivl with rfl|rfl|rfl|rfl|rfl|rfl|rfl|rfl|rfl|rfl|rfl|rfl <;> exact fun _ _ _ h=>h
      ·rw [if_neg e,if_neg e];exact fun _ _ _ h=>h
    ·by_cases hz:eO (IntKind.i64.wrap ((l.getD i 0).tdiv 16)) 2=0
     ·have hop:=show uD s (l.getD i 0) (ah s.ops i)=_ from (if_neg hk3).trans ((if_neg (by omega)).trans ((if_neg (by omega)).trans ((if_neg (by omega)).trans ((if_pos (by omega)).trans (if_pos hz)))));have hq1:(eO (IntKind.i64.wrap ((l.getD i 0).tdiv 16)) 2 == 0)=true:=beq_iff_eq.2 hz
      repeat' (first|refine aj (And.intro hq (And.intro hm hq1)) ?_|refine aw ?_|refine an (fun K hK => ?_)|refine aa (cj (l.getD i 0) 16 (by omega)) ?_|refine aa (cj (IntKind.i64.wrap ((l.getD i 0).tdiv 16)) 2 (by omega)) ?_|(refine aH (fun hb => ?_) (fun hb => ?_) <;> try exact ax)|(refine aq hK ?_;try clear hK K))
      rw [ae];refine ao (i+1) ?_ ⟨by omega,by omega⟩ (by omega);refine ar [(1,some 1),(2,some 2),(3,some 3)] ?_ ?_;and_intros;all_goals try exact ak
      refine .inr fun a ha j hj => ?_;show PV.le _ (aQ cC (ra s l (i+1)) a j);rw [mG s l i j ha];by_cases e:a=i
      ·rw [if_pos e,if_pos e,hop];simp only [hoi];have hivl:j=0∨j=1∨j=2∨j=3∨j=4∨j=5∨j=6∨j=7∨j=8∨j=9∨j=10∨j=11:=by omega
       rcases hivl with rfl|rfl|rfl|rfl|rfl|rfl|rfl|rfl|rfl|rfl|rfl|rfl <;> exact fun _ _ _ h=>h
      ·rw [if_neg e,if_neg e];exact fun _ _ _ h=>h
     ·have hop:=show uD s (l.getD i 0) (ah s.ops i)=_ from (if_neg hk3).trans ((if_neg (by omega)).trans ((if_neg (by omega)).trans ((if_neg (by omega)).trans ((if_pos (by omega)).trans (if_neg hz)))));have hq1:(eO (IntKind.i64.wrap ((l.getD i 0).tdiv 16)) 2 == 0)=false:=beq_eq_false_iff_ne.2 hz
      repeat' (first|refine aj (And.intro hq (And.intro hm hq1)) ?_|refine aw ?_|refine an (fun K hK => ?_)|refine aa (cj (l.getD i 0) 16 (by omega)) ?_|refine aa (cj (IntKind.i64.wrap ((l.getD i 0).tdiv 16)) 2 (by omega)) ?_|(refine aH (fun hb => ?_) (fun hb => ?_) <;> try exact ax)|(refine aq hK ?_;try clear hK K))
      rw [ae];refine ao (i+1) ?_ ⟨by omega,by omega⟩ (by omega);refine ar [(1,some 1),(2,some 2),(3,some 3)] ?_ ?_;and_intros;all_goals try exact ak
      refine .inr fun a ha j hj => ?_;show PV.le _ (aQ cC (ra s l (i+1)) a j);rw [mG s l i j ha];by_cases e:a=i
      ·rw [if_pos e,if_pos e,hop];simp only [hoi];have hivl:j=0∨j=1∨j=2∨j=3∨j=4∨j=5∨j=6∨j=7∨j=8∨j=9∨j=10∨j=11:=by omega
       rcases hivl with rfl|rfl|rfl|rfl|rfl|rfl|rfl|rfl|rfl|rfl|rfl|rfl <;> exact fun _ _ _ h=>h
      ·rw [if_neg e,if_neg e];exact fun _ _ _ h=>h
    ·by_cases hz:eO (IntKind.i64.wrap ((l.getD i 0).tdiv 16)) 2=0
     ·have hop:=show uD s (l.getD i 0) (ah s.ops i)=_ from (if_neg hk3).trans ((if_neg (by omega)).trans ((if_neg (by omega)).trans ((if_neg (by omega)).trans ((if_pos (by omega)).trans (if_pos hz)))));have hq1:(eO (IntKind.i64.wrap ((l.getD i 0).tdiv 16)) 2 == 0)=true:=beq_iff_eq.2 hz
      repeat' (first|refine aj (And.intro hq (And.intro hm hq1)) ?_|refine aw ?_|refine an (fun K hK => ?_)|refine aa (cj (l.getD i 0) 16 (by omega)) ?_|refine aa (cj (IntKind.i64.wrap ((l.getD i 0).tdiv 16)) 2 (by omega)) ?_|(refine aH (fun hb => ?_) (fun hb => ?_) <;> try exact ax)|(refine aq hK ?_;try clear hK K))
      rw [ae];refine ao (i+1) ?_ ⟨by omega,by omega⟩ (by omega);refine ar [(1,some 1),(2,some 2),(3,some 3)] ?_ ?_;and_intros;all_goals try exact ak
      refine .inr fun a ha j hj => ?_;show PV.le _ (aQ cC (ra s l (i+1)) a j);rw [mG s l i j ha];by_cases e:a=i
      ·rw [if_pos e,if_pos e,hop];simp only [hoi];have hivl:j=0∨j=1∨j=2∨j=3∨j=4∨j=5∨j=6∨j=7∨j=8∨j=9∨j=10∨j=11:=by omega
       rcases hivl with rfl|rfl|rfl|rfl|rfl|rfl|rfl|rfl|rfl|rfl|rfl|rfl <;> exact fun _ _ _ h=>h
      ·rw [if_neg e,if_neg e];exact fun _ _ _ h=>h
     ·have hop:=show uD s (l.getD i 0) (ah s.ops i)=_ from (if_neg hk3).trans ((if_neg (by omega)).trans ((if_neg (by omega)).trans ((if_neg (by omega)).trans ((if_pos (by omega)).trans (if_neg hz)))));have hq1:(eO (IntKind.i64.wrap ((l.getD i 0).tdiv 16)) 2 == 0)=false:=beq_eq_false_iff_ne.2 hz
      repeat' (first|refine aj (And.intro hq (And.intro hm hq1)) ?_|refine aw ?_|refine an (fun K hK => ?_)|refine aa (cj (l.getD i 0) 16 (by omega)) ?_|refine aa (cj (IntKind.i64.wrap ((l.getD i 0).tdiv 16)) 2 (by omega)) ?_|(refine aH (fun hb => ?_) (fun hb => ?_) <;> try exact ax)|(refine aq hK ?_;try clear hK K))
      rw [ae];refine ao (i+1) ?_ ⟨by omega,by omega⟩ (by omega);refine ar [(1,some 1),(2,some 2),(3,some 3)] ?_ ?_;and_intros;all_goals try exact ak
      refine .inr fun a ha j hj => ?_;show PV.le _ (aQ cC (ra s l (i+1)) a j);rw [mG s l i j ha];by_cases e:a=i
      ·rw [if_pos e,if_pos e,hop];simp only [hoi];have hivl:j=0∨j=1∨j=2∨j=3∨j=4∨j=5∨j=6∨j=7∨j=8∨j=9∨j=10∨j=11:=by omega
       rcases hivl with rfl|rfl|rfl|rfl|rfl|rfl|rfl|rfl|rfl|rfl|rfl|rfl <;> exact fun _ _ _ h=>h
      ·rw [if_neg e,if_neg e];exact fun _ _ _ h=>h
    ·by_cases hz:eO (IntKind.i64.wrap ((l.getD i 0).tdiv 16)) 2=0
     ·have hop:=show uD s (l.getD i 0) (ah s.ops i)=_ from (if_neg hk3).trans ((if_neg (by omega)).trans ((if_neg (by omega)).trans ((if_neg (by omega)).trans ((if_pos (by omega)).trans (if_pos hz)))));have hq1:(eO (IntKind.i64.wrap ((l.getD i 0).tdiv 16)) 2 == 0)=true:=beq_iff_eq.2 hz
      repeat' (first|refine aj (And.intro hq (And.intro hm hq1)) ?_|refine aw ?_|refine an (fun K hK => ?_)|refine aa (cj (l.getD i 0) 16 (by omega)) ?_|refine aa (cj (IntKind.i64.wrap ((l.getD i 0).tdiv 16)) 2 (by omega)) ?_|(refine aH (fun hb => ?_) (fun hb => ?_) <;> try exact ax)|(refine aq hK ?_;try clear hK K))
      rw [ae];refine ao (i+1) ?_ ⟨by omega,by omega⟩ (by omega);refine ar [(1,some 1),(2,some 2),(3,some 3)] ?_ ?_;and_intros;all_goals try exact ak
      refine .inr fun a ha j hj => ?_;show PV.le _ (aQ cC (ra s l (i+1)) a j);rw [mG s l i j ha];by_cases e:a=i
      ·rw [if_pos e,if_pos e,hop];simp only [hoi];have hivl:j=0∨j=1∨j=2∨j=3∨j=4∨j=5∨j=6∨j=7∨j=8∨j=9∨j=10∨j=11:=by omega
       rcases hivl with rfl|rfl|rfl|rfl|rfl|rfl|rfl|rfl|rfl|rfl|rfl|rfl <;> exact fun _ _ _ h=>h
      ·rw [if_neg e,if_neg e];exact fun _ _ _ h=>h
     ·have hop:=show uD s (l.getD i 0) (ah s.ops i)=_ from (if_neg hk3).trans ((if_neg (by omega)).trans ((if_neg (by omega)).trans ((if_neg (by omega)).trans ((if_pos (by omega)).trans (if_neg hz)))));have hq1:(eO (IntKind.i64.wrap ((l.getD i 0).tdiv 16)) 2 == 0)=false:=beq_eq_false_iff_ne.2 hz
      repeat' (first|refine aj (And.intro hq (And.intro hm hq1)) ?_|refine aw ?_|refine an (fun K hK => ?_)|refine aa (cj (l.getD i 0) 16 (by omega)) ?_|refine aa (cj (IntKind.i64.wrap ((l.getD i 0).tdiv 16)) 2 (by omega)) ?_|(refine aH (fun hb => ?_) (fun hb => ?_) <;> try exact ax)|(refine aq hK ?_;try clear hK K))
      rw [ae];refine ao (i+1) ?_ ⟨by omega,by omega⟩ (by omega);refine ar [(1,some 1),(2,some 2),(3,some 3)] ?_ ?_;and_intros;all_goals try exact ak
      refine .inr fun a ha j hj => ?_;show PV.le _ (aQ cC (ra s l (i+1)) a j);rw [mG s l i j ha];by_cases e:a=i
      ·rw [if_pos e,if_pos e,hop];simp only [hoi];have hivl:j=0∨j=1∨j=2∨j=3∨j=4∨j=5∨j=6∨j=7∨j=8∨j=9∨j=10∨j=11:=by omega
       rcases hivl with rfl|rfl|rfl|rfl|rfl|rfl|rfl|rfl|rfl|rfl|rfl|rfl <;> exact fun _ _ _ h=>h
      ·rw [if_neg e,if_neg e];exact fun _ _ _ h=>h
    ·have hop:=show uD s (l.getD i 0) (ah s.ops i)=_ from (if_neg hk3).trans ((if_neg (by omega)).trans ((if_neg (by omega)).trans ((if_neg (by omega)).trans ((if_neg (by omega)).trans (if_pos hm)))))
     repeat' (first|refine aj (And.intro hq hm) ?_|refine aw ?_|refine an (fun K hK => ?_)|refine aa (cj (l.getD i 0) 16 (by omega)) ?_|(refine aH (fun hb => ?_) (fun hb => ?_) <;> try exact ax)|(refine aq hK ?_;try clear hK K))
     rw [ae];refine ao (i+1) ?_ ⟨by omega,by omega⟩ (by omega);refine ar [(1,some 1),(2,some 2),(3,some 3)] ?_ ?_;and_intros;all_goals try exact ak
     refine .inr fun a ha j hj => ?_;show PV.le _ (aQ cC (ra s l (i+1)) a j);rw [mG s l i j ha];by_cases e:a=i
     ·rw [if_pos e,if_pos e,hop];simp only [hoi];have hivl:j=0∨j=1∨j=2∨j=3∨j=4∨j=5∨j=6∨j=7∨j=8∨j=9∨j=10∨j=11:=by omega
      rcases hivl with rfl|rfl|rfl|rfl|rfl|rfl|rfl|rfl|rfl|rfl|rfl|rfl <;> exact fun _ _ _ h=>h
     ·rw [if_neg e,if_neg e];exact fun _ _ _ h=>h
    ·have hop:=show uD s (l.getD i 0) (ah s.ops i)=_ from (if_neg hk3).trans ((if_neg (by omega)).trans ((if_neg (by omega)).trans ((if_neg (by omega)).trans ((if_neg (by omega)).trans (if_neg (by omega))))));have e0:=beq_eq_false_iff_ne.2 n0;have e1:=beq_eq_false_iff_ne.2 n1;have e2:=beq_eq_false_iff_ne.2 n2;have e3:=beq_eq_false_iff_ne.2 n3;have e4:=beq_eq_false_iff_ne.2 n4;have e5:=beq_eq_false_iff_ne.2 n5;have e6:=beq_eq_false_iff_ne.2 n6;have e7:=beq_eq_false_iff_ne.2 n7;have e8:=beq_eq_false_iff_ne.2 n8
     repeat' (first|refine aj (And.intro hq (And.intro e0 (And.intro e1 (And.intro e2 (And.intro e3 (And.intro e4 (And.intro e5 (And.intro e6 (And.intro e7 e8))))))))) ?_|refine aw ?_|refine an (fun K hK => ?_)|refine aa (cj (l.getD i 0) 16 (by omega)) ?_|(refine aH (fun hb => ?_) (fun hb => ?_) <;> try exact ax)|(refine aq hK ?_;try clear hK K))
     rw [ae];refine ao (i+1) ?_ ⟨by omega,by omega⟩ (by omega);refine ar [(1,some 1),(2,some 2),(3,some 3)] ?_ ?_;and_intros;all_goals try exact ak
     refine .inr fun a ha j hj => ?_;show PV.le _ (aQ cC (ra s l (i+1)) a j);rw [mG s l i j ha];by_cases e:a=i
     ·rw [if_pos e,if_pos e,hop];simp only [hoi];have hivl:j=0∨j=1∨j=2∨j=3∨j=4∨j=5∨j=6∨j=7∨j=8∨j=9∨j=10∨j=11:=by omega
      rcases hivl with rfl|rfl|rfl|rfl|rfl|rfl|rfl|rfl|rfl|rfl|rfl|rfl <;> exact fun _ _ _ h=>h
     ·rw [if_neg e,if_neg e];exact fun _ _ _ h=>h
   ·have he:i=l.length:=by omega
    repeat' (first|refine aC ?_|(refine aH (fun hb => ?_) (fun hb => ?_) <;> try exact ax))
    have e1:(dX s l).images.length=s.images.length+2:=by show (dW s).length=_;rw [dW,List.length_append];rfl
    have e2:(dX s l).ops.length=s.ops.length:=vN s l _;rw [e1,e2,hend i (.inr he) hi2];refine ⟨⟨_,rfl,rfl,fun _ _ _ _=>PV.le_refl _⟩, ?_⟩;and_intros;all_goals first|exact .inl rfl|trivial|skip
  ·have he:i=s.ops.length:=by omega
   repeat' (first|refine aC ?_|(refine aH (fun hb => ?_) (fun hb => ?_) <;> try exact ax))
   have e1:(dX s l).images.length=s.images.length+2:=by show (dW s).length=_;rw [dW,List.length_append];rfl
   have e2:(dX s l).ops.length=s.ops.length:=vN s l _;rw [e1,e2,hend i (.inl he) hi2];refine ⟨⟨_,rfl,rfl,fun _ _ _ _=>PV.le_refl _⟩, ?_⟩;and_intros;all_goals first|exact .inl rfl|trivial|skip
end
theorem Uz (s:Script) (v:Int) (o:Op):(uD s v o).kind=o.kind∧(uD s v o).isolated=o.isolated∧(uD s v o).knockout=o.knockout:=by
 unfold uD;grind
theorem FN (s:Script) (l:List Int) (a:Nat):ah (dX s l).ops a=ah s.ops a∨∃ v,ah (dX s l).ops a=uD s v (ah s.ops a):=by grind [ah,dX,uD,KE,vN]
theorem xn (s:Script) (l:List Int) (a:Nat):(ah (dX s l).ops a).kind=(ah s.ops a).kind∧(ah (dX s l).ops a).isolated=(ah s.ops a).isolated∧(ah (dX s l).ops a).knockout=(ah s.ops a).knockout:=by grind [uD,FN,Uz]
theorem Hx {f g:Nat→Op} (h1:∀ a,(f a).isolated=(g a).isolated) (h2:∀ a,(f a).knockout=(g a).knockout) (l:List Nat):eS (l.map f)=eS (l.map g):=by grind [eS]
theorem a4J {s:Script} (hc:Small s.canvas) (v:Int) : -2010≤bX s v∧bX s v≤2010:=by
 obtain ⟨x0,x1,y0,y1,hw,hh⟩:=hc;grind [eO,bX,eK]
theorem XK (c:Scene):jD (aI c).bits=eZ c.bits:=Tp c
theorem a0a {s : Script} {v : Int} {o : Op} {l l' : List Op} (hc : Small s.canvas) (hm : jD s.bits = aN s.bits) (hm0 : 0 ≤ aN s.bits) (h1 : 1 ≤ s.images.length) (hk : eS l' = eS l) (hl : l'.length = l.length) (h : dM s.bits s.images.length o l = 0) :
  dM s.bits (dW s).length (uD s v o) l'=0:=by
 have hx:=a4J hc v;obtain ⟨x0,x1,y0,y1,hw,hh⟩:=hc;have hn:(dW s).length=s.images.length+2:=by simp [dW]
 rw [cu] at h ⊢;rw [hk,hl];obtain ⟨a1,a2,a3,a4⟩:=h;by_cases k3:o.kind=3
 ·grind [uD]
 obtain ⟨q1,q2,q3,q4,q5,q6,q7⟩:=a4 k3;simp only [bu,List.all_cons,List.all_nil,Bool.and_true,Bool.and_eq_true,decide_eq_true_eq] at q2;have hf:∀ p:Op,p.kind=o.kind→p.isolated=o.isolated→p.knockout=o.knockout→(o.kind=2→p.image=o.image∧p.x=o.x∧p.y=o.y)→(p.mask=0→p.maskX=0∧p.maskY=0)→cZ p=true:=fun p e1 e2 e3 e4 e5=>by
  simp only [cZ,if_neg k3] at a2;simp only [cZ,e1,if_neg k3,e2,e3];grind
 have hf0:o.mask=0→o.maskX=0∧o.maskY=0:=fun h0=>by simp_all [cZ]
 have fin : ∀ p : Op, p.kind = o.kind → cZ p = true → (o.kind = 1 → 0 ≤ p.image ∧ p.image < (dW s).length) → 0 ≤ p.mask → p.mask ≤ (dW s).length → (-1048576 ≤ p.x ∧ p.x ≤ 1048576 ∧ -1048576 ≤ p.y ∧ p.y ≤ 1048576 ∧ -1048576 ≤ p.maskX ∧ p.maskX ≤ 1048576 ∧ -1048576 ≤ p.maskY ∧ p.maskY ≤ 1048576) →
   p.opacity≤aN s.bits→jn p.operator=true→jn p.mode=true→(p.operator≠4→eS l=true) →
   (1≤p.kind∧p.kind≤3)∧cZ p=true∧(p.kind=3→0<l.length) ∧
   (p.kind≠3→¬ (p.kind=1∧(p.image<0∨(dW s).length≤p.image)∨p.mask<0∨(dW s).length<p.mask)∧bu 1048576 [p.x,p.y,p.maskX,p.maskY]=true∧p.opacity≤aN s.bits∧jn p.operator=true∧jn p.mode=true∧(p.operator≠4→eS l=true)∧(p.kind=2→l.length<64)) :=
  fun p e1 e2 e3 e4 e5 e6 e7 e8 e9 e10=>by grind [bu]
 have him:o.kind=1→0≤o.image∧o.image<(dW s).length:=fun h=>by omega
 unfold uD;rw [if_neg k3];split
 ·exact fin _ rfl (hf _ rfl rfl rfl (fun _=>⟨rfl,rfl,rfl⟩) (fun q=>by dsimp only at q;omega)) him (by dsimp only;omega) (by dsimp only;omega) (by dsimp only;omega) q3 q4 q5 q6
 split
 ·exact fin _ rfl (hf _ rfl rfl rfl (fun _=>⟨rfl,rfl,rfl⟩) (fun q=>by dsimp only at q;omega)) him (by dsimp only;omega) (by simp_all) (by dsimp only;omega) q3 q4 q5 q6
 split
 ·split
  ·rename_i k1;exact fin _ rfl (hf _ rfl rfl rfl (fun q=>by omega) (fun _=>⟨rfl,rfl⟩)) (fun _=>by dsimp only;omega) (by dsimp only;omega) (by dsimp only;omega) (by dsimp only;omega) (by dsimp only;omega) q4 rfl q6
  ·exact fin o rfl a2 him (by omega) (by omega) (by omega) q3 q4 q5 q6
 split
 ·split
  ·exact fin _ rfl (hf _ rfl rfl rfl (fun _=>⟨rfl,rfl,rfl⟩) (fun _=>⟨rfl,rfl⟩)) him (by dsimp only;omega) (by dsimp only;omega) (by dsimp only;omega) (by dsimp only;omega) rfl rfl (fun q=>absurd rfl q)
  ·exact fin _ rfl (hf _ rfl rfl rfl (fun _=>⟨rfl,rfl,rfl⟩) (fun _=>⟨rfl,rfl⟩)) him (by dsimp only;omega) (by dsimp only;omega) (by dsimp only;omega) (by dsimp only;omega) q4 q5 q6
 split
 ·exact fin _ rfl (hf _ rfl rfl rfl (fun _=>⟨rfl,rfl,rfl⟩) hf0) him (by dsimp only;omega) (by dsimp only;omega) (by dsimp only;omega) (by omega) q4 q5 q6
 ·exact fin o rfl a2 him (by omega) (by omega) (by omega) q3 q4 q5 q6
theorem Kt {b:Int} {n n':Nat} {o:Op} {l l':List Op} (hn:n≤n') (hk:eS l'=eS l) (hl:l'.length=l.length) (h:dM b n o l=0):dM b n' o l'=0:=by grind [dM,cu]
theorem Nr {c:Scene} {s:Script} (h:Of c s) (hn:s.images.length≤4) (l:List Int):Of c (dX s l):=by
 have hsm:Small s.canvas:=by rw [h.cv];exact cI c
 have hm:=la c.bits;have hmost:jD s.bits=aN s.bits:=by rw [h.b,XK,sX]
 have hlen:(dX s l).ops.length=s.ops.length:=vN s l _;have hnn:(dW s).length=s.images.length+2:=by simp [dW]
 have W:=h.V.wf;have hk:∀ j,(ah (dX s l).ops j).kind=(ah s.ops j).kind:=fun j=>(xn s l j).1;have hs:=fun i=>ta hk i;have hmx:=h.mx;refine ⟨h.b,h.cv,h.w,h.h,h.o, ?_, ?_, ?_,⟨⟨fun i hi => ?_,fun i hi h3 => ?_, ?_⟩,fun i hi => ?_, ?_, ?_, ?_⟩,fun o ho => ?_⟩
 ·grind [dX,dW]
 ·grind [dX,dW]
 ·intro i h0 h1;have h1:i<((dW s).length:Int):=h1;show ImgV ((dW s).getD i.toNat default) (aN s.bits);have hb:0≤Tv s.bits∧Tv s.bits≤aN s.bits:=by
   rw [← hmost];have:=h.b;unfold Tv;rw [hmost,hmx];rcases hm with q|q <;> rw [q] <;> decide
  have hmp:0≤aN s.bits:=by omega
  unfold dW;rw [List.getD_eq_getElem?_getD];rcases Nat.lt_or_ge i.toNat s.images.length with q|q
  ·rw [List.getElem?_append_left q];have:=h.im i h0 (by omega);grind [cH]
  ·rw [List.getElem?_append_right q];have hv:i.toNat - s.images.length=0∨i.toNat - s.images.length=1:=by omega
   have hw:bW s=s.canvas.x1 - s.canvas.x0+2∧bH s=s.canvas.y1 - s.canvas.y0+1:=by
    obtain ⟨x0,x1,y0,y1,hw,hh⟩:=hsm;unfold bW bH;rw [eK (n:=s.canvas.x1 - s.canvas.x0) (by omega) (by omega),eK (n:=s.canvas.y1 - s.canvas.y0) (by omega) (by omega),eK (by omega) (by omega),eK (by omega) (by omega)];exact ⟨rfl,rfl⟩
   rcases hv with e|e
   ·rw [e];refine ql ?_ ⟨hb.1,Int.le_refl _, ?_, ?_, ?_, ?_,Int.le_refl _, ?_⟩
    ·obtain ⟨x0,x1,y0,y1,hw2,hh⟩:=hsm;rw [hw.1,hw.2,dD,decide_eq_true_eq];have hv:s.canvas.x1 - s.canvas.x0=1∨s.canvas.x1 - s.canvas.x0=2∨s.canvas.x1 - s.canvas.x0=3∨s.canvas.x1 - s.canvas.x0=4∨s.canvas.x1 - s.canvas.x0=5:=by omega
     grind
    all_goals grind
   ·rw [e];exact ql (by decide) ⟨Int.le_refl _,Int.le_refl _,Int.le_refl _,Int.le_refl _,Int.le_refl _,Int.le_refl _,by grind,by grind⟩
 ·rw [hk];exact W.kinds i (by omega)
 ·rw [hs];rw [hk] at h3;exact W.pops i (by omega) h3
 ·rw [hs,hlen];exact W.fin
 ·rw [hs];have hc:=Hx (fun a=>(xn s l a).2.1) (fun a=>(xn s l a).2.2) (bE s.ops i).reverse;have hok:=h.V.ok i (by omega);rcases FN s l i with e|⟨v,e⟩
  ·rw [e];exact Kt (by grind [dX,dW]) hc (by simp) hok
  ·rw [e];exact a0a hsm hmost (by omega) h.n1 hc (by simp) hok
 ·grind [dX,dW]
 ·have:=h.V.cnt;omega
 ·exact Je h.b h.cv h.w h.h h.o (by grind [dX,dW]) (by have:=h.V.cnt;omega)
 ·obtain ⟨i,hi,rfl⟩:=List.mem_iff_getElem.1 ho;have e0:(dX s l).ops[i]=ah (dX s l).ops i:=by rw [ah,List.getD_eq_getElem?_getD,List.getElem?_eq_getElem hi];rfl
  rw [e0];have hoi:=h.op _ (Jf (show i<s.ops.length by omega));rcases FN s l i with e|⟨v,e⟩
  ·grind
  ·rw [e];unfold uD;grind
section
structure Mic where
 op:Int
 kind:Int
 inp:Pixel
 back:Pixel
 k:Int
 out:Pixel
 deriving DecidableEq,Inhabited
def a8Y (m:Int) (x:Mic):Prop:=(x.kind=2∨x.kind=3)∧PixV x.inp m∧0≤x.k∧x.k≤m∧x.out=bY x.inp x.k m
section
variable {s:Script} {m x y:Int}
end
end
section
def ic (u v:Int) (o:Op):Op:=⟨o.kind,o.image,if o.kind=1 then o.x+u else o.x,if o.kind=1 then o.y+v else o.y,o.mask,if o.mask=0 then o.maskX else o.maskX+u,if o.mask=0 then o.maskY else o.maskY+v,o.opacity,o.operator,o.mode,o.isolated,o.knockout⟩
def eV (u v:Int) (s:Script):Script := { s with canvas:=⟨s.canvas.x0+u,s.canvas.y0+v,s.canvas.x1+u,s.canvas.y1+v⟩,ops:=s.ops.map (ic u v) }
def mvL (u v:Int) (t:Lv):Lv:=⟨ic u v t.op,t.acc,t.back⟩
theorem Qi (s:Script) (u v a b:Int) (o:Op):bg (eV u v s) (a+u) (b+v) (ic u v o)=bg s a b o:=by
 unfold bg;refine Prod.ext ?_ ?_
 ·show (if o.kind=1∧0≤o.image∧o.image<s.images.length then gm (cH s o.image) (a+u) (b+v) (ic u v o).x (ic u v o).y else bG)=(if o.kind=1∧0≤o.image∧o.image<s.images.length then gm (cH s o.image) a b o.x o.y else bG)
  by_cases h:o.kind=1∧0≤o.image∧o.image<s.images.length
  ·rw [if_pos h,if_pos h,tp,tp];show dN _ (a+u - (if o.kind=1 then o.x+u else o.x)) (b+v - (if o.kind=1 then o.y+v else o.y))=_;rw [if_pos h.1,if_pos h.1,show a+u - (o.x+u)=a - o.x by omega,show b+v - (o.y+v)=b - o.y by omega]
  ·rw [if_neg h,if_neg h]
 ·show (if 1≤o.mask∧o.mask≤s.images.length then (gm (cH s (o.mask - 1)) (a+u) (b+v) (ic u v o).maskX (ic u v o).maskY).a else 0)=(if 1≤o.mask∧o.mask≤s.images.length then (gm (cH s (o.mask - 1)) a b o.maskX o.maskY).a else 0)
  by_cases h:1≤o.mask∧o.mask≤s.images.length
  ·rw [if_pos h,if_pos h,tp,tp];show (dN _ (a+u - (if o.mask=0 then o.maskX else o.maskX+u)) (b+v - (if o.mask=0 then o.maskY else o.maskY+v))).a=_;rw [if_neg (by omega),if_neg (by omega),show a+u - (o.maskX+u)=a - o.maskX by omega,show b+v - (o.maskY+v)=b - o.maskY by omega]
  ·rw [if_neg h,if_neg h]
theorem OU {m u v:Int} {z z':Op→Pixel × Int} (h:∀ o,z' (ic u v o)=z o) (st:List Lv) (o:Op):iA m z' (st.map (mvL u v)) (ic u v o)=(iA m z st o).map (mvL u v):=by
 cases st with
 | nil=>rfl
 | cons t r =>
  unfold iA;rw [List.map_cons];dsimp only;rw [h o];show (if o.kind=1 then _ else if o.kind=2 then _ else _)=_;by_cases h1:o.kind=1
  ·rw [if_pos h1,if_pos h1];rfl
  rw [if_neg h1,if_neg h1];by_cases h2:o.kind=2
  ·rw [if_pos h2,if_pos h2];rfl
  rw [if_neg h2,if_neg h2];cases r with
  | nil=>rfl
  | cons w r =>
   rw [List.map_cons];show nz m (ic u v t.op) (aL m (ic u v t.op) (bU t.acc t.back m) (z' (ic u v t.op)).2) (mvL u v w) :: r.map (mvL u v)=_;rw [h t.op];rfl
theorem HX {m u v:Int} {z z':Op→Pixel × Int} (h:∀ o,z' (ic u v o)=z o):∀ (ops:List Op) (st:List Lv),ep m z' (ops.map (ic u v)) (st.map (mvL u v))=(ep m z ops st).map (mvL u v)
 | [],st=>rfl
 | o :: ops,st=>by
  rw [List.map_cons,iT,iT,OU h];exact HX h ops _
theorem KR (s:Script) (u v a b:Int):ch (eV u v s) (a+u) (b+v)=ch s a b:=by
 have hr:=HX (m:=aN s.bits) (Qi s u v a b) s.ops [base];have hb:[base].map (mvL u v)=[base]:=rfl;rw [hb] at hr;show Ww (aN s.bits) (ep (aN s.bits) (bg (eV u v s) (a+u) (b+v)) (s.ops.map (ic u v)) [base])=Ww (aN s.bits) (ep (aN s.bits) (bg s a b) s.ops [base]);rw [hr];cases ep (aN s.bits) (bg s a b) s.ops [base] with
 | nil=>rfl
 | cons t r=>rfl
def Ir (o:Op):Prop:=(-1000≤o.x∧o.x≤1000)∧(-1000≤o.y∧o.y≤1000)∧(-1000≤o.maskX∧o.maskX≤1000)∧(-1000≤o.maskY∧o.maskY≤1000)
theorem RD {b u v:Int} {n:Nat} {o:Op} {l l':List Op} (hu : -1000≤u∧u≤1000) (hv : -1000≤v∧v≤1000) (ht:Ir o) (hk:eS l'=eS l) (hl:l'.length=l.length) (h:dM b n o l=0):dM b n (ic u v o) l'=0:=by
 rw [cu] at h ⊢;rw [hk,hl];obtain ⟨a1,a2,a3,a4⟩:=h;obtain ⟨t1,t2,t3,t4⟩:=ht;refine ⟨a1, ?_,a3,fun k3 => ?_⟩
 ·unfold cZ at a2 ⊢;unfold ic;dsimp only;by_cases k3:o.kind=3
  ·rw [if_pos k3] at a2 ⊢;rw [decide_eq_true_eq] at a2 ⊢;rw [if_neg (by omega),if_neg (by omega),if_pos a2.2.2.2.1,if_pos a2.2.2.2.1];exact a2
  ·rw [if_neg k3] at a2 ⊢;by_cases c1:o.kind=1∧(o.isolated=true∨o.knockout=true)
   ·rw [if_pos c1] at a2;cases a2
   rw [if_neg c1] at a2 ⊢;by_cases c2:o.kind=2∧(o.image≠0∨o.x≠0∨o.y≠0)
   ·rw [if_pos c2] at a2;cases a2
   rw [if_neg c2] at a2;rw [if_neg ?_]
   ·rw [decide_eq_true_eq] at a2 ⊢;by_cases h0:o.mask=0
    ·rw [if_pos h0,if_pos h0];exact a2
    ·exact .inl h0
   ·rintro ⟨q1,q2⟩;rw [if_neg (by omega),if_neg (by omega)] at q2;exact c2 ⟨q1,q2⟩
 ·obtain ⟨q1,q2,q3⟩:=a4 k3;refine ⟨q1, ?_,q3⟩;simp only [bu,List.all_cons,List.all_nil,Bool.and_true,Bool.and_eq_true,decide_eq_true_eq,ic];refine ⟨?_, ?_, ?_, ?_⟩ <;> (split <;> omega)
section
variable {s:Script} {u v:Int}
theorem LZ (s:Script) (u v:Int) {i:Nat} (hi:i<s.ops.length):ah (eV u v s).ops i=ic u v (ah s.ops i):=by
 unfold ah eV;dsimp only;rw [List.getD_eq_getElem?_getD,List.getD_eq_getElem?_getD,List.getElem?_map,List.getElem?_eq_getElem hi];rfl
theorem xK (s:Script) (u v:Int) (i:Nat):(ah (eV u v s).ops i).kind=(ah s.ops i).kind∧(ah (eV u v s).ops i).isolated=(ah s.ops i).isolated∧(ah (eV u v s).ops i).knockout=(ah s.ops i).knockout:=by
 rcases Nat.lt_or_ge i s.ops.length with h|h
 ·rw [LZ s u v h];exact ⟨rfl,rfl,rfl⟩
 ·have e:∀ l:List Op,l.length≤i→ah l i=default:=fun l hl=>by
   unfold ah;rw [List.getD_eq_getElem?_getD,List.getElem?_eq_none hl];rfl
  rw [e _ h,e _ (by simp [eV];exact h)];exact ⟨rfl,rfl,rfl⟩
theorem Lt (hc:Small s.canvas) (hu : -1000≤u∧u≤1000) (hv : -1000≤v∧v≤1000) (h:bJ s=0):bJ (eV u v s)=0:=by
 have he:=lK hc;obtain ⟨h1,h2,h3,h4,h5,h6⟩:=hc;have he2:aM (eV u v s).canvas=false:=by
  rw [gw];unfold eV;dsimp only;omega
 have hw:(eV u v s).canvas.x1 - (eV u v s).canvas.x0=s.canvas.x1 - s.canvas.x0:=by unfold eV;dsimp only;omega
 have hh:(eV u v s).canvas.y1 - (eV u v s).canvas.y0=s.canvas.y1 - s.canvas.y0:=by unfold eV;dsimp only;omega
 have ht:cP (eV u v s).canvas s.tileW s.tileH=cP s.canvas s.tileW s.tileH:=by
  unfold cP;rw [he,he2,hw,hh]
 have hx:bA (eV u v s).canvas s.tileW s.tileH=bA s.canvas s.tileW s.tileH:=by unfold bA;rw [ht,hw]
 have hy:cF (eV u v s).canvas s.tileW s.tileH=cF s.canvas s.tileW s.tileH:=by unfold cF;rw [ht,hh]
 have ha:eM (eV u v s).canvas=eM s.canvas:=by unfold eM;rw [he,he2,hw,hh]
 have hl:(eV u v s).ops.length=s.ops.length:=by simp [eV]
 have hwi:bu 1048576 [(eV u v s).canvas.x0,(eV u v s).canvas.y0]=true:=by
  simp only [bu,List.all_cons,List.all_nil,Bool.and_true,Bool.and_eq_true,decide_eq_true_eq,eV];omega
 have hwi0:bu 1048576 [s.canvas.x0,s.canvas.y0]=true:=by
  simp only [bu,List.all_cons,List.all_nil,Bool.and_true,Bool.and_eq_true,decide_eq_true_eq];omega
 unfold bJ at h ⊢;rw [hl,ha,he2,hwi];rw [he,hwi0] at h;show (if ¬ (s.bits=8∨s.bits=16) then (1:Int) else if false=true∨16777216<eM s.canvas∨true=false then 2 else if cP (eV u v s).canvas s.tileW s.tileH=false then 3 else if gj s.order (bA (eV u v s).canvas s.tileW s.tileH * cF (eV u v s).canvas s.tileW s.tileH)=false then 4 else if 64<s.images.length∨4096<s.ops.length then 5 else 0)=0;rw [ht,hx,hy];exact h
theorem OO (V:VOps s) (hc:Small s.canvas) (hu : -1000≤u∧u≤1000) (hv : -1000≤v∧v≤1000) (ht:∀ o ∈ s.ops,Ir o):VOps (eV u v s):=by
 have hl:(eV u v s).ops.length=s.ops.length:=by simp [eV]
 have hk:∀ i,(ah (eV u v s).ops i).kind=(ah s.ops i).kind:=fun i=>(xK s u v i).1;have hs:=fun i=>ta hk i;have W:=V.wf;refine ⟨⟨fun i hi => ?_,fun i hi h3 => ?_, ?_⟩,fun i hi => ?_,V.imgs,by rw [hl];exact V.cnt,Lt hc hu hv V.frame⟩
 ·rw [hk];exact W.kinds i (by omega)
 ·rw [hs];rw [hk] at h3;exact W.pops i (by omega) h3
 ·rw [hs,hl];exact W.fin
 ·rw [hs,LZ s u v (by omega)];exact RD hu hv (ht _ (Jf (by omega))) (Hx (fun a=>(xK s u v a).2.1) (fun a=>(xK s u v a).2.2) _) (by simp) (V.ok i (by omega))
end
end
def dK (c a:Int):Image:=jq 1 1 ⟨c,0,0,a,a⟩
def VI (i x:Int):Op:=⟨1,i,x,0,0,0,0,255,4,1,false,false⟩
def trP (b:Bool):Op:=⟨2,0,0,0,0,0,0,255,4,1,b,false⟩
def trZ:Op:=⟨3,0,0,0,0,0,0,0,0,0,false,false⟩
def nv (x:Int) (l:List Image) (o:List Op):Script:=⟨8,⟨x,0,x+1,1⟩,1,1,[],l,o⟩
def nb (x:Int):List Op:=[VI 0 x,VI 1 x,VI 2 x]
def oX (b:Bool) (x:Int):List Op:=[VI 0 x,trP b,VI 1 x,VI 2 x,trZ]
structure Lay (l:List Image) (o:Int→List Op):Prop where
 ok:EvOk (nv 0 l (o 0))
 chk:(bz (nv 0 l (o 0))).1=0
 mv:∀ x,o x=(o 0).map (ic x 0)
 tm:∀ p ∈ o 0,Ir p
theorem NI:Small (⟨0,0,0+1,1⟩:Rect):=⟨by decide,by decide,by decide,by decide,by decide,by decide⟩
theorem FA {l:List Image} {o:Int→List Op} (L:Lay l o) {x:Int} (h0:0≤x) (h1:x<1000):EvOk (nv x l (o x))∧bz (nv x l (o x))=(0,0)∧ch (nv x l (o x)) x 0=ch (nv 0 l (o 0)) 0 0:=by
 have e:nv x l (o x)=eV x 0 (nv 0 l (o 0)):=by
  unfold nv eV;simp only [Int.zero_add,Int.add_zero,L.mv x,Int.add_comm 1 x]
 rw [e];obtain ⟨hf,V,hI,hm⟩:=L.ok.zero L.chk;have V':=OO V NI (u:=x) (v:=0) ⟨by omega,by omega⟩ ⟨by omega,by omega⟩ L.tm;refine ⟨⟨⟨L.ok.len.1,L.ok.len.2, ?_⟩,fun p hp => ?_,fun _=>L.ok.im hf⟩,pP V' (fun i h0 h1=>hI i h0 h1), ?_⟩
 ·show ((o 0).map (ic x 0)).length≤_;rw [List.length_map];exact L.ok.len.3
 ·obtain ⟨q,hq,rfl⟩:=List.mem_map.1 hp;exact L.ok.op q hq
 ·have:=KR (nv 0 l (o 0)) x 0 0 0;simpa only [Int.zero_add,Int.add_zero] using this
theorem a6G {o:List Op} (h:o.all (fun p=>decide (0≤p.opacity))=true):∀ p ∈ o,0≤p.opacity:=fun p hp=>of_decide_eq_true (List.all_eq_true.1 h p hp)
theorem EX (a b c d e f : Int) (o : Int → List Op) (hl : (o 0).length ≤ 8) (ho : (o 0).all (fun p => decide (0 ≤ p.opacity)) = true) (hc : (bz (nv 0 [dK a b, dK c d, dK e f] (o 0))).1 = 0) (hn : 0 ≤ a ∧ 0 ≤ c ∧ 0 ≤ e) (hm : ∀ x, o x = (o 0).map (ic x 0)) (ht : ∀ p ∈ o 0, Ir p) :
  Lay [dK a b,dK c d,dK e f] o:=by
 refine ⟨⟨⟨Nat.zero_le _,Nat.le_of_ble_eq_true rfl,Nat.le_trans hl (by decide)⟩,a6G ho,fun _ m hm => ?_⟩,hc,hm,ht⟩;simp only [nv,List.mem_cons,List.not_mem_nil,or_false] at hm;rcases hm with rfl|rfl|rfl
 ·exact ⟨.inr (.inr rfl),hn.1,Int.le_refl _,Int.le_refl _⟩
 ·exact ⟨.inr (.inr rfl),hn.2.1,Int.le_refl _,Int.le_refl _⟩
 ·exact ⟨.inr (.inr rfl),hn.2.2,Int.le_refl _,Int.le_refl _⟩
theorem zi {o:List Op} (h:o.all (fun p=>decide ((-1000≤p.x∧p.x≤1000)∧(-1000≤p.y∧p.y≤1000)∧(-1000≤p.maskX∧p.maskX≤1000)∧(-1000≤p.maskY∧p.maskY≤1000)))=true):∀ p ∈ o,Ir p:=fun p hp=>by
 have:=of_decide_eq_true (List.all_eq_true.1 h p hp);exact this
theorem Tk (x:Int):nb x=(nb 0).map (ic x 0):=by simp [nb,VI,ic]
theorem Ra (b:Bool) (x:Int):oX b x=(oX b 0).map (ic x 0):=by simp [oX,VI,trP,trZ,ic]
section
def kA (f:Nat):PV := .val (.func (.func f) #[] #[])
theorem tn1 (e:Nat):((e:Int)+1).toNat=e+1:=by omega
theorem tn2 (e:Nat):((e:Int)+2).toNat=e+2:=by omega
theorem a0e:Sg.ti 180=some (1,false):=by kernel_rfl
theorem Xx:Sg.ti 173=some (1,false):=by kernel_rfl
theorem WR:Sg.ti 174=some (1,false):=by kernel_rfl
attribute [local go_sem] tn1 tn2 Nat.sub_zero a0e Xx WR kA
attribute [local go_sem] Int.toNat_natCast vP vf0 vf1 vf2 vf3 vf4 vf5 vf6 vf7 vf8 vf9 Qj SA Vl Rs QG
def re (g:Nat):PV := .fn 171 1 (fun _=>1) (fun _ _=>kA g)
theorem a6e {g n:Nat} {sz sz':Nat→Nat} {f f':Nat→Nat→PV} (h:∀ i,i<n→sz i=sz' i∧∀ j,j<sz i→PV.le (f i j) (f' i j)):PV.le (.fn g n sz f) (.fn g n sz' f'):=fun _ _ u ⟨vs,e,hs,hb⟩=>by
 refine ⟨vs,e,hs,fun i hi => ?_⟩;obtain ⟨b,o,h1,h2,h3⟩:=hb i hi;obtain ⟨q1,q2⟩:=h i hi;refine ⟨b,o,h1,h2,fun j hj => ?_⟩;rw [← q1] at hj;obtain ⟨x,x1,x2,x3⟩:=h3 j hj;exact ⟨x,x1,x2,q2 j hj _ _ _ x3⟩
theorem qk (g:Nat):aB Sg 115 [.c (.p (.val (.func (.func g) #[] #[])))] (fun x=>x = .b (.c (.p (re g)))):=by
 refine bo ?_;refine vq Tryz.func115 rfl (rs:=[.tmp 2]) rfl rfl dI (by decide +kernel) (Nat.le_of_ble_eq_true rfl) (bN ba) ?_;repeat' (refine aC ?_)
 simp only [Option.isSome_some,if_true,CV.lt,true_and];refine fR (fg (a6e fun i hi => ?_));have h0:i=0:=by omega
 subst h0;refine ⟨rfl,fun j hj => ?_⟩;have h0:j=0:=by have:j<1:=hj;omega
 subst h0;exact fun _ _ _ h=>h
def a9B:List (List PV):=[[.val .nilFunc, .val .nilFunc],[kA 109,kA 110],[kA 111,kA 110],
 [kA 112,kA 110],[kA 113,kA 110],[kA 114,re 116],
 [kA 117,re 118],[kA 119,re 120],[kA 121,re 122],
 [kA 123,kA 124]]
def qM (i j:Nat):PV:=(a9B.getD i []).getD j .any
theorem iF:aB Sg 69 [] (fun x=>x = .b (.c (.p (.lst 2 10 qM)))):=by
 have h1:=qk 116;have h2:=qk 118;have h3:=qk 120;have h4:=qk 122;refine bo ?_;refine az Tryz.func69 [.tmp 0] ?_;repeat' (first|((first|refine an (fun K hK => ?_)|refine aa (h1) ?_|refine aa (h2) ?_|refine aa (h3) ?_|refine aa (h4) ?_);and_intros;all_goals first|(refine hK _ ?_;clear hK K)|try exact ai)|(refine bF ?_;(try clear hB KB);(try clear hK K)))
 refine fR (fg (Ey (sz:=2) (n:=10) fun a ha j hj => ?_));have hj2:j=0∨j=1:=by omega
 rcases hj2 with rfl|rfl
 ·skip
  have hivl:a=0∨a=1∨a=2∨a=3∨a=4∨a=5∨a=6∨a=7∨a=8∨a=9:=by omega
  rcases hivl with rfl|rfl|rfl|rfl|rfl|rfl|rfl|rfl|rfl|rfl <;> exact fun _ _ _ h=>h
 ·skip
  have hivl:a=0∨a=1∨a=2∨a=3∨a=4∨a=5∨a=6∨a=7∨a=8∨a=9:=by omega
  rcases hivl with rfl|rfl|rfl|rfl|rfl|rfl|rfl|rfl|rfl|rfl <;> exact fun _ _ _ h=>h
theorem EA {l:List Op} {i:Nat} {o:Op} {F:Nat→Nat→PV} (hi:i<l.length) (h1:∀ j,j<12→F i j=(cC o).getD j .any) (h2:∀ a,a≠i→∀ j,F a j=aQ cC l a j):PV.le (.lst 12 l.length F) (kU (l.set i o)):=by
 show PV.le _ (PV.lst 12 (l.set i o).length (aQ cC (l.set i o)));rw [List.length_set];refine gX fun a ha j hj => ?_;show _=(cC ((l.set i o).getD a default)).getD j .any;have e:(l.set i o).getD a default=ah (l.set i o) a:=rfl;rw [e,Ik];by_cases h:a=i
 ·rw [if_pos ⟨h.symm,ha⟩,h];exact h1 j hj
 ·rw [if_neg (fun q=>h q.1.symm)];exact h2 a h j
theorem Gs (id:Nat) (x y:Bx) (b:Nat→Option Bx):aJ id x (aJ id y b)=aJ id x b:=by
 funext i;simp only [aJ];split <;> rfl
theorem Ts (bx : Nat → Option Bx) (nx id n i : Nat) (f : Nat → Nat → PV) (o : Op) (hb : bx id = some (.arr 33 12 n f)) (hi : i < n) (hid : id < nx) (hf : ∀ j, j < 12 → f i j = (cC o).getD j .any) :
  ∃ F:Nat→Nat→PV,((∀ j,j<12→F i j=(cC (cQ 5 o)).getD j .any)∧∀ a,a≠i→∀ j,F a j=f a j)∧lj Sg bx nx 116 [.c (.pel id 12 i 0)] (.tup []) (aJ id (.arr 33 12 n F) bx) nx:=by
 refine ⟨?F,⟨?h1, ?h2⟩, ?hI⟩
 case hI =>
  refine wG Tryz.func116 rfl (rs:=[]) rfl rfl dI (by decide +kernel) (Nat.le_of_ble_eq_true rfl) ?_ (fun kf => ?_)
  ·intro v hv;simp only [List.mem_cons,List.not_mem_nil,or_false] at hv;rcases hv with rfl;exact hid
  refine uS fun K hK => ?_;simp (maxSteps:=1000000) (disch:=omega) only [go_sem,hb];and_intros;all_goals first|exact hi|skip
  refine hK _ ?_;clear hK;refine bV ?_;simp only [sN,lh,lq,lz,gV,kZ,lk,lp,uP,uL,Gs];rfl
 case h1 =>
  intro j hj;show (if i=i then _ else _)=_;rw [if_pos rfl];have hivl:j=0∨j=1∨j=2∨j=3∨j=4∨j=5∨j=6∨j=7∨j=8∨j=9∨j=10∨j=11:=by omega
  rcases hivl with rfl|rfl|rfl|rfl|rfl|rfl|rfl|rfl|rfl|rfl|rfl|rfl <;> first|rfl|exact hf 0 (by decide)|exact hf 1 (by decide)|exact hf 2 (by decide)|exact hf 3 (by decide)|exact hf 4 (by decide)|exact hf 5 (by decide)|exact hf 6 (by decide)|exact hf 7 (by decide)|exact hf 8 (by decide)|exact hf 9 (by decide)|exact hf 10 (by decide)|exact hf 11 (by decide)
 case h2 =>
  intro a ha j;simp only [if_neg ha]
theorem NS {st : St} {K : SV → St → Prop} (id n i : Nat) (f : Nat → Nat → PV) (o : Op) (hb : st.bx id = some (.arr 33 12 n f)) (hi : i < n) (hid : id < st.nx) (hf : ∀ j, j < 12 → f i j = (cC o).getD j .any) (hw : jB 0 st)
  (hK:∀ F:Nat→Nat→PV,(∀ j,j<12→F i j=(cC (cQ 5 o)).getD j .any)→(∀ a,a≠i→∀ j,F a j=f a j)→K (.tup []) (st.turn (aJ id (.arr 33 12 n F) st.bx) st.nx)) :
  dY Sg st 116 [.c (.pel id 12 i 0)] (Sl.of K):=by
 obtain ⟨F,⟨h1,h2⟩,hI⟩:=Ts st.bx st.nx id n i f o hb hi hid hf;refine dS hI rfl (fun j hj => ?_) (Nat.le_refl _) (hK F h1 h2);simp only [aJ];rw [if_neg (by omega)];exact hw.1 j hj
theorem a0o (s : Script) (V : VOps s) (i : Nat) (hi : i < s.ops.length) :
  aB Sg 171 [vP s,I i, .c (.ipt 1 (fun _=>kA 116) 0)] (fun x=>x = .b (.c (.p (kU (s.ops.set i (cQ 5 (ah s.ops i))))))):=by
 have hn:=V.cnt
 have hc:=jd s.ops.length (aQ cC s.ops) (by omega) (fun a ha j hj=>by
  have hivl:j=0∨j=1∨j=2∨j=3∨j=4∨j=5∨j=6∨j=7∨j=8∨j=9∨j=10∨j=11:=by omega
  rcases hivl with rfl|rfl|rfl|rfl|rfl|rfl|rfl|rfl|rfl|rfl|rfl|rfl <;> exact ⟨_,rfl⟩)
 refine bo ?_;refine az Tryz.func171 [.tmp 5] ?_;repeat' (first|((with_reducible refine aX (id:=1) (fun K hW => ?_));(try simp (maxSteps:=999999)(disch:=omega) only [go_sem]);and_intros;all_goals first|(refine hK _ ?_;clear hK K)|try exact ai)|refine an (fun K hK => ?_)|refine gS (hc) ?_|(refine aq hK ?_;try clear hK K))
 refine hW _ (aP [(0, .b (vP s)),(1, .b (I i)),(2, .b (.c (.ipt 1 (fun _=>kA 116) 0))),(6, .b (.c (.own 1 s.ops.length)))] [(1, .arr 33 12 s.ops.length (aQ cC s.ops))] 2) ?_ ?_
 ·refine ar [(1,some 0)] ?_ ?_;and_intros;all_goals try exact ak
 clear hW;refine sx (by decide +kernel) (by decide +kernel) (fun K hK => ?_);refine bV ?_;refine ⟨⟨by omega,by omega⟩, ?_⟩;refine NS 1 s.ops.length i (aQ cC s.ops) (ah s.ops i) ba hi ba (fun j hj=>rfl) ?_ ?_
 ·exact bZ
 intro F hF1 hF2;refine hK _ ?_;clear hK;repeat' (refine aC ?_)
 refine fR (fg ?_);exact EA hi hF1 hF2
theorem TG (bx : Nat → Option Bx) (nx id n i : Nat) (f : Nat → Nat → PV) (o : Op) (hb : bx id = some (.arr 33 12 n f)) (hi : i < n) (hid : id < nx) (hf : ∀ j, j < 12 → f i j = (cC o).getD j .any) :
  ∃ F:Nat→Nat→PV,((∀ j,j<12→F i j=(cC (cQ 6 o)).getD j .any)∧∀ a,a≠i→∀ j,F a j=f a j)∧lj Sg bx nx 118 [.c (.pel id 12 i 0)] (.tup []) (aJ id (.arr 33 12 n F) bx) nx:=by
 refine ⟨?F,⟨?h1, ?h2⟩, ?hI⟩
 case hI =>
  refine wG Tryz.func118 rfl (rs:=[]) rfl rfl dI (by decide +kernel) (Nat.le_of_ble_eq_true rfl) ?_ (fun kf => ?_)
  ·intro v hv;simp only [List.mem_cons,List.not_mem_nil,or_false] at hv;rcases hv with rfl;exact hid
  refine uS fun K hK => ?_;simp (maxSteps:=1000000) (disch:=omega) only [go_sem,hb];and_intros;all_goals first|exact hi|skip
  refine hK _ ?_;clear hK;refine bV ?_;simp only [sN,lh,lq,lz,gV,kZ,lk,lp,uP,uL,Gs];rfl
 case h1 =>
  intro j hj;show (if i=i then _ else _)=_;rw [if_pos rfl];have hivl:j=0∨j=1∨j=2∨j=3∨j=4∨j=5∨j=6∨j=7∨j=8∨j=9∨j=10∨j=11:=by omega
  rcases hivl with rfl|rfl|rfl|rfl|rfl|rfl|rfl|rfl|rfl|rfl|rfl|rfl <;> first|rfl|exact hf 0 (by decide)|exact hf 1 (by decide)|exact hf 2 (by decide)|exact hf 3 (by decide)|exact hf 4 (by decide)|exact hf 5 (by decide)|exact hf 6 (by decide)|exact hf 7 (by decide)|exact hf 8 (by decide)|exact hf 9 (by decide)|exact hf 10 (by decide)|exact hf 11 (by decide)
 case h2 =>
  intro a ha j;simp only [if_neg ha]
theorem OX {st : St} {K : SV → St → Prop} (id n i : Nat) (f : Nat → Nat → PV) (o : Op) (hb : st.bx id = some (.arr 33 12 n f)) (hi : i < n) (hid : id < st.nx) (hf : ∀ j, j < 12 → f i j = (cC o).getD j .any) (hw : jB 0 st)
  (hK:∀ F:Nat→Nat→PV,(∀ j,j<12→F i j=(cC (cQ 6 o)).getD j .any)→(∀ a,a≠i→∀ j,F a j=f a j)→K (.tup []) (st.turn (aJ id (.arr 33 12 n F) st.bx) st.nx)) :
  dY Sg st 118 [.c (.pel id 12 i 0)] (Sl.of K):=by
 obtain ⟨F,⟨h1,h2⟩,hI⟩:=TG st.bx st.nx id n i f o hb hi hid hf;refine dS hI rfl (fun j hj => ?_) (Nat.le_refl _) (hK F h1 h2);simp only [aJ];rw [if_neg (by omega)];exact hw.1 j hj
theorem WI (s : Script) (V : VOps s) (i : Nat) (hi : i < s.ops.length) :
  aB Sg 171 [vP s,I i, .c (.ipt 1 (fun _=>kA 118) 0)] (fun x=>x = .b (.c (.p (kU (s.ops.set i (cQ 6 (ah s.ops i))))))):=by
 have hn:=V.cnt
 have hc:=jd s.ops.length (aQ cC s.ops) (by omega) (fun a ha j hj=>by
  have hivl:j=0∨j=1∨j=2∨j=3∨j=4∨j=5∨j=6∨j=7∨j=8∨j=9∨j=10∨j=11:=by omega
  rcases hivl with rfl|rfl|rfl|rfl|rfl|rfl|rfl|rfl|rfl|rfl|rfl|rfl <;> exact ⟨_,rfl⟩)
 refine bo ?_;refine az Tryz.func171 [.tmp 5] ?_;repeat' (first|((with_reducible refine aX (id:=1) (fun K hW => ?_));(try simp (maxSteps:=999999)(disch:=omega) only [go_sem]);and_intros;all_goals first|(refine hK _ ?_;clear hK K)|try exact ai)|refine an (fun K hK => ?_)|refine gS (hc) ?_|(refine aq hK ?_;try clear hK K))
 refine hW _ (aP [(0, .b (vP s)),(1, .b (I i)),(2, .b (.c (.ipt 1 (fun _=>kA 118) 0))),(6, .b (.c (.own 1 s.ops.length)))] [(1, .arr 33 12 s.ops.length (aQ cC s.ops))] 2) ?_ ?_
 ·refine ar [(1,some 0)] ?_ ?_;and_intros;all_goals try exact ak
 clear hW;refine sx (by decide +kernel) (by decide +kernel) (fun K hK => ?_);refine bV ?_;refine ⟨⟨by omega,by omega⟩, ?_⟩;refine OX 1 s.ops.length i (aQ cC s.ops) (ah s.ops i) ba hi ba (fun j hj=>rfl) ?_ ?_
 ·exact bZ
 intro F hF1 hF2;refine hK _ ?_;clear hK;repeat' (refine aC ?_)
 refine fR (fg ?_);exact EA hi hF1 hF2
theorem Rl (bx : Nat → Option Bx) (nx id n i : Nat) (f : Nat → Nat → PV) (o : Op) (hb : bx id = some (.arr 33 12 n f)) (hi : i < n) (hid : id < nx) (hf : ∀ j, j < 12 → f i j = (cC o).getD j .any) :
  ∃ F:Nat→Nat→PV,((∀ j,j<12→F i j=(cC (cQ 7 o)).getD j .any)∧∀ a,a≠i→∀ j,F a j=f a j)∧lj Sg bx nx 120 [.c (.pel id 12 i 0)] (.tup []) (aJ id (.arr 33 12 n F) bx) nx:=by
 refine ⟨?F,⟨?h1, ?h2⟩, ?hI⟩
 case hI =>
  refine wG Tryz.func120 rfl (rs:=[]) rfl rfl dI (by decide +kernel) (Nat.le_of_ble_eq_true rfl) ?_ (fun kf => ?_)
  ·intro v hv;simp only [List.mem_cons,List.not_mem_nil,or_false] at hv;rcases hv with rfl;exact hid
  refine uS fun K hK => ?_;simp (maxSteps:=1000000) (disch:=omega) only [go_sem,hb];and_intros;all_goals first|exact hi|skip
  refine hK _ ?_;clear hK;refine bV ?_;simp only [sN,lh,lq,lz,gV,kZ,lk,lp,uP,uL,Gs];rfl
 case h1 =>
  intro j hj;show (if i=i then _ else _)=_;rw [if_pos rfl];have hivl:j=0∨j=1∨j=2∨j=3∨j=4∨j=5∨j=6∨j=7∨j=8∨j=9∨j=10∨j=11:=by omega
  rcases hivl with rfl|rfl|rfl|rfl|rfl|rfl|rfl|rfl|rfl|rfl|rfl|rfl <;> first|rfl|exact hf 0 (by decide)|exact hf 1 (by decide)|exact hf 2 (by decide)|exact hf 3 (by decide)|exact hf 4 (by decide)|exact hf 5 (by decide)|exact hf 6 (by decide)|exact hf 7 (by decide)|exact hf 8 (by decide)|exact hf 9 (by decide)|exact hf 10 (by decide)|exact hf 11 (by decide)
 case h2 =>
  intro a ha j;simp only [if_neg ha]
theorem Pl {st : St} {K : SV → St → Prop} (id n i : Nat) (f : Nat → Nat → PV) (o : Op) (hb : st.bx id = some (.arr 33 12 n f)) (hi : i < n) (hid : id < st.nx) (hf : ∀ j, j < 12 → f i j = (cC o).getD j .any) (hw : jB 0 st)
  (hK:∀ F:Nat→Nat→PV,(∀ j,j<12→F i j=(cC (cQ 7 o)).getD j .any)→(∀ a,a≠i→∀ j,F a j=f a j)→K (.tup []) (st.turn (aJ id (.arr 33 12 n F) st.bx) st.nx)) :
  dY Sg st 120 [.c (.pel id 12 i 0)] (Sl.of K):=by
 obtain ⟨F,⟨h1,h2⟩,hI⟩:=Rl st.bx st.nx id n i f o hb hi hid hf;refine dS hI rfl (fun j hj => ?_) (Nat.le_refl _) (hK F h1 h2);simp only [aJ];rw [if_neg (by omega)];exact hw.1 j hj
theorem Xc (s : Script) (V : VOps s) (i : Nat) (hi : i < s.ops.length) :
  aB Sg 171 [vP s,I i, .c (.ipt 1 (fun _=>kA 120) 0)] (fun x=>x = .b (.c (.p (kU (s.ops.set i (cQ 7 (ah s.ops i))))))):=by
 have hn:=V.cnt
 have hc:=jd s.ops.length (aQ cC s.ops) (by omega) (fun a ha j hj=>by
  have hivl:j=0∨j=1∨j=2∨j=3∨j=4∨j=5∨j=6∨j=7∨j=8∨j=9∨j=10∨j=11:=by omega
  rcases hivl with rfl|rfl|rfl|rfl|rfl|rfl|rfl|rfl|rfl|rfl|rfl|rfl <;> exact ⟨_,rfl⟩)
 refine bo ?_;refine az Tryz.func171 [.tmp 5] ?_;repeat' (first|((with_reducible refine aX (id:=1) (fun K hW => ?_));(try simp (maxSteps:=999999)(disch:=omega) only [go_sem]);and_intros;all_goals first|(refine hK _ ?_;clear hK K)|try exact ai)|refine an (fun K hK => ?_)|refine gS (hc) ?_|(refine aq hK ?_;try clear hK K))
 refine hW _ (aP [(0, .b (vP s)),(1, .b (I i)),(2, .b (.c (.ipt 1 (fun _=>kA 120) 0))),(6, .b (.c (.own 1 s.ops.length)))] [(1, .arr 33 12 s.ops.length (aQ cC s.ops))] 2) ?_ ?_
 ·refine ar [(1,some 0)] ?_ ?_;and_intros;all_goals try exact ak
 clear hW;refine sx (by decide +kernel) (by decide +kernel) (fun K hK => ?_);refine bV ?_;refine ⟨⟨by omega,by omega⟩, ?_⟩;refine Pl 1 s.ops.length i (aQ cC s.ops) (ah s.ops i) ba hi ba (fun j hj=>rfl) ?_ ?_
 ·exact bZ
 intro F hF1 hF2;refine hK _ ?_;clear hK;repeat' (refine aC ?_)
 refine fR (fg ?_);exact EA hi hF1 hF2
theorem QH (bx : Nat → Option Bx) (nx id n i : Nat) (f : Nat → Nat → PV) (o : Op) (hb : bx id = some (.arr 33 12 n f)) (hi : i < n) (hid : id < nx) (hf : ∀ j, j < 12 → f i j = (cC o).getD j .any) :
  ∃ F:Nat→Nat→PV,((∀ j,j<12→F i j=(cC (cQ 8 o)).getD j .any)∧∀ a,a≠i→∀ j,F a j=f a j)∧lj Sg bx nx 122 [.c (.pel id 12 i 0)] (.tup []) (aJ id (.arr 33 12 n F) bx) nx:=by
 refine ⟨?F,⟨?h1, ?h2⟩, ?hI⟩
 case hI =>
  refine wG Tryz.func122 rfl (rs:=[]) rfl rfl dI (by decide +kernel) (Nat.le_of_ble_eq_true rfl) ?_ (fun kf => ?_)
  ·intro v hv;simp only [List.mem_cons,List.not_mem_nil,or_false] at hv;rcases hv with rfl;exact hid
  refine uS fun K hK => ?_;simp (maxSteps:=1000000) (disch:=omega) only [go_sem,hb];and_intros;all_goals first|exact hi|skip
  refine hK _ ?_;clear hK;refine bV ?_;simp only [sN,lh,lq,lz,gV,kZ,lk,lp,uP,uL,Gs];rfl
 case h1 =>
  intro j hj;show (if i=i then _ else _)=_;rw [if_pos rfl];have hivl:j=0∨j=1∨j=2∨j=3∨j=4∨j=5∨j=6∨j=7∨j=8∨j=9∨j=10∨j=11:=by omega
  rcases hivl with rfl|rfl|rfl|rfl|rfl|rfl|rfl|rfl|rfl|rfl|rfl|rfl <;> first|rfl|exact hf 0 (by decide)|exact hf 1 (by decide)|exact hf 2 (by decide)|exact hf 3 (by decide)|exact hf 4 (by decide)|exact hf 5 (by decide)|exact hf 6 (by decide)|exact hf 7 (by decide)|exact hf 8 (by decide)|exact hf 9 (by decide)|exact hf 10 (by decide)|exact hf 11 (by decide)
 case h2 =>
  intro a ha j;simp only [if_neg ha]
theorem Pf {st : St} {K : SV → St → Prop} (id n i : Nat) (f : Nat → Nat → PV) (o : Op) (hb : st.bx id = some (.arr 33 12 n f)) (hi : i < n) (hid : id < st.nx) (hf : ∀ j, j < 12 → f i j = (cC o).getD j .any) (hw : jB 0 st)
  (hK:∀ F:Nat→Nat→PV,(∀ j,j<12→F i j=(cC (cQ 8 o)).getD j .any)→(∀ a,a≠i→∀ j,F a j=f a j)→K (.tup []) (st.turn (aJ id (.arr 33 12 n F) st.bx) st.nx)) :
  dY Sg st 122 [.c (.pel id 12 i 0)] (Sl.of K):=by
 obtain ⟨F,⟨h1,h2⟩,hI⟩:=QH st.bx st.nx id n i f o hb hi hid hf;refine dS hI rfl (fun j hj => ?_) (Nat.le_refl _) (hK F h1 h2);simp only [aJ];rw [if_neg (by omega)];exact hw.1 j hj
theorem Wi (s : Script) (V : VOps s) (i : Nat) (hi : i < s.ops.length) :
  aB Sg 171 [vP s,I i, .c (.ipt 1 (fun _=>kA 122) 0)] (fun x=>x = .b (.c (.p (kU (s.ops.set i (cQ 8 (ah s.ops i))))))):=by
 have hn:=V.cnt
 have hc:=jd s.ops.length (aQ cC s.ops) (by omega) (fun a ha j hj=>by
  have hivl:j=0∨j=1∨j=2∨j=3∨j=4∨j=5∨j=6∨j=7∨j=8∨j=9∨j=10∨j=11:=by omega
  rcases hivl with rfl|rfl|rfl|rfl|rfl|rfl|rfl|rfl|rfl|rfl|rfl|rfl <;> exact ⟨_,rfl⟩)
 refine bo ?_;refine az Tryz.func171 [.tmp 5] ?_;repeat' (first|((with_reducible refine aX (id:=1) (fun K hW => ?_));(try simp (maxSteps:=999999)(disch:=omega) only [go_sem]);and_intros;all_goals first|(refine hK _ ?_;clear hK K)|try exact ai)|refine an (fun K hK => ?_)|refine gS (hc) ?_|(refine aq hK ?_;try clear hK K))
 refine hW _ (aP [(0, .b (vP s)),(1, .b (I i)),(2, .b (.c (.ipt 1 (fun _=>kA 122) 0))),(6, .b (.c (.own 1 s.ops.length)))] [(1, .arr 33 12 s.ops.length (aQ cC s.ops))] 2) ?_ ?_
 ·refine ar [(1,some 0)] ?_ ?_;and_intros;all_goals try exact ak
 clear hW;refine sx (by decide +kernel) (by decide +kernel) (fun K hK => ?_);refine bV ?_;refine ⟨⟨by omega,by omega⟩, ?_⟩;refine Pf 1 s.ops.length i (aQ cC s.ops) (ah s.ops i) ba hi ba (fun j hj=>rfl) ?_ ?_
 ·exact bZ
 intro F hF1 hF2;refine hK _ ?_;clear hK;repeat' (refine aC ?_)
 refine fR (fg ?_);exact EA hi hF1 hF2
theorem nX (s:Script) (V:VOps s) (i:Nat) (hi:i<s.ops.length):aB Sg 110 [vP s,I i] (fun x=>x = .b (.c (.p (kU (gv s i))))):=by
 have hn:=V.cnt;have W:=V.wf;have hel:=cB W hi;have hge:=jl W hi
 have hc:=jd i (fun a j=>aQ cC s.ops (0+a) j) (by omega) (fun a ha j hj=>by
  have hivl:j=0∨j=1∨j=2∨j=3∨j=4∨j=5∨j=6∨j=7∨j=8∨j=9∨j=10∨j=11:=by omega
  rcases hivl with rfl|rfl|rfl|rfl|rfl|rfl|rfl|rfl|rfl|rfl|rfl|rfl <;> exact ⟨_,rfl⟩)
 refine bo ?_;refine az Tryz.func110 [.tmp 4] ?_;repeat' (first|with_reducible exact cz|refine bL ?_|((with_reducible refine aX (id:=0) (fun K hW => ?_));(try simp (maxSteps:=999999)(disch:=omega) only [go_sem]);and_intros;all_goals first|(refine hK _ ?_;clear hK K)|try exact ai)|((first|refine an (fun K hK => ?_)|refine pj ?_);and_intros;all_goals first|(refine hK _ ?_;clear hK K)|try exact ai)|((first|apply dC|apply dE);(case hf=>rfl);(case hc=>exact du);(all_goals first|(intro hb;(try simp only [nR] at hb))|skip))|exact bd|(refine aH (fun hb => ?_) (fun hb => ?_);all_goals try exact ax)|refine eo (fun KB hB => ?_)|(refine hB _ ?_;clear hB KB)|refine gM (S:=Sg) (by assumption) ?_|(refine bF ?_;(try clear hB KB);(try clear hK K)))
 refine hW _ (aP [(0, .b (vP s)),(1, .b (I i))] [] 1) ?_ ?_
 ·refine ar [] ?_ ?_;and_intros;all_goals try exact ak
 clear hW;refine cM (id:=1) (.br 0 (.br 1 (.br 2 (.br 3 (.br 4 (.br 5 (.br 6 (.br 8 (.br 9 (.br 10 (.br 11 (.br 13 (.br 14 (.br 15 (.br 17 (.br 7 (.br 12 (.br 16 (.br 18 (.br 19 (.br 20 (.br 21 (.br 22 (.br 23 .leaf .nil) .nil) .nil) .nil) .nil) .nil) .nil) .nil) (.br 12 (.br 7 (.br 16 (.br 18 (.br 19 (.br 20 (.br 21 (.br 22 (.br 23 .leaf .nil) .nil) .nil) .nil) .nil) .nil) .nil) (.br 16 (.br 18 (.br 7 (.br 19 (.br 20 (.br 21 (.br 22 (.br 23 .leaf .nil) .nil) .nil) .nil) .nil) (.br 19 (.br 20 (.br 21 (.br 7 (.br 22 (.br 23 .leaf .nil) .nil) .nil) .nil) .nil) .nil)) .nil) .nil)) (.br 16 (.br 18 (.br 7 (.br 12 (.br 19 (.br 20 (.br 21 (.br 22 (.br 23 .leaf .nil) .nil) .nil) .nil) .nil) .nil) (.br 12 (.br 7 (.br 19 (.br 20 (.br 21 (.br 22 (.br 23 .leaf .nil) .nil) .nil) .nil) .nil) (.br 19 (.br 20 (.br 21 (.br 7 (.br 22 (.br 23 .leaf .nil) .nil) .nil) .nil) .nil) .nil)) (.br 19 (.br 20 (.br 7 (.br 12 (.br 21 (.br 22 (.br 23 .leaf .nil) .nil) .nil) .nil) (.br 12 (.br 21 (.br 7 (.br 22 (.br 23 .leaf .nil) .nil) .nil) .nil) .nil)) .nil) .nil))) .nil) .nil))) .nil) .nil) .nil) .nil) .nil) .nil) .nil) .nil) .nil) .nil) .nil) .nil) .nil) .nil) .nil) (by decide +kernel) bZ (fun K0 hW => ?_);refine (fun (tl:∀ st,Le st (aP [(4, .b (.c (.own 1 (i+(s.ops.length - (aE s.ops i+1))))))] [(1, .arr 33 12 (i+(s.ops.length - (aE s.ops i+1))) (dV i (fun a j=>aQ cC s.ops (0+a) j) (fun a j=>aQ cC s.ops (aE s.ops i+1+a) j)))] 2)→K0 st) => ?_) (fun st hl=>hW st _ hl ?_)
 ·clear hW;repeat' (first|exact bp|(refine bO (fun K' hK' => ?_) ?_)|(refine aZ (tl _ ?_);clear tl)|((first|refine gS (hc) ?_);(try simp (maxSteps:=999999)(disch:=omega) only [go_sem]);and_intros;(all_goals first|(refine hK' _ ?_;clear hK' K')|trivial|omega|exact Nat.le_of_ble_eq_true rfl|exact ai|skip))|(simp (maxSteps:=999999)(disch:=omega) only [go_sem];and_intros;(all_goals first|(refine hK' _ ?_;clear hK' K')|trivial|omega|exact Nat.le_of_ble_eq_true rfl|exact ai|skip)))
  all_goals
   refine ar [(1,some 2)] ?_ ?_;and_intros;all_goals try exact ak
 clear hW;repeat' (first|with_reducible exact cz|refine bL ?_|((first|refine an (fun K hK => ?_)|refine pj ?_);and_intros;all_goals first|(refine hK _ ?_;clear hK K)|try exact ai)|((first|apply dC|apply dE);(case hf=>rfl);(case hc=>exact du);(all_goals first|(intro hb;(try simp only [nR] at hb))|skip))|exact bd|(refine aH (fun hb => ?_) (fun hb => ?_);all_goals try exact ax)|refine eo (fun KB hB => ?_)|(refine hB _ ?_;clear hB KB)|refine gM (S:=Sg) (by assumption) ?_|(refine bF ?_;(try clear hB KB);(try clear hK K)))
 refine fR (fg ?_);have hl:(gv s i).length=i+(s.ops.length - (aE s.ops i+1)):=by rw [gv,List.length_append,List.length_take,List.length_drop];omega
 show PV.le _ (PV.lst 12 (gv s i).length (aQ cC (gv s i)));rw [hl];refine gX fun a ha j hj => ?_;have hg:(gv s i).getD a default=if a<i then s.ops.getD (0+a) default else s.ops.getD (aE s.ops i+1+(a - i)) default:=by
  rw [gv,List.getD_eq_getElem?_getD,List.getElem?_append,List.length_take,Nat.min_eq_left (Nat.le_of_lt hi)];split
  ·rename_i h;rw [List.getElem?_take_of_lt h,Nat.zero_add,List.getD_eq_getElem?_getD]
  ·rw [List.getElem?_drop,List.getD_eq_getElem?_getD]
 show _=(cC ((gv s i).getD a default)).getD j .any;rw [hg];unfold dV;split <;> rfl
theorem Lr {n m : Nat} {f g : Nat → Nat → PV} {a b : List Op} (hn : a.length = n) (hf : ∀ x, x < n → ∀ j, j < 12 → f x j = aQ cC a x j) (hg : ∀ x, x < m → ∀ j, j < 12 → g x j = aQ cC b x j) (x : Nat) (hx : x < n + m) (j : Nat) (hj : j < 12) :
  dV n f g x j=aQ cC (a ++ b) x j:=by
 unfold dV;by_cases h:x<n
 ·rw [if_pos h,hf x h j hj];exact congrArg (fun o=>(cC o).getD j .any) (show a.getD x default=(a ++ b).getD x default by rw [List.getD_eq_getElem?_getD,List.getD_eq_getElem?_getD,List.getElem?_append_left (by omega)])
 ·rw [if_neg h,hg (x - n) (by omega) j hj];exact congrArg (fun o=>(cC o).getD j .any) (show b.getD (x - n) default=(a ++ b).getD x default by rw [List.getD_eq_getElem?_getD,List.getD_eq_getElem?_getD,List.getElem?_append_right (by omega),hn])
theorem a1I {n:Nat} {f:Nat→Nat→PV} {l:List Op} (hn:n=l.length) (h:∀ x,x<n→∀ j,j<12→f x j=aQ cC l x j):PV.le (.lst 12 n f) (kU l):=by
 subst hn;exact gX h
theorem Yo {l:List Op} {i x j:Nat} (h:x<i):aQ cC l (0+x) j=aQ cC (l.take i) x j:=by exact congrArg (fun o=>(cC o).getD j .any) (show l.getD (0+x) default=(l.take i).getD x default by rw [List.getD_eq_getElem?_getD,List.getD_eq_getElem?_getD,List.getElem?_take_of_lt h,Nat.zero_add])
theorem YF {l:List Op} {k x j:Nat}:aQ cC l (k+x) j=aQ cC (l.drop k) x j:=by exact congrArg (fun o=>(cC o).getD j .any) (show l.getD (k+x) default=(l.drop k).getD x default by rw [List.getD_eq_getElem?_getD,List.getD_eq_getElem?_getD,List.getElem?_drop])
theorem a3p {o:Op} {x j:Nat} (h:x<1):(cC o).getD j .any=aQ cC [o] x j:=by
 have:x=0:=by omega
 subst this;rfl
theorem zA {i:Nat} {f g g':Nat→Nat→PV} (h:∀ j,j<12→g 0 j=g' 0 j):∀ a,a<i+1→∀ j,j<12→PV.le (dV i f g a j) (dV i f g' a j):=fun a ha j hj=>by
 unfold dV;by_cases hi:a<i
 ·rw [if_pos hi,if_pos hi];exact fun _ _ _ h=>h
 ·rw [if_neg hi,if_neg hi,show a - i=0 by omega,h j hj];exact fun _ _ _ h=>h
theorem zt {s : Script} {i : Nat} (W : Wf s.ops) (hi : i < s.ops.length) (hge : i + 2 ≤ aE s.ops i) (hel : aE s.ops i < s.ops.length) :
  PV.le (.lst 12 (i+1+(aE s.ops i - (i+2))+(s.ops.length - (aE s.ops i+1)))
   (dV (i+1+(aE s.ops i - (i+2))) (dV (i+1) (dV i (fun a j=>aQ cC s.ops (0+a) j) (fun _ j=>(cC (bI s i)).getD j .any)) (fun a j=>aQ cC s.ops (i+2+a) j)) (fun a j=>aQ cC s.ops (aE s.ops i+1+a) j))) (kU (jY s i)):=by
 have l1:(s.ops.take i).length=i:=by rw [List.length_take];omega
 have l2:(s.ops.take i ++ [bI s i]).length=i+1:=by rw [List.length_append,l1];rfl
 have l3:(s.ops.take i ++ [bI s i] ++ (s.ops.take (aE s.ops i)).drop (i+2)).length=i+1+(aE s.ops i - (i+2)):=by rw [List.length_append,l2,List.length_drop,List.length_take];omega
 refine a1I ?_ ?_
 ·rw [jY,List.length_append,l3,List.length_drop]
 ·refine Lr l3 (Lr l2 (Lr l1 (fun x hx j hj=>Yo hx) (fun x hx j hj=>a3p hx)) (fun x hx j hj => ?_)) (fun x hx j hj=>YF)
  exact congrArg (fun o=>(cC o).getD j .any) (show s.ops.getD (i+2+x) default=((s.ops.take (aE s.ops i)).drop (i+2)).getD x default by
   rw [List.getD_eq_getElem?_getD,List.getD_eq_getElem?_getD,List.getElem?_drop,List.getElem?_take_of_lt (by omega)])
theorem Fi (s:Script) (V:VOps s) (i:Nat) (hi:i<s.ops.length) (hk:(ah s.ops i).kind=2) (h1:1≤jw s.ops i):aB Sg 124 [vP s,I i] (fun x=>x = .b (.c (.p (kU (jY s i))))):=by
 have hn:=V.cnt;have W:=V.wf;have hel:=cB W hi;obtain ⟨hge,hk3⟩:=rl W hi hk h1
 have hc:=jd i (fun a j=>aQ cC s.ops (0+a) j) (by omega) (fun a ha j hj=>by
  have hivl:j=0∨j=1∨j=2∨j=3∨j=4∨j=5∨j=6∨j=7∨j=8∨j=9∨j=10∨j=11:=by omega
  rcases hivl with rfl|rfl|rfl|rfl|rfl|rfl|rfl|rfl|rfl|rfl|rfl|rfl <;> exact ⟨_,rfl⟩)
 have hu:=nU s (ah s.ops (i+1));refine bo ?_;refine az Tryz.func124 [.tmp 4] ?_;repeat' ((with_reducible refine aX (id:=0) (fun K hW => ?_));(try simp (maxSteps:=999999)(disch:=omega) only [go_sem]);and_intros;all_goals first|(refine hK _ ?_;clear hK K)|try exact ai)
 refine hW _ (aP [(0, .b (vP s)),(1, .b (I i))] [] 1) ?_ ?_
 ·refine ar [] ?_ ?_;and_intros;all_goals try exact ak
 clear hW;refine cM (id:=1) (.br 0 (.br 1 (.br 2 (.br 3 (.br 4 (.br 5 (.br 6 (.br 7 (.br 8 (.br 9 (.br 10 (.br 11 (.br 13 (.br 14 (.br 12 (.br 15 (.br 16 (.br 17 (.br 18 (.br 19 (.br 20 .leaf .nil) .nil) .nil) (.br 18 (.br 17 (.br 19 (.br 20 .leaf .nil) .nil) .nil) .nil)) (.br 17 (.br 16 (.br 18 (.br 19 (.br 20 .leaf .nil) .nil) .nil) (.br 18 (.br 16 (.br 19 (.br 20 .leaf .nil) .nil) (.br 19 (.br 16 (.br 20 .leaf .nil) .nil) .nil)) .nil)) (.br 18 (.br 16 (.br 17 (.br 19 (.br 20 .leaf .nil) .nil) .nil) (.br 17 (.br 16 (.br 19 (.br 20 .leaf .nil) .nil) (.br 19 (.br 16 (.br 20 .leaf .nil) .nil) .nil)) .nil)) .nil))) .nil) (.br 17 (.br 12 (.br 15 (.br 16 (.br 18 (.br 19 (.br 20 .leaf .nil) .nil) .nil) (.br 18 (.br 16 (.br 19 (.br 20 .leaf .nil) .nil) (.br 19 (.br 16 (.br 20 .leaf .nil) .nil) .nil)) .nil)) .nil) (.br 18 (.br 12 (.br 15 (.br 16 (.br 19 (.br 20 .leaf .nil) .nil) (.br 19 (.br 16 (.br 20 .leaf .nil) .nil) .nil)) .nil) (.br 19 (.br 12 (.br 15 (.br 16 (.br 20 .leaf .nil) .nil) .nil) .nil) .nil)) .nil)) (.br 18 (.br 12 (.br 15 (.br 16 (.br 17 (.br 19 (.br 20 .leaf .nil) .nil) .nil) (.br 17 (.br 16 (.br 19 (.br 20 .leaf .nil) .nil) (.br 19 (.br 16 (.br 20 .leaf .nil) .nil) .nil)) .nil)) .nil) (.br 17 (.br 12 (.br 15 (.br 16 (.br 19 (.br 20 .leaf .nil) .nil) (.br 19 (.br 16 (.br 20 .leaf .nil) .nil) .nil)) .nil) (.br 19 (.br 12 (.br 15 (.br 16 (.br 20 .leaf .nil) .nil) .nil) .nil) .nil)) .nil)) .nil))) .nil) .nil) .nil) .nil) .nil) .nil) .nil) .nil) .nil) .nil) .nil) .nil) .nil) .nil) (by decide +kernel) bZ (fun K0 hW => ?_);refine (fun (tl:∀ st,Le st (aP [(0, .b (vP s)),(1, .b (I i)),(5, .b (.c (.ptr 1 0))),(6, .b (.c (.ptr 2 0)))] [(1, .fix ((cC (ah s.ops i)).map CV.p)),(2, .fix ((cC (ah s.ops (i+1))).map CV.p))] 3)→K0 st) => ?_) (fun st hl=>hW st _ hl ?_)
 ·clear hW;repeat' (first|exact bp|(refine bO (fun K' hK' => ?_) ?_)|(refine aZ (tl _ ?_);clear tl)|(simp (maxSteps:=999999)(disch:=omega) only [go_sem];and_intros;(all_goals first|(refine hK' _ ?_;clear hK' K')|trivial|omega|exact Nat.le_of_ble_eq_true rfl|exact ai|skip)))
  all_goals first|(refine tP [(1,some 1),(2,some 2)] rfl (by decide) rfl ?_ ?_;(all_goals (simp (maxSteps:=999999)(disch:=omega) only [go_sem]));and_intros;(all_goals first|rfl|omega|exact .inl rfl|trivial|skip);done)|(refine tP [(1,some 2),(2,some 1)] rfl (by decide) rfl ?_ ?_;(all_goals (simp (maxSteps:=999999)(disch:=omega) only [go_sem]));and_intros;(all_goals first|rfl|omega|exact .inl rfl|trivial|skip);done)
 clear hW;unfold ah at hu;rcases Bool.eq_false_or_eq_true (jF s (s.ops.getD (i+1) default)) with hu1|hu1 <;> by_cases hk2:(ah s.ops (i+1)).kind=2
 ·have hun:∃ o,o=bI s i∧o = { ah s.ops (i+1) with mask:=(ah s.ops i).mask,maskX:=(ah s.ops i).maskX,maskY:=(ah s.ops i).maskY,opacity:=(ah s.ops i).opacity,operator:=(ah s.ops i).operator,mode:=(ah s.ops i).mode,isolated:=true }:=by
   refine ⟨_,rfl, ?_⟩;unfold bI mr;rw [if_pos (show jF s (ah s.ops (i+1))=true from hu1)];exact if_pos hk2
  obtain ⟨o,ho,hun⟩:=hun;have hk4:((ah s.ops (i+1)).kind == 2)=true:=beq_iff_eq.2 hk2;have hk3:((s.ops.getD (i+1) default).kind == 2)=true:=hk4;repeat' (first|refine aj (And.intro hu1 (And.intro hk3 hk4)) ?_|((with_reducible refine vi (id:=3) [(28,5),(30,5),(32,5),(34,5),(36,6),(37,6),(38,6),(39,6)] ?_ (fun K hK => ?_));exact bZ;refine bV ?_)|((with_reducible refine vi (id:=4) [(40,5),(42,5),(44,6),(45,6)] ?_ (fun K hK => ?_));exact bZ;refine bV ?_)|refine aw ?_|refine an (fun K hK => ?_)|refine aa (hu) ?_|(refine aq hK ?_;try clear hK K)|(refine pz hK ?_;try clear hK K))
  refine cM (id:=7) (.br 0 (.br 1 (.br 2 (.br 3 (.br 4 (.br 5 (.br 6 (.br 7 (.br 8 (.br 9 (.br 10 (.br 11 .leaf .nil) .nil) .nil) .nil) (.br 8 (.br 7 (.br 9 (.br 10 (.br 11 .leaf .nil) .nil) .nil) (.br 9 (.br 7 (.br 10 (.br 11 .leaf .nil) .nil) .nil) .nil)) .nil)) .nil) .nil) .nil) .nil) .nil) .nil) .nil) (by decide +kernel) bZ (fun K0 hW => ?_);refine (fun (tl:∀ st,Le st (aP [(0, .b (vP s)),(1, .b (I i)),(7, .b (.c (.own 1 (i+1))))] [(1, .arr 33 12 (i+1) (dV i (fun a j=>aQ cC s.ops (0+a) j) (fun _ j=>(cC (bI s i)).getD j .any)))] 2)→K0 st) => ?_) (fun st hl=>hW st _ hl ?_)
  ·clear hW;repeat' (first|exact bp|(refine bO (fun K' hK' => ?_) ?_)|(refine aZ (tl _ ?_);clear tl)|(refine gS (hc) ?_;(try simp (maxSteps:=999999)(disch:=omega) only [go_sem]);and_intros;(all_goals first|(refine hK' _ ?_;clear hK' K')|trivial|omega|exact Nat.le_of_ble_eq_true rfl|exact ai|skip))|(simp (maxSteps:=999999)(disch:=omega) only [go_sem];and_intros;(all_goals first|(refine hK' _ ?_;clear hK' K')|trivial|omega|exact Nat.le_of_ble_eq_true rfl|exact ai|skip)))
   all_goals
    rw [← ho,hun];refine ar [(1,some 5)] ?_ ?_;and_intros;all_goals try exact ak
   all_goals
    refine .inr (zA fun j hj => ?_);have hivl:j=0∨j=1∨j=2∨j=3∨j=4∨j=5∨j=6∨j=7∨j=8∨j=9∨j=10∨j=11:=by omega
    rcases hivl with rfl|rfl|rfl|rfl|rfl|rfl|rfl|rfl|rfl|rfl|rfl|rfl <;> rfl
  clear hW;repeat' (refine aC ?_)
  exact fR (fg (zt W hi hge hel))
 ·have hun:∃ o,o=bI s i∧o = { ah s.ops (i+1) with mask:=(ah s.ops i).mask,maskX:=(ah s.ops i).maskX,maskY:=(ah s.ops i).maskY,opacity:=(ah s.ops i).opacity,operator:=(ah s.ops i).operator,mode:=(ah s.ops i).mode }:=by
   refine ⟨_,rfl, ?_⟩;unfold bI mr;rw [if_pos (show jF s (ah s.ops (i+1))=true from hu1)];exact if_neg hk2
  obtain ⟨o,ho,hun⟩:=hun;have hk4:((ah s.ops (i+1)).kind == 2)=false:=beq_eq_false_iff_ne.2 hk2;have hk3:((s.ops.getD (i+1) default).kind == 2)=false:=hk4;repeat' (first|refine aj (And.intro hu1 (And.intro hk3 hk4)) ?_|((with_reducible refine vi (id:=3) [(28,5),(30,5),(32,5),(34,5),(36,6),(37,6),(38,6),(39,6)] ?_ (fun K hK => ?_));exact bZ;refine bV ?_)|((with_reducible refine vi (id:=4) [(40,5),(42,5),(44,6),(45,6)] ?_ (fun K hK => ?_));exact bZ;refine bV ?_)|refine aw ?_|refine an (fun K hK => ?_)|refine aa (hu) ?_|(refine aq hK ?_;try clear hK K)|(refine pz hK ?_;try clear hK K))
  refine cM (id:=7) (.br 0 (.br 1 (.br 2 (.br 3 (.br 4 (.br 5 (.br 6 (.br 7 (.br 8 (.br 9 (.br 10 (.br 11 .leaf .nil) .nil) .nil) .nil) (.br 8 (.br 7 (.br 9 (.br 10 (.br 11 .leaf .nil) .nil) .nil) (.br 9 (.br 7 (.br 10 (.br 11 .leaf .nil) .nil) .nil) .nil)) .nil)) .nil) .nil) .nil) .nil) .nil) .nil) .nil) (by decide +kernel) bZ (fun K0 hW => ?_);refine (fun (tl:∀ st,Le st (aP [(0, .b (vP s)),(1, .b (I i)),(7, .b (.c (.own 1 (i+1))))] [(1, .arr 33 12 (i+1) (dV i (fun a j=>aQ cC s.ops (0+a) j) (fun _ j=>(cC (bI s i)).getD j .any)))] 2)→K0 st) => ?_) (fun st hl=>hW st _ hl ?_)
  ·clear hW;repeat' (first|exact bp|(refine bO (fun K' hK' => ?_) ?_)|(refine aZ (tl _ ?_);clear tl)|(refine gS (hc) ?_;(try simp (maxSteps:=999999)(disch:=omega) only [go_sem]);and_intros;(all_goals first|(refine hK' _ ?_;clear hK' K')|trivial|omega|exact Nat.le_of_ble_eq_true rfl|exact ai|skip))|(simp (maxSteps:=999999)(disch:=omega) only [go_sem];and_intros;(all_goals first|(refine hK' _ ?_;clear hK' K')|trivial|omega|exact Nat.le_of_ble_eq_true rfl|exact ai|skip)))
   all_goals
    rw [← ho,hun];refine ar [(1,some 5)] ?_ ?_;and_intros;all_goals try exact ak
   all_goals
    refine .inr (zA fun j hj => ?_);have hivl:j=0∨j=1∨j=2∨j=3∨j=4∨j=5∨j=6∨j=7∨j=8∨j=9∨j=10∨j=11:=by omega
    rcases hivl with rfl|rfl|rfl|rfl|rfl|rfl|rfl|rfl|rfl|rfl|rfl|rfl <;> rfl
  clear hW;repeat' (refine aC ?_)
  exact fR (fg (zt W hi hge hel))
 ·have hun:∃ o,o=bI s i∧o = { ah s.ops (i+1) with operator:=(ah s.ops i).operator,mode:=(ah s.ops i).mode,isolated:=true }:=by
   refine ⟨_,rfl, ?_⟩;unfold bI mr;rw [if_neg (show ¬ jF s (ah s.ops (i+1))=true by unfold ah;rw [hu1];decide)];exact if_pos hk2
  obtain ⟨o,ho,hun⟩:=hun;have hk4:((ah s.ops (i+1)).kind == 2)=true:=beq_iff_eq.2 hk2;have hk3:((s.ops.getD (i+1) default).kind == 2)=true:=hk4;repeat' (first|refine aj (And.intro hu1 (And.intro hk3 hk4)) ?_|((with_reducible refine vi (id:=4) [(40,5),(42,5),(44,6),(45,6)] ?_ (fun K hK => ?_));exact bZ;refine bV ?_)|refine aw ?_|refine an (fun K hK => ?_)|refine aa (hu) ?_|(refine aq hK ?_;try clear hK K)|(refine pz hK ?_;try clear hK K))
  refine cM (id:=7) (.br 0 (.br 1 (.br 2 (.br 3 (.br 4 (.br 5 (.br 6 (.br 7 (.br 8 (.br 9 (.br 10 (.br 11 .leaf .nil) .nil) .nil) .nil) (.br 8 (.br 7 (.br 9 (.br 10 (.br 11 .leaf .nil) .nil) .nil) (.br 9 (.br 7 (.br 10 (.br 11 .leaf .nil) .nil) .nil) .nil)) .nil)) .nil) .nil) .nil) .nil) .nil) .nil) .nil) (by decide +kernel) bZ (fun K0 hW => ?_);refine (fun (tl:∀ st,Le st (aP [(0, .b (vP s)),(1, .b (I i)),(7, .b (.c (.own 1 (i+1))))] [(1, .arr 33 12 (i+1) (dV i (fun a j=>aQ cC s.ops (0+a) j) (fun _ j=>(cC (bI s i)).getD j .any)))] 2)→K0 st) => ?_) (fun st hl=>hW st _ hl ?_)
  ·clear hW;repeat' (first|exact bp|(refine bO (fun K' hK' => ?_) ?_)|(refine aZ (tl _ ?_);clear tl)|(refine gS (hc) ?_;(try simp (maxSteps:=999999)(disch:=omega) only [go_sem]);and_intros;(all_goals first|(refine hK' _ ?_;clear hK' K')|trivial|omega|exact Nat.le_of_ble_eq_true rfl|exact ai|skip))|(simp (maxSteps:=999999)(disch:=omega) only [go_sem];and_intros;(all_goals first|(refine hK' _ ?_;clear hK' K')|trivial|omega|exact Nat.le_of_ble_eq_true rfl|exact ai|skip)))
   all_goals
    rw [← ho,hun];refine ar [(1,some 5)] ?_ ?_;and_intros;all_goals try exact ak
   all_goals
    refine .inr (zA fun j hj => ?_);have hivl:j=0∨j=1∨j=2∨j=3∨j=4∨j=5∨j=6∨j=7∨j=8∨j=9∨j=10∨j=11:=by omega
    rcases hivl with rfl|rfl|rfl|rfl|rfl|rfl|rfl|rfl|rfl|rfl|rfl|rfl <;> rfl
  clear hW;repeat' (refine aC ?_)
  exact fR (fg (zt W hi hge hel))
 ·have hun:∃ o,o=bI s i∧o = { ah s.ops (i+1) with operator:=(ah s.ops i).operator,mode:=(ah s.ops i).mode }:=by
   refine ⟨_,rfl, ?_⟩;unfold bI mr;rw [if_neg (show ¬ jF s (ah s.ops (i+1))=true by unfold ah;rw [hu1];decide)];exact if_neg hk2
  obtain ⟨o,ho,hun⟩:=hun;have hk4:((ah s.ops (i+1)).kind == 2)=false:=beq_eq_false_iff_ne.2 hk2;have hk3:((s.ops.getD (i+1) default).kind == 2)=false:=hk4;repeat' (first|refine aj (And.intro hu1 (And.intro hk3 hk4)) ?_|((with_reducible refine vi (id:=4) [(40,5),(42,5),(44,6),(45,6)] ?_ (fun K hK => ?_));exact bZ;refine bV ?_)|refine aw ?_|refine an (fun K hK => ?_)|refine aa (hu) ?_|(refine aq hK ?_;try clear hK K)|(refine pz hK ?_;try clear hK K))
  refine cM (id:=7) (.br 0 (.br 1 (.br 2 (.br 3 (.br 4 (.br 5 (.br 6 (.br 7 (.br 8 (.br 9 (.br 10 (.br 11 .leaf .nil) .nil) .nil) .nil) (.br 8 (.br 7 (.br 9 (.br 10 (.br 11 .leaf .nil) .nil) .nil) (.br 9 (.br 7 (.br 10 (.br 11 .leaf .nil) .nil) .nil) .nil)) .nil)) .nil) .nil) .nil) .nil) .nil) .nil) .nil) (by decide +kernel) bZ (fun K0 hW => ?_);refine (fun (tl:∀ st,Le st (aP [(0, .b (vP s)),(1, .b (I i)),(7, .b (.c (.own 1 (i+1))))] [(1, .arr 33 12 (i+1) (dV i (fun a j=>aQ cC s.ops (0+a) j) (fun _ j=>(cC (bI s i)).getD j .any)))] 2)→K0 st) => ?_) (fun st hl=>hW st _ hl ?_)
  ·clear hW;repeat' (first|exact bp|(refine bO (fun K' hK' => ?_) ?_)|(refine aZ (tl _ ?_);clear tl)|(refine gS (hc) ?_;(try simp (maxSteps:=999999)(disch:=omega) only [go_sem]);and_intros;(all_goals first|(refine hK' _ ?_;clear hK' K')|trivial|omega|exact Nat.le_of_ble_eq_true rfl|exact ai|skip))|(simp (maxSteps:=999999)(disch:=omega) only [go_sem];and_intros;(all_goals first|(refine hK' _ ?_;clear hK' K')|trivial|omega|exact Nat.le_of_ble_eq_true rfl|exact ai|skip)))
   all_goals
    rw [← ho,hun];refine ar [(1,some 5)] ?_ ?_;and_intros;all_goals try exact ak
   all_goals
    refine .inr (zA fun j hj => ?_);have hivl:j=0∨j=1∨j=2∨j=3∨j=4∨j=5∨j=6∨j=7∨j=8∨j=9∨j=10∨j=11:=by omega
    rcases hivl with rfl|rfl|rfl|rfl|rfl|rfl|rfl|rfl|rfl|rfl|rfl|rfl <;> rfl
  clear hW;repeat' (refine aC ?_)
  exact fR (fg (zt W hi hge hel))
end
theorem a8o:ri Sg.P 41 (fun (p:Int × Int × Int)=>[PU p.1,PU p.2.1,PU p.2.2]) (fun p=>u16 p.1∧u16 p.2.1∧u16 p.2.2):=by
 refine ri.to (gI ?_ ?_ (aO CP rfl (aO CP rfl (aO CP rfl jz)))) (fun (a,b,c,_)=>(a,b,c)) (fun _=>rfl) ?_
 ·kernel_rfl
 ·kernel_rfl
 ·rintro _ ⟨h1,h2,h3,_⟩;exact ⟨h1,h2,h3⟩
theorem a0F:ri Sg.P 43 aU (fun p=>u16 p.c0∧u16 p.c1∧u16 p.c2∧u16 p.a∧u16 p.f):=by
 refine ri.to (gI ?_ ?_ (aO a8o rfl (aO CP rfl (aO CP rfl jz)))) (fun (p,a,f,_)=>(⟨p.1,p.2.1,p.2.2,a,f⟩:Pixel)) (fun _=>rfl) ?_
 ·kernel_rfl
 ·kernel_rfl
 ·rintro _ ⟨⟨h1,h2,h3⟩,h4,h5,_⟩;exact ⟨h1,h2,h3,h4,h5⟩
theorem RP {l:List Image} {k i j:Nat} {m:Image} (hk:k<l.length):aQ aF (l.set k m) i j=if i=k then (aF m).getD j .any else aQ aF l i j:=by
 show (aF ((l.set k m).getD i default)).getD j .any=_;simp only [List.getD_eq_getElem?_getD,List.getElem?_set];by_cases h:i=k
 ·subst h;rw [if_pos rfl,if_pos rfl,if_pos hk];rfl
 ·rw [if_neg (fun q=>h q.symm),if_neg h];rfl
theorem zk {l:List Image} {k i:Nat} {m:Image} (hk:k<l.length):(l.set k m).getD i default=if i=k then m else l.getD i default:=by
 simp only [List.getD_eq_getElem?_getD,List.getElem?_set];by_cases h:i=k
 ·subst h;rw [if_pos rfl,if_pos rfl,if_pos hk];rfl
 ·rw [if_neg (fun q=>h q.symm),if_neg h]
end Go.Proofs.YtdjmpacladhijaaGreatDoor
