/- Part of the proof: T6, T7, T8, WF, WG, WH. -/
import Derived.Test.YtcbifofjjpfbcaaGreatDoorM17
set_option linter.unusedSimpArgs false
set_option linter.unusedVariables false
namespace Go.Proofs.YtcbifofjjpfbcaaGreatDoor
inductive Elm:List Op→Prop
 | nil:Elm []
 | draw {o:Op} {r:List Op}:o.kind=1→Elm r→Elm (o :: r)
 | grp {o p:Op} {l r:List Op}:o.kind=2→Elm l→p.kind=3→Elm r→Elm (o :: (l ++ p :: r))
def kH (m:Int) (z:Op→Pixel × Int) (l:List Op) (ko:Bool) (a:Acc) (b:Pixel):Acc:=((lD m z l [⟨{ iR with knockout:=ko },a,b⟩]).headD base).acc
section
variable {m:Int} {z:Op→Pixel × Int}
theorem oK {o:Op} {t:Lv} {r:List Lv} (h:o.kind=1):iC m z (t :: r) o=eX m o (aP m o (z o).1 (z o).2) t :: r:=if_pos h
theorem lN {o:Op} {t:Lv} {r:List Lv} (h:o.kind=2):iC m z (t :: r) o=jA o t :: t :: r:=(if_neg (by omega)).trans (if_pos h)
theorem qI {o:Op} {t u:Lv} {r:List Lv} (h:o.kind=3):iC m z (t :: u :: r) o=eX m t.op (aP m t.op (bB t.acc t.back m) (z t.op).2) u :: r:=(if_neg (by omega)).trans (if_neg (by omega))
theorem HU {l:List Op} (h:Elm l):∃ F:Bool→Acc→Pixel→Acc,∀ t r,lD m z l (t :: r) = { t with acc:=F t.op.knockout t.acc t.back } :: r:=by
 induction h with
 | nil=>exact ⟨fun _ a _=>a,fun _ _=>rfl⟩
 | @draw o r h _ ih =>
  obtain ⟨F,hF⟩:=ih
  refine ⟨fun ko a b=>F ko (dI ko o.operator o.mode m (aP m o (z o).1 (z o).2) a b) b,fun t r => ?_⟩
  rw [jF,oK h,hF];rfl
 | @grp o p l r h1 _ h3 _ ih1 ih2 =>
  obtain ⟨F,hF⟩:=ih1
  obtain ⟨G,hG⟩:=ih2
  refine ⟨fun ko a b=>G ko (dI ko o.operator o.mode m (aP m o (bB (F o.knockout (sw (en o.isolated ko a b)) (en o.isolated ko a b)) (en o.isolated ko a b) m) (z o).2) a b) b,fun t r => ?_⟩
  rw [jF,lN h1,nw,hF,jF,qI h3,hG];rfl
theorem yT {l:List Op} (h:Elm l) (t:Lv) (r:List Lv):lD m z l (t :: r) = { t with acc:=kH m z l t.op.knockout t.acc t.back } :: r:=by
 obtain ⟨F,hF⟩:=HU (m:=m) (z:=z) h
 have e:∀ ko a b,kH m z l ko a b=F ko a b:=fun ko a b=>by
  unfold kH;rw [hF];rfl
 rw [hF,e]
theorem Np {x y:List Op} (hx:Elm x) {ko:Bool} {a:Acc} {b:Pixel}:kH m z (x ++ y) ko a b=kH m z y ko (kH m z x ko a b) b:=by
 conv=>lhs;unfold kH
 rw [nw,yT hx];rfl
theorem Ic {o:Op} (h:o.kind=1) {ko:Bool} {a:Acc} {b:Pixel}:kH m z [o] ko a b=dI ko o.operator o.mode m (aP m o (z o).1 (z o).2) a b:=by
 unfold kH
 rw [jF,oK h];rfl
def Lp (m:Int) (z:Op→Pixel × Int) (l:List Op) (ko:Bool) (B:Pixel):Pixel:=bB (kH m z l ko (sw B) B) B m
theorem NY {o p : Op} {l : List Op} (h1 : o.kind = 2) (hl : Elm l) (h3 : p.kind = 3) {ko : Bool} {a : Acc} {b : Pixel} :
  kH m z (o :: (l ++ [p])) ko a b=dI ko o.operator o.mode m (aP m o (Lp m z l o.knockout (en o.isolated ko a b)) (z o).2) a b:=by
 conv=>lhs;unfold kH
 rw [jF,lN h1,nw,yT hl,jF,qI h3];rfl
end
section
variable {ops:List Op}
theorem yk {i:Nat}:mg ops i i=[]:=by
 unfold mg
 rw [List.drop_eq_nil_of_le];rw [List.length_take];omega
theorem pw {i j k:Nat} (h1:i≤j) (h2:j≤k):mg ops i k=mg ops i j ++ mg ops j k:=by
 unfold mg
 have e:ops.take j=(ops.take k).take j:=by rw [List.take_take,Nat.min_eq_left h2]
 rw [e]
 generalize ops.take k=x
 rcases Nat.lt_or_ge (x.take j).length i with q|q
 rotate_left
 ·conv=>lhs;rw [← List.take_append_drop j x]
  rw [List.drop_append_of_le_length q]
 ·rw [List.drop_eq_nil_of_le (Nat.le_of_lt q)]
  rw [List.length_take] at q
  rw [List.drop_eq_nil_of_le (show x.length≤i by omega),List.drop_eq_nil_of_le (show x.length≤j by omega)];rfl
theorem sO {i:Nat} (h:i<ops.length):mg ops i (i+1)=[aB ops i]:=by
 unfold mg
 rw [qJ h,List.drop_append_of_le_length (by rw [List.length_take];omega),List.drop_eq_nil_of_le (by rw [List.length_take];omega)];rfl
theorem pG {i j:Nat} (h1:i<j) (h2:j≤ops.length):mg ops i j=aB ops i :: mg ops (i+1) j:=by
 rw [pw (show i≤i+1 by omega) (by omega),sO (by omega)];rfl
theorem xW (W : Wf ops) {i : Nat} (hi : i < ops.length) (hk : (aB ops i).kind = 2) :
  (aB ops (aR ops i)).kind=3∧bI ops (aR ops i)=i :: bI ops i∧∀ k,i+1≤k→k≤aR ops i→∃ l,bI ops k=l ++ i :: bI ops i:=by
 have he:=gY W hi hk
 have hel:=fT W hi
 have hse:=tL W hi (by omega)
 have hin:∀ k,i+1≤k→k≤aR ops i→∃ l,bI ops k=l ++ i :: bI ops i:=fun k k1 k2=>by
  have:=(lx W (show k≤ops.length by omega) (by omega)).2 ⟨hk,k2⟩
  obtain ⟨l,t,e⟩:=List.append_of_mem this
  exact ⟨l,by rw [kg e];exact e⟩
 obtain ⟨l,e⟩:=hin (aR ops i) (by omega) (Nat.le_refl _)
 have hk3:(aB ops (aR ops i)).kind=3:=by
  refine (W.kinds _ hel).elim (fun q => ?_) fun q=>q.elim (fun q => ?_) id
  ·have h2:=cr (ops:=ops) q
   rw [hse,e] at h2
   have:=congrArg List.length h2
   simp at this;omega
  ·have h2:=ct (ops:=ops) q
   rw [hse,e] at h2
   have:=congrArg List.length h2
   simp at this;omega
 refine ⟨hk3, ?_,hin⟩
 have h2:=dQ (ops:=ops) hk3
 rw [hse,e] at h2
 cases l with
 | nil=>exact e
 | cons x l =>
  have:=congrArg List.length h2
  simp at this;omega
theorem pK (W:Wf ops):∀ (d i j:Nat),j - i≤d→i≤j→j≤ops.length→bI ops i=bI ops j→(∀ k,i≤k→k≤j→(bI ops i).length≤(bI ops k).length)→Elm (mg ops i j)
 | 0,i,j,hd,hij,_,_,_=>by
  obtain rfl:j=i:=by omega
  rw [yk];exact .nil
 | d+1,i,j,hd,hij,hj,hs,hl=>by
  rcases Nat.eq_or_lt_of_le hij with rfl|hlt
  ·rw [yk];exact .nil
  have hi:i<ops.length:=by omega
  rcases W.kinds i hi with hk|hk|hk
  ·rw [pG (by omega) hj]
   have h1:=cr (ops:=ops) (i:=i) hk
   exact .draw hk (pK W d (i+1) j (by omega) (by omega) hj (h1.trans hs) fun k k1 k2=>by rw [h1];exact hl k (by omega) k2)
  ·have he:=gY W hi hk
   have hel:=fT W hi
   have hse:=tL W hi (by omega)
   have h1:=ct (ops:=ops) (i:=i) hk
   have nin:i ∉ bI ops i:=fun q=>by have:=dR q;omega
   have hej:aR ops i<j:=by
    refine Nat.not_le.1 fun q=>nin ?_
    have:=(lx W hj (by omega)).2 ⟨hk,q⟩
    rwa [← hs] at this
   obtain ⟨hk3,hes,hin⟩:=xW W hi hk
   rw [pG (by omega) hj,pw (show i+1≤aR ops i by omega) (by omega),pG hej hj]
   refine .grp hk (pK W d (i+1) _ (by omega) (by omega) (by omega) (h1.trans hes.symm) fun k k1 k2 => ?_) hk3
    (pK W d _ j (by omega) (by omega) hj (hse.trans hs) fun k k1 k2=>by rw [hse];exact hl k (by omega) k2)
   obtain ⟨l,e⟩:=hin k k1 k2
   rw [h1,e,List.length_append];omega
  ·exfalso
   have h1:=dQ (ops:=ops) hk
   have h2:=hl (i+1) (by omega) (by omega)
   rw [h1,List.length_tail] at h2
   have:=W.pops i hi hk
   cases hq:bI ops i with
   | nil=>exact this hq
   | cons x y =>
    rw [hq,List.length_cons] at h2
    omega
theorem Il (W:Wf ops) {i:Nat} (hi:i<ops.length) (hk:(aB ops i).kind≠3):Elm (mg ops i (aR ops i+1)):=by
 have hel:=fT W hi
 have heg:=sT W hi
 have hse:=tL W hi hk
 refine pK W _ i _ (Nat.le_refl _) (by omega) (by omega) hse.symm fun k k1 k2 => ?_
 rcases W.kinds i hi with h|h|h
 ·rw [gn W hi h] at k2
  have:k=i∨k=i+1:=by omega
  rcases this with rfl|rfl
  ·exact Nat.le_refl _
  ·rw [cr h];exact Nat.le_refl _
 ·rcases Nat.lt_or_ge k (aR ops i+1) with q|q
  ·rcases Nat.eq_or_lt_of_le k1 with rfl|q2
   ·exact Nat.le_refl _
   ·have:=(lx W (show k≤ops.length by omega) q2).2 ⟨h,by omega⟩
    obtain ⟨l,t,e⟩:=List.append_of_mem this
    rw [e,kg e,List.length_append,List.length_cons];omega
  ·obtain rfl:k=aR ops i+1:=by omega
   rw [hse];exact Nat.le_refl _
 ·exact absurd h hk
theorem Rm (W:Wf ops) {i:Nat} (hi:i<ops.length) (hk:(aB ops i).kind=2):Elm (mg ops (i+1) (aR ops i)):=by
 have he:=gY W hi hk
 have hel:=fT W hi
 have h1:=ct (ops:=ops) (i:=i) hk
 obtain ⟨_,hes,hin⟩:=xW W hi hk
 refine pK W _ _ _ (Nat.le_refl _) (by omega) (by omega) (h1.trans hes.symm) fun k k1 k2 => ?_
 obtain ⟨l,e⟩:=hin k k1 k2
 rw [h1,e,List.length_append];omega
theorem Nf (W:Wf ops) {i:Nat} (hi:i<ops.length) (hk:(aB ops i).kind=2):mg ops i (aR ops i+1)=aB ops i :: (mg ops (i+1) (aR ops i) ++ [aB ops (aR ops i)]):=by
 have he:=gY W hi hk
 have hel:=fT W hi
 rw [pG (by omega) (by omega),pw (show i+1≤aR ops i by omega) (by omega),sO hel]
end
end Go.Proofs.YtcbifofjjpfbcaaGreatDoor
namespace Go.Proofs.YtcbifofjjpfbcaaGreatDoor
theorem Ab {x:Ex} (h:ExOk x) (hq:x.q * x.q * x.r=0):hx x=cf x.p x.d:=by
 have hd:0<x.d:=h.d0
 obtain ⟨a1,a2⟩:=lh (n:=x.p) hd
 have sq0:∀ u:Int,u * u≤0→u=0:=fun u hu=>by
  rcases Int.lt_trichotomy u 0 with q|q|q
  ·have:=Int.mul_pos_of_neg_of_neg q q;omega
  ·exact q
  ·have:=Int.mul_pos q q;omega
 have e0:2 * x.q * (2 * x.q) * x.r=0:=by
  have:2 * x.q * (2 * x.q) * x.r=4 * (x.q * x.q * x.r):=by grind
  rw [this,hq];rfl
 refine Ny h ?_ ?_
 ·simp only [oA,decide_eq_true_eq]
  refine .inl ?_
  rw [Int.sub_mul,Int.mul_assoc,Int.mul_comm _ x.d];omega
 ·simp only [oA,decide_eq_false_iff_not,e0]
  rw [Int.add_mul,Int.mul_assoc,Int.mul_comm _ x.d]
  rintro (q|q)
  ·omega
  ·have:=sq0 _ q;omega
section
variable {op mode m cs sl cb ab:Int}
theorem xC (hm:Full m) (hs:Pre cs sl m) (hd:Pre cb ab m) (h0:sl=0∨ab=0):(aQ mode cs sl cb ab).p=0∧(aQ mode cs sl cb ab).q * (aQ mode cs sl cb ab).q * (aQ mode cs sl cb ab).r=0:=by
 have ht:=lA (mode:=mode) hm hs hd
 have e:sl * ab=0:=by rcases h0 with rfl|rfl <;> simp
 have h1:=ht.le
 have h2:=ht.sq
 have h3:=ht.p0
 rw [e,Int.zero_mul] at h1 h2
 have hp:(aQ mode cs sl cb ab).p=0:=by omega
 rw [hp] at h2
 refine ⟨hp,Int.le_antisymm (by simpa using h2) ?_⟩
 exact az (si _) ht.r0
theorem zZ (hm : Full m) (hs : Pre cs sl m) (hd : Pre cb ab m) (hq : (aQ mode cs sl cb ab).q * (aQ mode cs sl cb ab).q * (aQ mode cs sl cb ab).r = 0) {k : Int}
  (hv:(dK op mode m cs sl cb ab).p=k * (m * m * (aQ mode cs sl cb ab).d)):fB op mode m cs sl cb ab=k:=by
 have ho:=mU (op:=op) (mode:=mode) hm hs hd
 unfold fB
 rw [Ab ho ?_,hv]
 ·show cf (k * (m * m * (aQ mode cs sl cb ab).d)) (m * m * (aQ mode cs sl cb ab).d)=k
  have:0<m * m * (aQ mode cs sl cb ab).d:=ho.d0
  rw [Int.mul_comm,iA this]
 ·show gR op sl ab m * (aQ mode cs sl cb ab).q * (gR op sl ab m * (aQ mode cs sl cb ab).q) * (aQ mode cs sl cb ab).r=0
  have:gR op sl ab m * (aQ mode cs sl cb ab).q * (gR op sl ab m * (aQ mode cs sl cb ab).q) * (aQ mode cs sl cb ab).r=gR op sl ab m * gR op sl ab m * ((aQ mode cs sl cb ab).q * (aQ mode cs sl cb ab).q * (aQ mode cs sl cb ab).r):=by grind
  rw [this,hq,Int.mul_zero]
theorem OE:(dK op mode m cs sl cb ab).p=(aQ mode cs sl cb ab).p * gR op sl ab m+(m - ab) * cs * gR op sl ab m * (aQ mode cs sl cb ab).d+lC op sl ab m * cb * m * (aQ mode cs sl cb ab).d:=rfl
theorem pV (hop:cQ op=true):lC op 0 ab m=m:=by
 simp only [cQ,decide_eq_true_eq] at hop
 unfold lC
 rcases hop with rfl|rfl|rfl|rfl|rfl|rfl <;> simp
theorem kE (hm:Full m) (hd:Pre cb ab m) (hop:cQ op=true):fB op mode m 0 0 cb ab=cb:=by
 have hs:Pre 0 0 m:=⟨Int.le_refl _,Int.le_refl _,Int.le_of_lt hm.pos⟩
 obtain ⟨t1,t2⟩:=xC (mode:=mode) hm hs hd (.inl rfl)
 refine zZ hm hs hd t2 ?_
 rw [OE,t1,pV hop];grind
theorem vY (hm:Full m) (hop:cQ op=true):ec op 0 ab m=ab:=by
 unfold ec
 rw [pV hop,Int.mul_zero,Int.zero_add,iA hm.pos]
theorem oo {g:Int} (hm:Full m) (hop:cQ op=true):fL op 0 g m=g:=by
 simp only [cQ,decide_eq_true_eq] at hop
 unfold fL
 rcases hop with rfl|rfl|rfl|rfl|rfl|rfl <;> simp [iA hm.pos]
theorem kL {c:Int} (hm:Full m) (hd:Pre cb ab m) (hc:0≤c) (hcm:c≤m):fi mode m 0 0 0 c cb ab=c:=by
 have hs:Pre 0 0 m:=⟨Int.le_refl _,Int.le_refl _,Int.le_of_lt hm.pos⟩
 obtain ⟨t1,t2⟩:=xC (mode:=mode) hm hs hd (.inl rfl)
 have ho:=qp (mode:=mode) hm hs hd (Int.le_refl _) (Int.le_of_lt hm.pos) hc hcm
 unfold fi
 rw [Ab ho t2]
 show cf ((aQ mode 0 0 cb ab).p+((m - 0) * c+(0 - 0) * cb+(m - ab) * 0) * (aQ mode 0 0 cb ab).d) (m * (aQ mode 0 0 cb ab).d)=c
 have hd0:0<m * (aQ mode 0 0 cb ab).d:=ho.d0
 rw [t1,show 0+((m - 0) * c+(0 - 0) * cb+(m - ab) * 0) * (aQ mode 0 0 cb ab).d=m * (aQ mode 0 0 cb ab).d * c by grind,iA hd0]
theorem tz {acc b:Int} (hm:Full m):eo m 0 0 acc b=acc:=by
 unfold eo
 rw [show (m - 0) * acc+(0 - 0) * b+m * 0=m * acc by grind,iA hm.pos]
end
section
variable {ko:Bool} {op mode m:Int} {s:Pixel} {x:Acc} {b:Pixel}
theorem AccV.pre0 (h:AccV x b m):Pre x.c0 x.a m:=⟨h.n0,h.l0,h.am⟩
theorem AccV.pre1 (h:AccV x b m):Pre x.c1 x.a m:=⟨h.n1,h.l1,h.am⟩
theorem AccV.pre2 (h:AccV x b m):Pre x.c2 x.a m:=⟨h.n2,h.l2,h.am⟩
theorem PixV.pre0 (h:PixV s m):Pre s.c0 s.a m:=⟨h.n0,h.l0,h.am⟩
theorem PixV.pre1 (h:PixV s m):Pre s.c1 s.a m:=⟨h.n1,h.l1,h.am⟩
theorem PixV.pre2 (h:PixV s m):Pre s.c2 s.a m:=⟨h.n2,h.l2,h.am⟩
theorem xU (hm:Full m) (h:AccV x b m) (hop:cQ op=true) (hk:ko=true→op=4):dI ko op mode m ba x b=x:=by
 unfold dI
 have l0:=h.l0
 have l1:=h.l1
 have l2:=h.l2
 have am:=h.am
 split
 ·rename_i hko
  have h4:=hk hko
  subst h4
  simp only [ba,kL hm h.bk.pre0 h.n0 (by omega),kL hm h.bk.pre1 h.n1 (by omega),kL hm h.bk.pre2 h.n2 (by omega),tz hm,oo hm hop]
 ·simp only [ba,kE hm h.pre0 hop,kE hm h.pre1 hop,kE hm h.pre2 hop,vY hm hop,oo hm hop]
end
end Go.Proofs.YtcbifofjjpfbcaaGreatDoor
namespace Go.Proofs.YtcbifofjjpfbcaaGreatDoor
def iO (r:Rect) (x y:Int):Prop:=r.x0≤x∧x<r.x1∧r.y0≤y∧y<r.y1
def eF (m:Image) (x y:Int):Pixel:=if m.solid=true then m.color else ⟨m.p0.s.getD (y * m.p0.stride+x).toNat 0,m.p1.s.getD (y * m.p1.stride+x).toNat 0,m.p2.s.getD (y * m.p2.stride+x).toNat 0,m.p3.s.getD (y * m.p3.stride+x).toNat 0,m.p4.s.getD (y * m.p4.stride+x).toNat 0⟩
def de (p:Plane):Bool:=cl p.w p.h && decide (p.w≤p.stride) && decide (p.stride≤16777216) && decide ((p.h - 1) * p.stride+p.w≤p.s.length)
def aO (m:Image) (p:Plane):Bool:=if m.solid=true then decide (p.w=0) && decide (p.h=0) && decide (p.stride=0) && decide (p.s.length=0) else de p && decide (p.w=m.w) && decide (p.h=m.h)
def bp (m:Image):Bool:=cl m.w m.h && (aO m m.p0 && aO m m.p1 && aO m m.p2 && aO m m.p3 && aO m m.p4 && (m.solid || decide (m.color=ba)))
def cu (m:Image) (x y:Int):Pixel:=if bp m=false∨x<0∨m.w≤x∨y<0∨m.h≤y then ba else eF m x y
def iD (m:Image) (x y dx dy:Int):Pixel:=if x<dx∨y<dy∨1099511627776≤x - dx∨1099511627776≤y - dy then ba else cu m (x - dx) (y - dy)
def cD (s:Script) (x y:Int) (o:Op):Pixel × Int :=
 (if o.kind=1∧0≤o.image∧o.image<s.images.length then iD (gQ s o.image) x y o.x o.y else ba,
  if 1≤o.mask∧o.mask≤s.images.length then (iD (gQ s (o.mask - 1)) x y o.maskX o.maskY).a else 0)
structure ImgV (m:Image) (mx:Int):Prop where
 f:bp m=true
 p:∀ x y,0≤x→x<m.w→0≤y→y<m.h→PixV (eF m x y) mx
def na (s:Script):Prop:=∀ i:Int,0≤i→i<s.images.length→ImgV (gQ s i) (bA s.bits)
theorem DL {m:Image} {mx x y:Int} (hm:Full mx) (h:ImgV m mx):PixV (cu m x y) mx:=by
 unfold cu
 split
 ·exact ru hm
 ·exact h.p x y (by omega) (by omega) (by omega) (by omega)
theorem Ei {m:Image} {mx x y dx dy:Int} (hm:Full mx) (h:ImgV m mx):PixV (iD m x y dx dy) mx:=by
 unfold iD
 split
 ·exact ru hm
 ·exact DL hm h
theorem Uo {s:Script} {m x y:Int} (hm:Full m) (hmx:bA s.bits=m) (h:na s):SmpV m (cD s x y):=by
 subst hmx
 have key:∀ o:Op,0≤(cD s x y o).2∧(cD s x y o).2≤bA s.bits:=fun o=>by
  unfold cD
  dsimp only
  split
  ·have:=Ei (x:=x) (y:=y) (dx:=o.maskX) (dy:=o.maskY) hm (h (o.mask - 1) (by omega) (by omega))
   exact ⟨this.a0,this.am⟩
  ·have:=hm.pos
   omega
 refine ⟨fun o => ?_,fun o=>(key o).1,fun o=>(key o).2⟩
 unfold cD
 dsimp only
 split
 ·exact Ei hm (h o.image (by omega) (by omega))
 ·exact ru hm
theorem hP {m:Image} (h:bp m=true):1≤m.w∧1≤m.h∧m.w≤16777216∧m.h≤16777216:=by
 have:cl m.w m.h=true:=by
  unfold bp at h
  rw [Bool.and_eq_true] at h;exact h.1
 obtain ⟨a,b,_,_,c,d⟩:=ed this
 exact ⟨a,b,c,d⟩
theorem pX {r q:Rect} {x y:Int} (hr:aU r=false) (hq:aU q=false):(aU (eS r q)=false∧iO (eS r q) x y)↔iO r x y∧iO q x y:=by
 have ⟨a1,a2⟩:=kZ.1 hr
 have ⟨b1,b2⟩:=kZ.1 hq
 have e:eS r q=gi ⟨max r.x0 q.x0,max r.y0 q.y0,min r.x1 q.x1,min r.y1 q.y1⟩:=if_neg (by rw [hr,hq];simp)
 rw [e]
 unfold gi
 split
 ·rename_i he
  constructor
  ·rintro ⟨h,_⟩
   rw [show aU ⟨0,0,0,0⟩=true from by decide] at h;cases h
  ·rintro ⟨h1,h2⟩
   exfalso
   have:aU ⟨max r.x0 q.x0,max r.y0 q.y0,min r.x1 q.x1,min r.y1 q.y1⟩=false:=by
    rw [kZ]
    unfold iO at h1 h2
    dsimp only
    omega
   rw [this] at he;cases he
 ·rename_i he
  rw [Bool.not_eq_true] at he
  have key:iO ⟨max r.x0 q.x0,max r.y0 q.y0,min r.x1 q.x1,min r.y1 q.y1⟩ x y↔iO r x y∧iO q x y:=by
   unfold iO
   dsimp only
   omega
  exact ⟨fun h=>key.1 h.2,fun h=>⟨he,key.2 h⟩⟩
section
variable {s:Script} {x y:Int}
theorem xp {i dx dy : Int} (hc : aU s.canvas = false) (hxy : iO s.canvas x y) (h0 : 0 ≤ i) (h1 : i < s.images.length) (hf : bp (gQ s i) = true) (hdx : -1048576 ≤ dx ∧ dx ≤ 1048576) (hdy : -1048576 ≤ dy ∧ dy ≤ 1048576) :
  (aU (dP s i dx dy)=false∧iO (dP s i dx dy) x y)↔(0≤x - dx∧x - dx<(gQ s i).w∧0≤y - dy∧y - dy<(gQ s i).h):=by
 obtain ⟨w0,h0',w1,h1'⟩:=hP hf
 have e:dP s i dx dy=eS ⟨dx,dy,dx+(gQ s i).w,dy+(gQ s i).h⟩ s.canvas:=by
  unfold dP
  rw [if_neg (by omega),if_neg]
  ·rfl
  ·unfold gQ at *
   simp only [iB,Bool.or_eq_true,decide_eq_true_eq]
   omega
 rw [e,pX (by rw [kZ];dsimp only;omega) hc]
 unfold iO at *
 dsimp only
 omega
theorem ER {m:Image} {dx dy:Int} (hf:bp m=true) (h:0≤x - dx∧x - dx<m.w∧0≤y - dy∧y - dy<m.h):iD m x y dx dy=eF m (x - dx) (y - dy):=by
 obtain ⟨w0,h0',w1,h1'⟩:=hP hf
 unfold iD cu
 rw [if_neg (by omega),if_neg (by rw [hf];simp;omega)]
theorem Bq {m:Image} {dx dy:Int} (h:¬ (0≤x - dx∧x - dx<m.w∧0≤y - dy∧y - dy<m.h)):iD m x y dx dy=ba:=by
 unfold iD cu
 split
 ·rfl
 ·rw [if_pos (by omega)]
end
end Go.Proofs.YtcbifofjjpfbcaaGreatDoor
set_option maxHeartbeats 4000000
set_option maxRecDepth 16000
namespace Go.Proofs.YtcbifofjjpfbcaaGreatDoor
open Go Go.SL
open Go.RowKit (wrap64)
attribute [local go_sem] qE oB
theorem Gi (m:Int):aF Sg 185 [I m] (fun r=>r = .b (B (decide (1≤m∧m≤12)))):=by
 refine aI Tryz.func185 [.tmp 2] ?_
 repeat' (first|(refine aj (fun K hK => ?_);and_intros;all_goals first|(refine hK _ ?_;clear hK K)|try exact aa)|(refine ai ?_;(try clear hB KB);(try clear hK K)))
 refine dS ?_
 (try simp only [Bool.and_eq_true,Bool.or_eq_true,Bool.not_eq_true',Bool.not_eq_false',decide_eq_true_eq,decide_eq_false_iff_not,ge_iff_le,gt_iff_lt,beq_iff_eq,bne_iff_ne,ne_eq,Bool.or_eq_false_iff,Bool.and_eq_false_imp,Bool.not_true,Bool.not_false])
 try omega
theorem LZ (mode s a d b:Int) (hm:1≤mode∧mode≤12) (h:Sm4 s a d b):aF Sg 223 [I mode,cq s,cq a,cq d,cq b] (fun r=>r = .b (ag (oB (aQ mode s a d b)))):=by
 have hso:=Iv s a d b h
 have hdo:=GY s a d b h
 have hbu:=Jz s a d b h
 have hh:=h
 obtain ⟨s0,sa,am,d0,db,bm⟩:=h
 have sb:0≤s * b∧s * b≤65535 * 65535:=⟨az (by omega) (by omega),aJ (by omega) (by omega) (by omega) (by omega)⟩
 have sd:0≤s * d∧s * d≤65535 * 65535:=⟨az (by omega) (by omega),aJ (by omega) (by omega) (by omega) (by omega)⟩
 have da:0≤d * a∧d * a≤65535 * 65535:=⟨az (by omega) (by omega),aJ (by omega) (by omega) (by omega) (by omega)⟩
 have ab:0≤a * b∧a * b≤65535 * 65535:=⟨az (by omega) (by omega),aJ (by omega) (by omega) (by omega) (by omega)⟩
 have hmin:(if d * a<s * b then d * a else s * b)=min (s * b) (d * a):=by split <;> omega
 have hmax:(if d * a>s * b then d * a else s * b)=max (s * b) (d * a):=by split <;> omega
 have qmin:Q64 (if d * a<s * b then d * a else s * b):=⟨by split <;> omega,by split <;> omega⟩
 have qmax:Q64 (if d * a>s * b then d * a else s * b):=⟨by split <;> omega,by split <;> omega⟩
 have hv:mode=1∨mode=2∨mode=3∨mode=4∨mode=5∨mode=6∨mode=7∨mode=8∨mode=9∨mode=10∨mode=11∨mode=12:=by omega
 have ht:True:=trivial
 refine aI Tryz.func223 [.cell 10 253] ?_
 rcases hv with rfl|rfl|rfl|rfl|rfl|rfl|rfl|rfl|rfl|rfl|rfl|rfl
 ·repeat' (first|refine ak ht ?_|refine an ?_|((first|refine aj (fun K hK => ?_)|refine ae (bF (s * b) 1 ⟨by omega,by omega⟩) ?_);and_intros;all_goals first|(refine hK _ ?_;clear hK K)|try exact aa)|(refine ai ?_;(try clear hB KB);(try clear hK K)))
  rfl
 ·repeat' (first|refine ak ht ?_|refine an ?_|((first|refine aj (fun K hK => ?_)|refine ae (bF (s * d) 1 ⟨by omega,by omega⟩) ?_);and_intros;all_goals first|(refine hK _ ?_;clear hK K)|try exact aa)|(refine ai ?_;(try clear hB KB);(try clear hK K)))
  rfl
 ·have hn:0≤s * b+d * a - s * d:=by have:=aJ (Int.le_refl s) db d0 s0;omega
  repeat' (first|refine ak ht ?_|refine an ?_|((first|refine aj (fun K hK => ?_)|refine ae (bF (s * b+d * a - s * d) 1 ⟨by omega,by omega⟩) ?_);and_intros;all_goals first|(refine hK _ ?_;clear hK K)|try exact aa)|(refine ai ?_;(try clear hB KB);(try clear hK K)))
  rfl
 ·have hb:=sP d0 db s0 sa
  have hb2:b * a≤65535 * 65535:=by rw [Int.mul_comm];omega
  have h1:=BJ s a d b (decide (2 * d≤b)) hh (fun q=>by
   rw [decide_eq_false_iff_not] at q
   have:=aJ (show 2 * (b - d)≤b by omega) (show a - s≤a by omega) (by omega) (by omega)
   rw [Int.mul_comm a b];omega)
  rw [show (if decide (2 * d≤b)=true then 2 * s * d else a * b - 2 * (b - d) * (a - s))=mF d b s a by
   unfold mF
   simp only [decide_eq_true_eq]
   split
   ·rw [Int.mul_right_comm]
   ·rw [Int.mul_comm a b,Int.mul_right_comm 2 (b - d)]] at h1
  repeat' (first|refine ak ht ?_|refine an ?_|((first|refine aj (fun K hK => ?_)|refine ae (h1) ?_|refine ae (bF (mF d b s a) 1 ⟨by omega,by omega⟩) ?_);and_intros;all_goals first|(refine hK _ ?_;clear hK K)|try exact aa)|(refine ai ?_;(try clear hB KB);(try clear hK K)))
  rfl
 ·repeat' (first|refine ak ht ?_|refine an ?_|((first|refine aj (fun K hK => ?_)|refine ae (bF (if d * a<s * b then d * a else s * b) 1 qmin) ?_);and_intros;all_goals first|(refine hK _ ?_;clear hK K)|try exact aa)|(refine ai ?_;(try clear hB KB);(try clear hK K)))
  rw [hmin];rfl
 ·repeat' (first|refine ak ht ?_|refine an ?_|((first|refine aj (fun K hK => ?_)|refine ae (bF (if d * a>s * b then d * a else s * b) 1 qmax) ?_);and_intros;all_goals first|(refine hK _ ?_;clear hK K)|try exact aa)|(refine ai ?_;(try clear hB KB);(try clear hK K)))
  rw [hmax];rfl
 ·repeat' (first|refine ak ht ?_|refine an ?_|((first|refine aj (fun K hK => ?_)|refine ae (hdo) ?_);and_intros;all_goals first|(refine hK _ ?_;clear hK K)|try exact aa)|(refine ai ?_;(try clear hB KB);(try clear hK K)))
  rfl
 ·repeat' (first|refine ak ht ?_|refine an ?_|((first|refine aj (fun K hK => ?_)|refine ae (hbu) ?_);and_intros;all_goals first|(refine hK _ ?_;clear hK K)|try exact aa)|(refine ai ?_;(try clear hB KB);(try clear hK K)))
  rfl
 ·have hb:=sP s0 sa d0 db
  have h1:=BJ s a d b (decide (2 * s≤a)) hh (fun q=>by
   rw [decide_eq_false_iff_not] at q
   have:=aJ (show b - d≤b by omega) (show 2 * (a - s)≤a by omega) (by omega) (by omega)
   rw [Int.mul_comm b a] at this
   rw [Int.mul_right_comm,Int.mul_comm];omega)
  rw [show (if decide (2 * s≤a)=true then 2 * s * d else a * b - 2 * (b - d) * (a - s))=mF s a d b by
   unfold mF
   simp only [decide_eq_true_eq]] at h1
  repeat' (first|refine ak ht ?_|refine an ?_|((first|refine aj (fun K hK => ?_)|refine ae (h1) ?_|refine ae (bF (mF s a d b) 1 ⟨by omega,by omega⟩) ?_);and_intros;all_goals first|(refine hK _ ?_;clear hK K)|try exact aa)|(refine ai ?_;(try clear hB KB);(try clear hK K)))
  rfl
 ·repeat' (first|refine ak ht ?_|refine an ?_|((first|refine aj (fun K hK => ?_)|refine ae (hso) ?_);and_intros;all_goals first|(refine hK _ ?_;clear hK K)|try exact aa)|(refine ai ?_;(try clear hB KB);(try clear hK K)))
  rfl
 ·have hmm:(if d * a>s * b then d * a else s * b) - (if d * a<s * b then d * a else s * b)=max (s * b) (d * a) - min (s * b) (d * a):=by rw [hmin,hmax]
  have qd:Q64 ((if d * a>s * b then d * a else s * b) - (if d * a<s * b then d * a else s * b)):=⟨by split <;> split <;> omega,by split <;> split <;> omega⟩
  repeat' (first|refine ak ht ?_|refine an ?_|((first|refine aj (fun K hK => ?_)|refine ae (bF ((if d * a>s * b then d * a else s * b) - (if d * a<s * b then d * a else s * b)) 1 qd) ?_);and_intros;all_goals first|(refine hK _ ?_;clear hK K)|try exact aa)|(refine ai ?_;(try clear hB KB);(try clear hK K)))
  rw [hmm];rfl
 ·have hn:0≤s * b+d * a - 2 * s * d:=by
   have h1:=aJ (Int.le_refl s) db d0 s0
   have h2:=aJ sa (Int.le_refl d) d0 (by omega)
   rw [Int.mul_comm a d] at h2
   rw [Int.mul_assoc];omega
  have h4:0≤2 * s * d∧2 * s * d≤131070 * 65535:=⟨az (by omega) d0,aJ (by omega) (by omega) d0 (by omega)⟩
  repeat' (first|refine ak ht ?_|refine an ?_|((first|refine aj (fun K hK => ?_)|refine ae (bF (s * b+d * a - 2 * s * d) 1 ⟨by omega,by omega⟩) ?_);and_intros;all_goals first|(refine hK _ ?_;clear hK K)|try exact aa)|(refine ai ?_;(try clear hB KB);(try clear hK K)))
  rfl
theorem xm (mode s a d b:Int) (hm:1≤mode∧mode≤12) (h:Sm4 s a d b):aF Sg 209 [I mode,U s,U a,U d,U b] (fun r=>r = .tup [ag (oB (aQ mode s a d b)),B true]):=by
 have h1:=Gi mode
 rw [decide_eq_true hm] at h1
 have h2:=LZ mode s a d b hm h
 obtain ⟨s0,sa,am,d0,db,bm⟩:=h
 have d1:decide (s>a)=false:=decide_eq_false (by omega)
 have d2:decide (d>b)=false:=decide_eq_false (by omega)
 generalize aQ mode s a d b=X at *
 refine aI Tryz.func209 [.cell 10 253, .tmp 11] ?_
 repeat' (first|refine ak (And.intro d1 d2) ?_|refine an ?_|((first|refine aj (fun K hK => ?_)|refine ae (h1) ?_|refine ae (h2) ?_);and_intros;all_goals first|(refine hK _ ?_;clear hK K)|try exact aa)|(refine ai ?_;(try clear hB KB);(try clear hK K)))
 rfl
end Go.Proofs.YtcbifofjjpfbcaaGreatDoor
set_option maxHeartbeats 4000000
set_option maxRecDepth 16000
namespace Go.Proofs.YtcbifofjjpfbcaaGreatDoor
open Go Go.SL
open Go.RowKit (wrap64)
attribute [local go_sem] qE oB
theorem FB (op mode m cs sl cb ab : Int) (hm : Full m) (ho : 1 ≤ op ∧ op ≤ 12) (hmo : 1 ≤ mode ∧ mode ≤ 12) (hs : Pre cs sl m) (hd : Pre cb ab m) :
  aF Sg 199 [I op,I mode,U m,U cs,U sl,U cb,U ab] (fun r=>r = .tup [ag (oB (dK op mode m cs sl cb ab)),B true]):=by
 have hok:=mU (op:=op) (mode:=mode) hm hs hd
 have ht:=lA (mode:=mode) hm hs hd
 obtain ⟨s0,sa,am⟩:=hs
 obtain ⟨d0,db,bm⟩:=hd
 have hle:=hm.le
 have hp:=hm.pos
 have hb:=xm mode cs sl cb ab hmo ⟨s0,sa,by omega,d0,db,by omega⟩
 have hf:=sj op sl ab m hm ho (by omega) am (by omega) bm
 have ⟨a1,a2⟩:=nK (op:=op) (a:=sl) (b:=ab) (m:=m) (by omega) am (by omega) bm
 have ⟨b1,b2⟩:=pc (op:=op) (a:=sl) (b:=ab) (m:=m) (by omega) am (by omega) bm
 obtain ⟨k1,k2,k3,k4,k5,k6,k7,k8,_⟩:=hok
 obtain ⟨t0,t1,t2,t3,t4,t5,t6,t7,_⟩:=ht
 unfold dK at *
 dsimp only at k1 k2 k3 k4 k5 k6 k7 k8
 generalize aQ mode cs sl cb ab=T at *
 generalize gR op sl ab m=fa at *
 generalize lC op sl ab m=fb at *
 have e1:0≤(m - ab) * cs∧(m - ab) * cs≤65535 * 65535:=⟨az (by omega) (by omega),aJ (by omega) (by omega) (by omega) (by omega)⟩
 have hsum:(m - ab) * cs+sl * ab≤65535 * 65535:=by
  have h1:=aJ (show m - ab≤m - ab by omega) sa s0 (by omega)
  have h2:(m - ab) * sl+sl * ab=m * sl:=by rw [Int.sub_mul,Int.mul_comm sl ab];omega
  have h3:m * sl≤65535 * 65535:=aJ hle (by omega) (by omega) (by decide)
  omega
 have e2:0≤(m - ab) * cs * T.d:=az e1.1 (by omega)
 have e3:(m - ab) * cs * T.d+T.p≤65535 * 65535 * 4294836225:=by
  have h1:=aJ hsum t6 (by omega) (by decide)
  rw [Int.add_mul] at h1
  omega
 have e4:0≤cb * m∧cb * m≤65535 * 65535:=⟨az (by omega) (by omega),aJ (by omega) (by omega) (by omega) (by omega)⟩
 have e5:0≤cb * m * T.d∧cb * m * T.d≤65535 * 65535 * 4294836225:=⟨az e4.1 (by omega),aJ e4.2 (by omega) (by omega) (by omega)⟩
 have e6:0≤m * m∧m * m≤65535 * 65535:=⟨az (by omega) (by omega),aJ (by omega) (by omega) (by omega) (by omega)⟩
 have e9:0≤fa * T.q∧fa * T.q≤65535 * 65535:=⟨az (by omega) (by omega),aJ (by omega) (by omega) (by omega) (by omega)⟩
 have e10:T.p / 18446744073709551616=0∧T.p % 18446744073709551616=T.p:=by omega
 have w1:aF Sg 212 [cq ((m - ab) * cs * T.d+T.p % 18446744073709551616),cq fa] (fun r=>r = .b (ag (qE (((m - ab) * cs * T.d+T.p) * fa)))):=by
  rw [e10.2];exact jm ((m - ab) * cs * T.d+T.p) fa ⟨by omega,by omega⟩ ⟨by omega,by omega⟩
 have w2:=jm (cb * m * T.d) fb ⟨by omega,by omega⟩ ⟨by omega,by omega⟩
 have eq:((m - ab) * cs * T.d+T.p) * fa+cb * m * T.d * fb=T.p * fa+(m - ab) * cs * fa * T.d+fb * cb * m * T.d:=by grind
 have w3:=qn (((m - ab) * cs * T.d+T.p) * fa) (cb * m * T.d * fb) (az (by omega) a1) (az e5.1 b1) (by rw [eq];omega)
 rw [eq] at w3
 have g1:(m != 255 && m != 65535)=false:=by rcases hm.h with q|q <;> rw [q] <;> rfl
 have htt:True:=trivial
 refine aI Tryz.func199 [.cell 14 253, .tmp 15] ?_
 repeat' (first|refine ak g1 ?_|refine an ?_|((first|refine aj (fun K hK => ?_)|refine ae (hf) ?_|refine ae (hb) ?_|refine ae (w1) ?_|refine ae (w2) ?_|refine ae (w3) ?_);and_intros;all_goals first|(refine hK _ ?_;clear hK K)|try exact aa)|(refine ai ?_;(try clear hB KB);(try clear hK K)))
 rfl
theorem qX (op mode m cs sl cb ab : Int) (hm : Full m) (ho : 1 ≤ op ∧ op ≤ 12) (hmo : 1 ≤ mode ∧ mode ≤ 12) (hs : Pre cs sl m) (hd : Pre cb ab m) :
  aF Sg 189 [I op,I mode,U m,U cs,U sl,U cb,U ab] (fun r=>r = .tup [U (fB op mode m cs sl cb ab),B true]):=by
 have hok:=mU (op:=op) (mode:=mode) hm hs hd
 have hv:=FB op mode m cs sl cb ab hm ho hmo hs hd
 have hh:=sv _ hok
 have hl:=qo (op:=op) (mode:=mode) hm hs hd
 have hl2:=vn (op:=op) (a:=sl) (b:=ab) hm (by have:=hs.s0;have:=hs.sa;omega) hs.am (by have:=hd.s0;have:=hd.sa;omega) hd.am
 have hn:=(nC hok).2.2
 have hle:=hm.le
 have htt:True:=trivial
 have hw:IntKind.u16.wrap (hx (dK op mode m cs sl cb ab))=fB op mode m cs sl cb ab:=mD hn (by unfold fB at hl;omega)
 refine aI Tryz.func189 [.tmp 14, .tmp 15] ?_
 repeat' (first|refine ak htt ?_|refine an ?_|((first|refine aj (fun K hK => ?_)|refine ae (hv) ?_|refine ae (hh) ?_);and_intros;all_goals first|(refine hK _ ?_;clear hK K)|try exact aa)|(refine ai ?_;(try clear hB KB);(try clear hK K)))
 rw [hw]
end Go.Proofs.YtcbifofjjpfbcaaGreatDoor
set_option maxHeartbeats 4000000
set_option maxRecDepth 16000
namespace Go.Proofs.YtcbifofjjpfbcaaGreatDoor
open Go Go.SL
open Go.RowKit (wrap64)
attribute [local go_sem] qE oB
theorem wE (m:Int):aF Sg 210 [U m] (fun r=>r = .b (B (decide (m=255∨m=65535)))):=by
 refine aI Tryz.func210 [.tmp 2] ?_
 repeat' (first|(refine aj (fun K hK => ?_);and_intros;all_goals first|(refine hK _ ?_;clear hK K)|try exact aa)|(refine ai ?_;(try clear hB KB);(try clear hK K)))
 refine dS ?_
 (try simp only [Bool.and_eq_true,Bool.or_eq_true,Bool.not_eq_true',Bool.not_eq_false',decide_eq_true_eq,decide_eq_false_iff_not,ge_iff_le,gt_iff_lt,beq_iff_eq,bne_iff_ne,ne_eq,Bool.or_eq_false_iff,Bool.and_eq_false_imp,Bool.not_true,Bool.not_false])
 try omega
theorem DU (a b c d e f : Int) (ha : 0 ≤ a ∧ a ≤ 65535) (hb : 0 ≤ b ∧ b ≤ 65535) (hc : 0 ≤ c ∧ c ≤ 65535) (hd : 0 ≤ d ∧ d ≤ 65535) (he : 0 ≤ e ∧ e ≤ 65535) (hf : 0 ≤ f ∧ f ≤ 65535) :
  aF Sg 213 [U a,U b,U c,U d,U e,U f] (fun r=>r = .b (UQ (a * b+c * d+e * f))):=by
 have e1:0≤a * b∧a * b≤65535 * 65535:=⟨az ha.1 hb.1,aJ ha.2 hb.2 hb.1 (by decide)⟩
 have e2:0≤c * d∧c * d≤65535 * 65535:=⟨az hc.1 hd.1,aJ hc.2 hd.2 hd.1 (by decide)⟩
 have e3:0≤e * f∧e * f≤65535 * 65535:=⟨az he.1 hf.1,aJ he.2 hf.2 hf.1 (by decide)⟩
 refine aI Tryz.func213 [.tmp 12] ?_
 repeat' (first|with_reducible exact aK|(refine aj (fun K hK => ?_);and_intros;all_goals first|(refine hK _ ?_;clear hK K)|try exact aa)|(refine ai ?_;(try clear hB KB);(try clear hK K)))
theorem tH (m a f acc b : Int) (hm : Full m) (ha : 0 ≤ a) (haf : a ≤ f) (hfm : f ≤ m) (h1 : 0 ≤ acc) (h2 : acc ≤ m) (h3 : 0 ≤ b) (h4 : b ≤ m) :
  aF Sg 197 [U m,U a,U f,U acc,U b] (fun r=>r = .tup [U (eo m a f acc b),B true]):=by
 have hle:=hm.le
 have hp:=hm.pos
 have hbd:=nF hm ha haf hfm h1 h2 h3 h4
 have hu:=wE m
 rw [show decide (m=255∨m=65535)=true from decide_eq_true hm.h] at hu
 have g1:decide (a>f)=false:=decide_eq_false (by omega)
 have g2:decide (f>m)=false:=decide_eq_false (by omega)
 have g3:decide (acc>m)=false:=decide_eq_false (by omega)
 have g4:decide (b>m)=false:=decide_eq_false (by omega)
 have hs:=DU (m - f) acc (f - a) b m a ⟨by omega,by omega⟩ ⟨h1,by omega⟩ ⟨by omega,by omega⟩ ⟨h3,by omega⟩ ⟨by omega,hle⟩ ⟨ha,by omega⟩
 have e1:0≤(m - f) * acc∧(m - f) * acc≤65535 * 65535:=⟨az (by omega) (by omega),aJ (by omega) (by omega) (by omega) (by omega)⟩
 have e2:0≤(f - a) * b∧(f - a) * b≤65535 * 65535:=⟨az (by omega) (by omega),aJ (by omega) (by omega) (by omega) (by omega)⟩
 have e3:0≤m * a∧m * a≤65535 * 65535:=⟨az (by omega) (by omega),aJ (by omega) (by omega) (by omega) (by omega)⟩
 have hh:=vw ((m - f) * acc+(f - a) * b+m * a) m ⟨by omega,by omega⟩ ⟨by omega,by omega⟩
 have hw:IntKind.u16.wrap (cf ((m - f) * acc+(f - a) * b+m * a) m)=eo m a f acc b:=mD hbd.1 (Int.le_trans hbd.2 hle)
 refine aI Tryz.func197 [.tmp 10, .tmp 11] ?_
 repeat' (first|refine ak (And.intro g1 (And.intro g2 (And.intro g3 g4))) ?_|refine an ?_|((first|refine aj (fun K hK => ?_)|refine ae (hu) ?_|refine ae (hs) ?_|refine ae (hh) ?_);and_intros;all_goals first|(refine hK _ ?_;clear hK K)|try exact aa)|(refine ai ?_;(try clear hB KB);(try clear hK K)))
 rw [hw]
theorem CJ (m a f acc : Int) (hm : Full m) (ha : 0 ≤ a) (haf : a ≤ f) (hfm : f ≤ m) (h1 : 0 ≤ acc) (h2 : acc ≤ m) :
  aF Sg 198 [U m,U a,U f,U acc] (fun r=>r = .tup [U (eo m a f acc 0),B true]):=by
 have h:=tH m a f acc 0 hm ha haf hfm h1 h2 (Int.le_refl _) (Int.le_of_lt hm.pos)
 refine aI Tryz.func198 [.tmp 8, .tmp 9] ?_
 repeat' (first|with_reducible exact aK|((first|refine aj (fun K hK => ?_)|refine ae (h) ?_);and_intros;all_goals first|(refine hK _ ?_;clear hK K)|try exact aa)|(refine ai ?_;(try clear hB KB);(try clear hK K)))
end Go.Proofs.YtcbifofjjpfbcaaGreatDoor
