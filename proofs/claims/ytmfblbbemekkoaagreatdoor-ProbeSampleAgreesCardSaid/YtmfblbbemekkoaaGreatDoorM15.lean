/- Part of the proof: T5, D5, EM, T6, T7, T8, V1. -/
import Derived.Test.YtmfblbbemekkoaaGreatDoorM14
set_option linter.unusedSimpArgs false
set_option linter.unusedVariables false
namespace Go.Proofs.YtmfblbbemekkoaaGreatDoor
structure Lv where
 op:Op
 acc:Acc
 back:Pixel
 deriving DecidableEq,Inhabited
def mL:Op:=⟨2,0,0,0,0,0,0,0,0,0,true,false⟩
def cz:Lv:=⟨mL,BJ,aI⟩
def ax (m:Int) (o:Op) (p:Pixel) (k:Int):Pixel:=aL (aL p (if o.mask=0 then m else k) m) o.opacity m
def bJ (m:Int) (o:Op) (s:Pixel) (t:Lv):Lv := { t with acc:=dH t.op.knockout o.operator o.mode m s t.acc t.back }
def fi (o:Op) (t:Lv):Lv:=⟨o,zN (fu o.isolated t.op.knockout t.acc t.back),fu o.isolated t.op.knockout t.acc t.back⟩
def jQ (m:Int) (z:Op→Pixel × Int) (st:List Lv) (o:Op):List Lv :=
 match st with
 | []=>[]
 | t :: r =>
  if o.kind=1 then bJ m o (ax m o (z o).1 (z o).2) t :: r
  else if o.kind=2 then fi o t :: t :: r
  else match r with
   | []=>[t]
   | u :: r=>bJ m t.op (ax m t.op (aU t.acc t.back m) (z t.op).2) u :: r
def jR (m:Int) (z:Op→Pixel × Int) (ops:List Op) (st:List Lv):List Lv:=ops.foldl (jQ m z) st
theorem Ce {m:Int} {z:Op→Pixel × Int} {a b:List Op} {st:List Lv}:jR m z (a ++ b) st=jR m z b (jR m z a st):=List.foldl_append
def Nc (m:Int) (st:List Lv):Pixel:=match st with
 | []=>aI
 | t :: _=>aU t.acc t.back m
structure SmpV (m:Int) (z:Op→Pixel × Int):Prop where
 p:∀ o,PixV (z o).1 m
 k0:∀ o,0≤(z o).2
 km:∀ o,(z o).2≤m
structure LvV (m:Int) (t:Lv):Prop where
 v:AccV t.acc t.back m
 iso:t.op.isolated=true→t.back=aI∧t.acc.own=t.acc.a
theorem OA {m:Int} (hm:Full m):LvV m cz:=⟨Mx hm,fun _=>⟨rfl,rfl⟩⟩
theorem kN {m:Int} {o:Op} {p:Pixel} {k:Int} (hm:Full m) (hp:PixV p m) (hk:0≤k) (hkm:k≤m) (ho:0≤o.opacity) (hom:o.opacity≤m):PixV (ax m o p k) m:=by
 refine gP hm (gP hm hp ?_ ?_) ho hom
 ·have:=hm.pos;split <;> omega
 ·split <;> omega
theorem CD {m:Int} {o:Op} {s:Pixel} {t:Lv} (hm:Full m) (hs:PixV s m) (ht:LvV m t) (hop:o.operator=4∨t.op.isolated=true∧t.op.knockout=false):LvV m (bJ m o s t):=by
 refine ⟨Nn hm hs ht.v ?_,fun hi => ?_⟩
 ·rcases hop with h|⟨h1,h2⟩
  ·exact .inl h
  ·exact .inr ⟨h2,(ht.iso h1).2⟩
 ·obtain ⟨h1,h2⟩:=ht.iso hi
  exact ⟨h1,Gu (by rw [h1];rfl) h2⟩
theorem Fo {m:Int} {o:Op} {t:Lv} (hm:Full m) (ht:LvV m t):LvV m (fi o t):=by
 obtain ⟨h1,h2⟩:=Jv (i:=o.isolated) (k:=t.op.knockout) hm ht.v
 refine ⟨Jb h1 h2,fun hi => ?_⟩
 have hi:o.isolated=true:=hi
 show fu o.isolated t.op.knockout t.acc t.back=aI∧0=(fu o.isolated t.op.knockout t.acc t.back).a
 rw [fu,if_pos hi];exact ⟨rfl,rfl⟩
structure OpFit (m:Int) (t:Op) (o:Op):Prop where
 op0:0≤o.opacity
 opm:o.opacity≤m
 ctx:o.operator=4∨t.isolated=true∧t.knockout=false
def Fb (m:Int):List Lv→Prop
 | []=>False
 | [t]=>LvV m t∧t.op=mL
 | t :: u :: r=>LvV m t∧OpFit m u.op t.op∧Fb m (u :: r)
theorem Fb.head {m:Int} {t:Lv} {r:List Lv} (h:Fb m (t :: r)):LvV m t:=by
 cases r with
 | nil=>exact h.1
 | cons=>exact h.1
theorem Fb.repl {m:Int} {t t':Lv} {r:List Lv} (h:Fb m (t :: r)) (h1:LvV m t') (h2:t'.op=t.op):Fb m (t' :: r):=by
 cases r with
 | nil=>exact ⟨h1,h2.trans h.2⟩
 | cons u r=>exact ⟨h1,by rw [h2];exact h.2.1,h.2.2⟩
def If (m:Int) (st:List Lv) (o:Op):Prop :=
 match st with
 | []=>False
 | t :: r=>(o.kind=1∨o.kind=2→OpFit m t.op o)∧(o.kind=3→r≠[])
theorem Et {m:Int} {z:Op→Pixel × Int} {st:List Lv} {o:Op} (hm:Full m) (hz:SmpV m z) (hs:Fb m st) (hk:o.kind=1∨o.kind=2∨o.kind=3) (hn:If m st o):Fb m (jQ m z st o):=by
 cases st with
 | nil=>exact hs.elim
 | cons t r =>
  obtain ⟨n1,n2⟩:=hn
  unfold jQ
  dsimp only
  split
  ·rename_i h
   have hf:=n1 (.inl h)
   exact hs.repl (CD hm (kN hm (hz.p o) (hz.k0 o) (hz.km o) hf.op0 hf.opm) hs.head hf.ctx) rfl
  split
  ·rename_i h1 h
   exact ⟨Fo hm hs.head,n1 (.inr h),hs⟩
  ·rename_i h1 h2
   cases r with
   | nil=>exact absurd rfl (n2 (by omega))
   | cons u r =>
    obtain ⟨s1,s2,s3⟩:=hs
    exact s3.repl (CD hm (kN hm (fW hm s1.v) (hz.k0 _) (hz.km _) s2.op0 s2.opm) s3.head s2.ctx) rfl
theorem Gr {m : Int} {z : Op → Pixel × Int} {t : Lv} {r : List Lv} {o : Op} :
  (jQ m z (t :: r) o).map Lv.op=if o.kind=1 then (t :: r).map Lv.op else if o.kind=2 then o :: (t :: r).map Lv.op else if r=[] then [t.op] else r.map Lv.op:=by
 unfold jQ
 dsimp only
 split
 ·rfl
 split
 ·rfl
 ·cases r with
  | nil=>rfl
  | cons u r=>rfl
theorem GP {f:Nat→Op} {p:Nat} {q:List Nat}:eC ((p :: q).reverse.map f)=true↔(f p).isolated=true∧(f p).knockout=false:=by
 have e:((p :: q).reverse.map f).getD (((p :: q).reverse.map f).length - 1) default=f p:=by
  simp [List.getD_eq_getElem?_getD]
 rw [eC,e]
 simp
def fI (m:Int) (z:Op→Pixel × Int) (ops:List Op) (i:Nat):List Lv:=jR m z (ops.take i) [cz]
theorem wN {ops:List Op} {i:Nat} (hi:i<ops.length):ops.take (i+1)=ops.take i ++ [aR ops i]:=by
 rw [List.take_add_one,List.getElem?_eq_getElem hi,aR,List.getD_eq_getElem?_getD,List.getElem?_eq_getElem hi];rfl
theorem dS {m:Int} {z:Op→Pixel × Int} {ops:List Op} {i:Nat} (hi:i<ops.length):fI m z ops (i+1)=jQ m z (fI m z ops i) (aR ops i):=by
 unfold fI
 rw [wN hi,Ce];rfl
theorem Da {m:Int} {s:Script} {t:Lv} {r:List Lv} (V:VOps s) (hmx:bo s.bits=m) (ho:∀ o ∈ s.ops,0≤o.opacity) {i:Nat} (hi:i<s.ops.length) (h2:(t :: r).map Lv.op=(bD s.ops i).map (aR s.ops) ++ [mL]):If m (t :: r) (aR s.ops i):=by
 have he:=bP.1 (V.ok i hi)
 have hop:0≤(aR s.ops i).opacity:=ho _ (by rw [aR,List.getD_eq_getElem?_getD,List.getElem?_eq_getElem (by omega)];exact List.getElem_mem _)
 refine ⟨fun q => ?_,fun q => ?_⟩
 ·obtain ⟨_,_,_,g⟩:=he
  obtain ⟨_,_,g3,_,_,g6,_⟩:=g (by omega)
  refine ⟨hop,by omega, ?_⟩
  by_cases h4:(aR s.ops i).operator=4
  ·exact .inl h4
  ·have hc:=g6 h4
   cases hs:bD s.ops i with
   | nil =>
    rw [hs] at h2
    have:t.op=mL:=(List.cons.inj h2).1
    rw [this];exact .inr ⟨rfl,rfl⟩
   | cons p q =>
    rw [hs] at h2 hc
    have e:t.op=aR s.ops p:=(List.cons.inj h2).1
    rw [GP] at hc
    rw [e];exact .inr hc
 ·rintro rfl
  cases hs:bD s.ops i with
  | nil=>exact V.wf.pops i (by omega) q hs
  | cons p q =>
   rw [hs] at h2
   have:=congrArg List.length h2
   simp at this
def LY (ops:List Op) (i j:Nat):List Op:=(ops.take j).drop i
theorem Fg {ops:List Op} {i j:Nat} (h1:i≤j) (h2:j<ops.length):LY ops i (j+1)=LY ops i j ++ [aR ops j]:=by
 unfold LY
 rw [wN h2,List.drop_append_of_le_length (by rw [List.length_take];omega)]
theorem LM {m : Int} {z : Op → Pixel × Int} {s : Script} (hm : Full m) (hz : SmpV m z) (V : VOps s) (hmx : bo s.bits = m) (ho : ∀ o ∈ s.ops, 0 ≤ o.opacity) {i : Nat} {st : List Lv}
  (h1:Fb m st) (h2:st.map Lv.op=(bD s.ops i).map (aR s.ops) ++ [mL]):∀ d,i+d≤s.ops.length→Fb m (jR m z (LY s.ops i (i+d)) st)∧(jR m z (LY s.ops i (i+d)) st).map Lv.op=(bD s.ops (i+d)).map (aR s.ops) ++ [mL]
 | 0,_=>by
  have e:LY s.ops i (i+0)=[]:=by
   unfold LY
   rw [List.drop_eq_nil_of_le];rw [List.length_take];omega
  rw [e];exact ⟨h1,h2⟩
 | d+1,hi=>by
  obtain ⟨h1,h2⟩:=LM hm hz V hmx ho h1 h2 d (by omega)
  rw [show i+(d+1)=(i+d)+1 by omega,Fg (by omega) (by omega),Ce]
  generalize jR m z (LY s.ops i (i+d)) st=st at *
  show Fb m (jQ m z st _)∧_
  have hk:=V.wf.kinds (i+d) (by omega)
  cases st with
  | nil=>exact h1.elim
  | cons t r =>
   have hn:=Da V hmx ho (show i+d<s.ops.length by omega) h2
   refine ⟨Et hm hz h1 hk hn, ?_⟩
   show (jQ m z (t :: r) _).map Lv.op=_
   rw [Gr]
   rcases hk with k|k|k
   ·rw [if_pos k,fv k];exact h2
   ·rw [if_neg (by omega),if_pos k,fx k]
    exact congrArg (List.cons _) h2
   ·rw [if_neg (by omega),if_neg (by omega),if_neg (hn.2 k),lC k]
    cases hs:bD s.ops (i+d) with
    | nil=>exact absurd hs (V.wf.pops (i+d) (by omega) k)
    | cons p q =>
     rw [hs] at h2
     exact (List.cons.inj h2).2
theorem MB {m : Int} {z : Op → Pixel × Int} {s : Script} (hm : Full m) (hz : SmpV m z) (V : VOps s) (hmx : bo s.bits = m) (ho : ∀ o ∈ s.ops, 0 ≤ o.opacity) (i : Nat) (hi : i ≤ s.ops.length) :
  Fb m (fI m z s.ops i)∧(fI m z s.ops i).map Lv.op=(bD s.ops i).map (aR s.ops) ++ [mL]:=by
 have:=LM hm hz V hmx ho (i:=0) (st:=[cz]) ⟨OA hm,rfl⟩ rfl i (by omega)
 rw [Nat.zero_add] at this
 exact this
end Go.Proofs.YtmfblbbemekkoaaGreatDoor
set_option maxHeartbeats 1000000
set_option maxRecDepth 16000
namespace Go.Proofs.YtmfblbbemekkoaaGreatDoor
open Go Go.SL
open Go.RowKit (wrap64)
def PC (n:Nat) (f:Nat→Nat):PV := .lst 1 n (fun a _=>PI (f a))
attribute [go_sem] PC
theorem tL {n:Nat}:(((n+1:Nat):Int) - 1)=(n:Int):=by omega
attribute [local go_sem] tL Int.toNat_natCast
def TC (l junk:List Nat) (a:Nat):Nat:=(l.reverse ++ junk).getD a 0
theorem CS {p:Nat} {t junk:List Nat}:TC (p :: t) junk t.length=p:=by
 rw [TC,List.reverse_cons,List.append_assoc,List.getD_eq_getElem?_getD,List.getElem?_append_right (by simp)]
 simp
attribute [local go_sem] CS
end Go.Proofs.YtmfblbbemekkoaaGreatDoor
set_option maxRecDepth 8000
set_option maxHeartbeats 2000000
namespace Go.Proofs.YtmfblbbemekkoaaGreatDoor
open Go Go.SL
def wt (ops:List Op) (i:Nat):Int:=match bD ops i with|[] => -1|p :: _=>p
def FP (ops:List Op) (i:Nat):Int:=if (aR ops i).kind=3 then wt ops (i+1) else wt ops i
theorem su {ops:List Op}:∀ {i:Nat} {l t:List Nat} {p:Nat},bD ops i=l ++ p :: t→bD ops p=t
 | 0,l,t,p,h=>by cases l <;> simp [bD] at h
 | i+1,l,t,p,h=>by
  rw [bD] at h
  split at h
  ·cases l with
   | nil=>simp only [List.nil_append,List.cons.injEq] at h;rw [← h.1,h.2]
   | cons a l=>simp only [List.cons_append,List.cons.injEq] at h;exact su h.2
  split at h
  ·cases hs:bD ops i with
   | nil=>rw [hs] at h;cases l <;> simp at h
   | cons q r=>rw [hs] at h;exact su (l:=q :: l) (by rw [hs];exact congrArg (q :: ·) h)
  ·exact su h
theorem DV {ops:List Op} {i:Nat} (h:bD ops i=[]):wt ops i = -1:=by rw [wt,h]
theorem Bb {ops:List Op} {i p:Nat} {t:List Nat} (h:bD ops i=p :: t):wt ops i=p:=by rw [wt,h]
def Pu (s:Script) (i:Nat):Bool:=decide (FP s.ops i<0) || (aR s.ops (FP s.ops i).toNat).isolated
def TB (s:Script) (i:Nat):Bool := !decide (FP s.ops i<0) && (aR s.ops (FP s.ops i).toNat).knockout
def gC (s:Script) (k:Int):Image:=s.images.getD k.toNat default
end Go.Proofs.YtmfblbbemekkoaaGreatDoor
namespace Go.Proofs.YtmfblbbemekkoaaGreatDoor
section
variable {m:Int} {z:Op→Pixel × Int}
theorem lP {o:Op} {t:Lv} {r:List Lv} (h:o.kind=1):jQ m z (t :: r) o=bJ m o (ax m o (z o).1 (z o).2) t :: r:=if_pos h
theorem lp {o:Op} {t:Lv} {r:List Lv} (h:o.kind=2):jQ m z (t :: r) o=fi o t :: t :: r:=(if_neg (by omega)).trans (if_pos h)
theorem nb {o:Op} {t u:Lv} {r:List Lv} (h:o.kind=3):jQ m z (t :: u :: r) o=bJ m t.op (ax m t.op (aU t.acc t.back m) (z t.op).2) u :: r:=(if_neg (by omega)).trans (if_neg (by omega))
end
section
variable {ops:List Op}
end
end Go.Proofs.YtmfblbbemekkoaaGreatDoor
namespace Go.Proofs.YtmfblbbemekkoaaGreatDoor
section
variable {op mode m cs sl cb ab:Int}
end
section
variable {ko:Bool} {op mode m:Int} {s:Pixel} {x:Acc} {b:Pixel}
theorem AccV.pre2 (h:AccV x b m):Pre x.c2 x.a m:=⟨h.n2,h.l2,h.am⟩
theorem PixV.pre2 (h:PixV s m):Pre s.c2 s.a m:=⟨h.n2,h.l2,h.am⟩
end
end Go.Proofs.YtmfblbbemekkoaaGreatDoor
namespace Go.Proofs.YtmfblbbemekkoaaGreatDoor
def OF (r:Rect) (x y:Int):Prop:=r.x0≤x∧x<r.x1∧r.y0≤y∧y<r.y1
def eX (m:Image) (x y:Int):Pixel:=if m.solid=true then m.color else ⟨m.p0.s.getD (y * m.p0.stride+x).toNat 0,m.p1.s.getD (y * m.p1.stride+x).toNat 0,m.p2.s.getD (y * m.p2.stride+x).toNat 0,m.p3.s.getD (y * m.p3.stride+x).toNat 0,m.p4.s.getD (y * m.p4.stride+x).toNat 0⟩
def cF (p:Plane):Bool:=cl p.w p.h && decide (p.w≤p.stride) && decide (p.stride≤16777216) && decide ((p.h - 1) * p.stride+p.w≤p.s.length)
def aH (m:Image) (p:Plane):Bool:=if m.solid=true then decide (p.w=0) && decide (p.h=0) && decide (p.stride=0) && decide (p.s.length=0) else cF p && decide (p.w=m.w) && decide (p.h=m.h)
def aX (m:Image):Bool:=cl m.w m.h && (aH m m.p0 && aH m m.p1 && aH m m.p2 && aH m m.p3 && aH m m.p4 && (m.solid || decide (m.color=aI)))
def eI (m:Image) (x y:Int):Pixel:=if aX m=false∨x<0∨m.w≤x∨y<0∨m.h≤y then aI else eX m x y
def eJ (m:Image) (x y dx dy:Int):Pixel:=if x<dx∨y<dy∨1099511627776≤x - dx∨1099511627776≤y - dy then aI else eI m (x - dx) (y - dy)
def bd (s:Script) (x y:Int) (o:Op):Pixel × Int :=
 (if o.kind=1∧0≤o.image∧o.image<s.images.length then eJ (gC s o.image) x y o.x o.y else aI,
  if 1≤o.mask∧o.mask≤s.images.length then (eJ (gC s (o.mask - 1)) x y o.maskX o.maskY).a else 0)
structure ImgV (m:Image) (mx:Int):Prop where
 f:aX m=true
 p:∀ x y,0≤x→x<m.w→0≤y→y<m.h→PixV (eX m x y) mx
def sU (s:Script):Prop:=∀ i:Int,0≤i→i<s.images.length→ImgV (gC s i) (bo s.bits)
theorem Je {m:Image} {mx x y:Int} (hm:Full mx) (h:ImgV m mx):PixV (eI m x y) mx:=by
 unfold eI
 split
 ·exact tB hm
 ·exact h.p x y (by omega) (by omega) (by omega) (by omega)
theorem Cs {m:Image} {mx x y dx dy:Int} (hm:Full mx) (h:ImgV m mx):PixV (eJ m x y dx dy) mx:=by
 unfold eJ
 split
 ·exact tB hm
 ·exact Je hm h
theorem QG {s:Script} {m x y:Int} (hm:Full m) (hmx:bo s.bits=m) (h:sU s):SmpV m (bd s x y):=by
 subst hmx
 have key:∀ o:Op,0≤(bd s x y o).2∧(bd s x y o).2≤bo s.bits:=fun o=>by
  unfold bd
  dsimp only
  split
  ·have:=Cs (x:=x) (y:=y) (dx:=o.maskX) (dy:=o.maskY) hm (h (o.mask - 1) (by omega) (by omega))
   exact ⟨this.a0,this.am⟩
  ·have:=hm.pos
   omega
 refine ⟨fun o => ?_,fun o=>(key o).1,fun o=>(key o).2⟩
 unfold bd
 dsimp only
 split
 ·exact Cs hm (h o.image (by omega) (by omega))
 ·exact tB hm
theorem lv {m:Image} (h:aX m=true):1≤m.w∧1≤m.h∧m.w≤16777216∧m.h≤16777216:=by
 have:cl m.w m.h=true:=by
  unfold aX at h
  rw [Bool.and_eq_true] at h;exact h.1
 obtain ⟨a,b,_,_,c,d⟩:=di this
 exact ⟨a,b,c,d⟩
section
variable {s:Script} {x y:Int}
end
end Go.Proofs.YtmfblbbemekkoaaGreatDoor
set_option maxHeartbeats 2000000
set_option maxRecDepth 16000
namespace Go.Proofs.YtmfblbbemekkoaaGreatDoor
open Go Go.SL
open Go.RowKit (wrap64)
theorem fU (p:Plane):aC Sg 130 [ag (fL p)] (fun r=>r = .b (B (cF p))):=by
 have hf:=gS p.w p.h
 unfold cF
 by_cases h:cl p.w p.h=true∧p.w≤p.stride∧p.stride≤16777216
 ·obtain ⟨h1,h2,h3⟩:=h
  obtain ⟨b1,b2,b3,b4,b5,b6⟩:=di h1
  have e1:0≤(p.h - 1) * p.stride∧(p.h - 1) * p.stride≤16777216 * 16777216:=⟨ar (by omega) (by omega),ay (by omega) (by omega) (by omega) (by omega)⟩
  have g2:decide (p.stride≥p.w)=true:=decide_eq_true h2
  have g3:decide (p.stride≤16777216)=true:=decide_eq_true h3
  rw [h1] at hf ⊢
  refine aA Tryz.func130 [.tmp 2] ?_
  repeat' (first|((first|refine ai (fun K hK => ?_)|refine ae (hf) ?_);and_intros;(all_goals first|(refine hK _ ?_;clear hK K)|exact aa|skip))|(refine ak ?_;(try clear hB KB);(try clear hK K)))
  rfl
 ·refine aA Tryz.func130 [.tmp 2] ?_
  repeat' (first|((first|refine ai (fun K hK => ?_)|refine ae (hf) ?_);and_intros;(all_goals first|(refine hK _ ?_;clear hK K)|exact aa|skip))|(refine ak ?_;(try clear hB KB);(try clear hK K)))
  have hz:(cl p.w p.h && decide (p.stride≥p.w) && decide (p.stride≤16777216))=false:=by
   rw [← Bool.not_eq_true,Bool.and_eq_true,Bool.and_eq_true,decide_eq_true_eq,decide_eq_true_eq]
   exact fun q=>h ⟨q.1.1,q.1.2,q.2⟩
  rw [hz]
  rfl
theorem fP {m : Image} {p : Plane} {x y : Int} (hs : m.solid = false) (h : aH m p = true) (hx : 0 ≤ x) (hxm : x < m.w) (hy : 0 ≤ y) (hym : y < m.h) :
  (0≤y * p.stride∧y * p.stride≤16777216 * 16777216)∧0≤y * p.stride+x∧y * p.stride+x<p.s.length∧x≤16777216:=by
 unfold aH cF at h
 rw [hs,if_neg (by decide)] at h
 simp only [Bool.and_eq_true,decide_eq_true_eq] at h
 obtain ⟨⟨⟨⟨⟨hf,h1⟩,h2⟩,h3⟩,h4⟩,h5⟩:=h
 obtain ⟨b1,b2,b3,b4,b5,b6⟩:=di hf
 have e1:0≤y * p.stride∧y * p.stride≤16777216 * 16777216:=⟨ar hy (by omega),ay (by omega) h2 (by omega) (by omega)⟩
 have e2:y * p.stride≤(p.h - 1) * p.stride:=ay (by omega) (Int.le_refl _) (by omega) (by omega)
 exact ⟨e1,by omega,by omega,by omega⟩
theorem zk (m:Image) (x y:Int) (hf:aX m=true) (hx:0≤x) (hxm:x<m.w) (hy:0≤y) (hym:y<m.h):aC Sg 71 [ag (aN m),I x,I y] (fun r=>r = .b (ag (aF (eX m x y)))):=by
 unfold eX
 by_cases hs:m.solid=true
 ·rw [if_pos hs]
  refine aA Tryz.func71 [.cell 6 41] ?_
  repeat' (first|refine aj hs ?_|refine an ?_|(refine ai (fun K hK => ?_);and_intros;(all_goals first|(refine hK _ ?_;clear hK K)|exact aa|skip))|(refine ak ?_;(try clear hB KB);(try clear hK K)))
  rfl
 ·rw [if_neg hs]
  have hs':m.solid=false:=by simpa using hs
  unfold aX at hf
  simp only [Bool.and_eq_true] at hf
  obtain ⟨_,⟨⟨⟨⟨⟨f0,f1⟩,f2⟩,f3⟩,f4⟩,_⟩⟩:=hf
  obtain ⟨a0,b0,c0,d0⟩:=fP hs' f0 hx hxm hy hym
  obtain ⟨a1,b1,c1,_⟩:=fP hs' f1 hx hxm hy hym
  obtain ⟨a2,b2,c2,_⟩:=fP hs' f2 hx hxm hy hym
  obtain ⟨a3,b3,c3,_⟩:=fP hs' f3 hx hxm hy hym
  obtain ⟨a4,b4,c4,_⟩:=fP hs' f4 hx hxm hy hym
  refine aA Tryz.func71 [.cell 6 41] ?_
  repeat' (first|(apply nV;(case hc=>exact eH);(case ht=>(simp only [Int.toNat_natCast,Int.reduceBEq,Int.reduceBNe,Int.reduceLT,Int.reduceLE,decide_true,decide_false,yz,hs'];done)))|refine an ?_|(refine ai (fun K hK => ?_);and_intros;(all_goals first|(refine hK _ ?_;clear hK K)|exact aa|skip)))
  refine aO (X:=Int) (fun k=>aQ [(1, .b (I x)),(2, .b (I y)),(3, .b (.c (.ptr 0 0))),(6, .b (.c (.ptr 1 0))),(7, .b (.c (.ptr 2 0))),(8, .b (I k))]
   [(0, .fix ((aN m).map CV.p)),(1, .fix ((aF aI).map CV.p)),(2, .fix [.p (PI (if 0<k then y * m.p0.stride+x else 0)), .p (PI (if 1<k then y * m.p1.stride+x else 0)), .p (PI (if 2<k then y * m.p2.stride+x else 0)), .p (PI (if 3<k then y * m.p3.stride+x else 0)), .p (PI (if 4<k then y * m.p4.stride+x else 0))])] 3) (fun k=>0≤k∧k≤5) (fun k=>(5 - k).toNat) 0 ?_ ?_ ?_
  ·omega
  ·refine az [(1,some 1),(2,some 2)] ?_ ?_
   and_intros
   all_goals first|exact ao|skip
  ·intro k hk
   have hkv:k=0∨k=1∨k=2∨k=3∨k=4∨k=5:=by omega
   rcases hkv with rfl|rfl|rfl|rfl|rfl|rfl
   ·repeat' (first|(apply jV;(case hc=>exact eH);(case ht=>(simp only [Int.toNat_natCast,Int.reduceBEq,Int.reduceBNe,Int.reduceLT,Int.reduceLE,decide_true,decide_false,yz,hs'];done)))|refine an ?_|(refine ai (fun K hK => ?_);and_intros;(all_goals first|(refine hK _ ?_;clear hK K)|exact aa|skip)))
    rw [ah]
    refine aw 1 ?_ (by omega) (by decide)
    refine az [(1,some 1),(2,some 2)] ?_ ?_
    and_intros
    all_goals first|exact ao|skip
   ·repeat' (first|(apply jV;(case hc=>exact eH);(case ht=>(simp only [Int.toNat_natCast,Int.reduceBEq,Int.reduceBNe,Int.reduceLT,Int.reduceLE,decide_true,decide_false,yz,hs'];done)))|refine an ?_|(refine ai (fun K hK => ?_);and_intros;(all_goals first|(refine hK _ ?_;clear hK K)|exact aa|skip)))
    rw [ah]
    refine aw 2 ?_ (by omega) (by decide)
    refine az [(1,some 1),(2,some 2)] ?_ ?_
    and_intros
    all_goals first|exact ao|skip
   ·repeat' (first|(apply jV;(case hc=>exact eH);(case ht=>(simp only [Int.toNat_natCast,Int.reduceBEq,Int.reduceBNe,Int.reduceLT,Int.reduceLE,decide_true,decide_false,yz,hs'];done)))|refine an ?_|(refine ai (fun K hK => ?_);and_intros;(all_goals first|(refine hK _ ?_;clear hK K)|exact aa|skip)))
    rw [ah]
    refine aw 3 ?_ (by omega) (by decide)
    refine az [(1,some 1),(2,some 2)] ?_ ?_
    and_intros
    all_goals first|exact ao|skip
   ·repeat' (first|(apply jV;(case hc=>exact eH);(case ht=>(simp only [Int.toNat_natCast,Int.reduceBEq,Int.reduceBNe,Int.reduceLT,Int.reduceLE,decide_true,decide_false,yz,hs'];done)))|refine an ?_|(refine ai (fun K hK => ?_);and_intros;(all_goals first|(refine hK _ ?_;clear hK K)|exact aa|skip)))
    rw [ah]
    refine aw 4 ?_ (by omega) (by decide)
    refine az [(1,some 1),(2,some 2)] ?_ ?_
    and_intros
    all_goals first|exact ao|skip
   ·repeat' (first|(apply jV;(case hc=>exact eH);(case ht=>(simp only [Int.toNat_natCast,Int.reduceBEq,Int.reduceBNe,Int.reduceLT,Int.reduceLE,decide_true,decide_false,yz,hs'];done)))|refine an ?_|(refine ai (fun K hK => ?_);and_intros;(all_goals first|(refine hK _ ?_;clear hK K)|exact aa|skip)))
    rw [ah]
    refine aw 5 ?_ (by omega) (by decide)
    refine az [(1,some 1),(2,some 2)] ?_ ?_
    and_intros
    all_goals first|exact ao|skip
   ·repeat' (first|(apply nV;(case hc=>exact eH);(case ht=>(simp only [Int.toNat_natCast,Int.reduceBEq,Int.reduceBNe,Int.reduceLT,Int.reduceLE,decide_true,decide_false,yz,hs'];done)))|refine an ?_|(refine ai (fun K hK => ?_);and_intros;(all_goals first|(refine hK _ ?_;clear hK K)|exact aa|skip))|(refine ak ?_;(try clear hB KB);(try clear hK K)))
    rfl
theorem BM (m:Image) (x y:Int) (hF:aC Sg 70 [ag (aN m)] (fun r=>r = .b (B (aX m)))):aC Sg 49 [ag (aN m),I x,I y] (fun r=>r = .b (ag (aF (eI m x y)))):=by
 unfold eI
 by_cases h:aX m=false∨x<0∨m.w≤x∨y<0∨m.h≤y
 ·rw [if_pos h]
  have g:(!aX m || decide (x<0) || decide (x≥m.w) || decide (y<0) || decide (y≥m.h))=true:=by
   simp only [Bool.or_eq_true,Bool.not_eq_true',decide_eq_true_eq]
   rcases h with h|h|h|h|h
   ·exact .inl (.inl (.inl (.inl h)))
   ·exact .inl (.inl (.inl (.inr h)))
   ·exact .inl (.inl (.inr h))
   ·exact .inl (.inr h)
   ·exact .inr h
  refine aA Tryz.func49 [.cell 6 41] ?_
  repeat' (first|refine aj g ?_|refine an ?_|((first|refine ai (fun K hK => ?_)|refine ae (hF) ?_);and_intros;(all_goals first|(refine hK _ ?_;clear hK K)|exact aa|skip))|(refine ak ?_;(try clear hB KB);(try clear hK K)))
  rfl
 ·rw [if_neg h]
  have hf:aX m=true:=by
   rw [← Bool.not_eq_false];exact fun q=>h (.inl q)
  have hp:=zk m x y hf (by omega) (by omega) (by omega) (by omega)
  rw [hf] at hF
  have g1:decide (x<0)=false:=decide_eq_false (by omega)
  have g2:decide (x≥m.w)=false:=decide_eq_false (by omega)
  have g3:decide (y<0)=false:=decide_eq_false (by omega)
  have g4:decide (y≥m.h)=false:=decide_eq_false (by omega)
  generalize eX m x y=p at *
  refine aA Tryz.func49 [.cell 6 41] ?_
  repeat' (first|refine aj (And.intro g1 (And.intro g2 (And.intro g3 g4))) ?_|refine an ?_|((first|refine ai (fun K hK => ?_)|refine ae (hF) ?_|refine ae (hp) ?_);and_intros;(all_goals first|(refine hK _ ?_;clear hK K)|exact aa|skip))|(refine ak ?_;(try clear hB KB);(try clear hK K)))
  rfl
end Go.Proofs.YtmfblbbemekkoaaGreatDoor
