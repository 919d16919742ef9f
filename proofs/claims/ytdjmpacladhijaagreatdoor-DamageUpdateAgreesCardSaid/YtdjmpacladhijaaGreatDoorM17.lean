/- Part of the proof: T9, TA, TB, TC, D6, D7, PN, V2. -/
import Derived.Test.YtdjmpacladhijaaGreatDoorM16
set_option linter.unusedSimpArgs false
set_option linter.unusedVariables false
set_option maxHeartbeats 2000000
set_option maxRecDepth 16000
namespace Go.Proofs.YtdjmpacladhijaaGreatDoor
open Go Go.SL
open Go.RowKit (wrap64)
section
structure Pt (s:Script) (m x y:Int):Prop where
 V:VOps s
 hm:Full m
 mx:aN s.bits=m
 im:sj s
 op:∀ o ∈ s.ops,0≤o.opacity
 c:aM s.canvas=false
 xy:jo s.canvas x y
def ch (s:Script) (x y:Int):Pixel:=Ww (aN s.bits) (ep (aN s.bits) (bg s x y) s.ops [base])
section
variable {s:Script} {m x y:Int}
theorem Pt.z (C:Pt s m x y):SmpV m (bg s x y):=a7a C.hm C.mx C.im
structure At (s:Script) (m:Int) (i:Nat) (st:List Lv):Prop where
 v:JD m st
 o:st.map Lv.op=(bE s.ops i).map (ah s.ops) ++ [kD]
theorem oK (C:Pt s m x y) (i:Nat) (hi:i≤s.ops.length):At s m i (jP m (bg s x y) s.ops i):=by
 obtain ⟨h1,h2⟩:=a2M C.hm C.z C.V C.mx C.op i hi;exact ⟨h1,h2⟩
theorem ua (C:Pt s m x y) {i j:Nat} {st:List Lv} (h:At s m i st) (hij:i≤j) (hj:j≤s.ops.length):At s m j (ep m (bg s x y) (iH s.ops i j) st):=by
 obtain ⟨h1,h2⟩:=Qu C.hm C.z C.V C.mx C.op h.v h.o (j - i) (by omega);rw [show i+(j - i)=j by omega] at h1 h2;exact ⟨h1,h2⟩
theorem At.ne {i:Nat} {st:List Lv} (h:At s m i st):∃ t r,st=t :: r:=by
 cases st with
 | nil=>exact h.v.elim
 | cons t r=>grind
theorem At.fit (C:Pt s m x y) {i:Nat} {t:Lv} {r:List Lv} (h:At s m i (t :: r)) (hi:i<s.ops.length) (hk:(ah s.ops i).kind≠3):OpFit m t.op (ah s.ops i):=by
 have hn:=MQ C.V C.mx C.op hi h.o;refine hn.1 ?_;rcases C.V.wf.kinds i hi with q|q|q
 ·omega
 ·omega
 omega
theorem At.frame {i:Nat} {t:Lv} {r:List Lv} (h:At s m i (t :: r)) (hk:(ah s.ops i).kind≠3):t.op.isolated=AI s i∧t.op.knockout=JC s i:=by
 have ho:=h.o;unfold AI JC;rw [mf,if_neg hk];cases hs:bE s.ops i with
 | nil =>
  rw [hs] at ho;grind [gn,ah,iJ,kD]
 | cons p q =>
  grind [gn,ah,ee]
theorem At.repl {i:Nat} {t t':Lv} {r:List Lv} (h:At s m i (t :: r)) (h1:LvV m t') (h2:t'.op=t.op):At s m i (t' :: r) :=
 ⟨h.v.repl h1 h2,by rw [← h.o,List.map_cons,List.map_cons,h2]⟩
theorem At.same {i j:Nat} {st:List Lv} (h:At s m i st) (hs:bE s.ops j=bE s.ops i):At s m j st:=⟨h.v,by rw [hs];exact h.o⟩
def kv (s:Script) (m x y:Int) (i:Nat) (ko:Bool) (a:Acc) (b:Pixel):Pixel :=
 if (ah s.ops i).kind=1 then (bg s x y (ah s.ops i)).1 else yP m (bg s x y) (iH s.ops (i+1) (aE s.ops i)) (ah s.ops i).knockout (cg (ah s.ops i).isolated ko a b)
theorem kG (C : Pt s m x y) {i : Nat} (hi : i < s.ops.length) (hk : (ah s.ops i).kind ≠ 3) {ko : Bool} {a : Acc} {b : Pixel} :
  lg m (bg s x y) (iH s.ops i (aE s.ops i+1)) ko a b=bQ ko (ah s.ops i).operator (ah s.ops i).mode m (aL m (ah s.ops i) (kv s m x y i ko a b) (bg s x y (ah s.ops i)).2) a b:=by
 have W:=C.V.wf;unfold kv;rcases W.kinds i hi with h|h|h
 ·grind [iH,gy,sH,Ie]
 ·grind [iH,Fa,MW,xl,nS]
 omega
theorem kO (C : Pt s m x y) {i : Nat} (hi : i < s.ops.length) (hk : (ah s.ops i).kind ≠ 3) (t : Lv) (r : List Lv) :
  ep m (bg s x y) (iH s.ops i (aE s.ops i+1)) (t :: r) = { t with acc:=lg m (bg s x y) (iH s.ops i (aE s.ops i+1)) t.op.knockout t.acc t.back } :: r:=tx (KN C.V.wf hi hk) t r
end
end
section
section
variable {s:Script} {m x y:Int}
theorem yH {o:Op} {k:Int} (hm:Full m):aL m o bG k=bG:=by grind [aL,tF]
theorem xZ {o:Op} {p:Pixel} (hm:Full m) (h:o.mask≠0):aL m o p 0=bG:=by grind [aL,Bb,tF]
theorem BF {o:Op} {p:Pixel} {k:Int} (hm:Full m) (h:o.opacity=0):aL m o p k=bG:=by grind [aL,Bb]
theorem uJ (C : Pt s m x y) {i : Nat} (hi : i < s.ops.length) (hk : (ah s.ops i).kind ≠ 3) :
  ((ah s.ops i).kind=1→0≤(ah s.ops i).image∧(ah s.ops i).image<s.images.length)∧0≤(ah s.ops i).mask∧(ah s.ops i).mask≤s.images.length ∧
   (-1048576≤(ah s.ops i).x∧(ah s.ops i).x≤1048576)∧(-1048576≤(ah s.ops i).y∧(ah s.ops i).y≤1048576)∧(-1048576≤(ah s.ops i).maskX∧(ah s.ops i).maskX≤1048576)∧(-1048576≤(ah s.ops i).maskY∧(ah s.ops i).maskY≤1048576):=by
 obtain ⟨_,_,_,g⟩:=cu.1 (C.V.ok i hi);grind [bu]
theorem FK (C : Pt s m x y) {i : Nat} (hi : i < s.ops.length) (hk : (ah s.ops i).kind ≠ 3) (h0 : (ah s.ops i).mask ≠ 0) :
  ((aM (cV s (ah s.ops i))=false∧jo (cV s (ah s.ops i)) x y)→(cH s ((ah s.ops i).mask - 1)).solid=true→(bg s x y (ah s.ops i)).2=(cH s ((ah s.ops i).mask - 1)).color.a) ∧
   (¬ (aM (cV s (ah s.ops i))=false∧jo (cV s (ah s.ops i)) x y)→(bg s x y (ah s.ops i)).2=0):=by
 obtain ⟨_,b1,b2,_,_,b5,b6⟩:=uJ C hi hk;have hI:=C.im ((ah s.ops i).mask - 1) (by omega) (by omega);have e:cV s (ah s.ops i)=gE s ((ah s.ops i).mask - 1) (ah s.ops i).maskX (ah s.ops i).maskY:=if_neg h0;have hp:=DF (i:=(ah s.ops i).mask - 1) C.c C.xy (by omega) (by omega) hI.f b5 b6;have e2:(bg s x y (ah s.ops i)).2=(gm (cH s ((ah s.ops i).mask - 1)) x y (ah s.ops i).maskX (ah s.ops i).maskY).a:=if_pos (by omega);rw [e,e2,hp];refine ⟨fun h hs => ?_,fun h => ?_⟩
 ·rw [LV hI.f h,fy,if_pos hs]
 ·rw [Iq h];rfl
theorem AN (C : Pt s m x y) {i : Nat} (hi : i < s.ops.length) (hk : (ah s.ops i).kind = 1) :
  ((aM (bt s (ah s.ops i))=false∧jo (bt s (ah s.ops i)) x y)→(cH s (ah s.ops i).image).solid=true→(bg s x y (ah s.ops i)).1=(cH s (ah s.ops i).image).color) ∧
   (¬ (aM (bt s (ah s.ops i))=false∧jo (bt s (ah s.ops i)) x y)→(bg s x y (ah s.ops i)).1=bG):=by
 obtain ⟨b0,_,_,b3,b4,_⟩:=uJ C hi (by omega);have b0:=b0 hk;have hI:=C.im (ah s.ops i).image b0.1 b0.2;have e:bt s (ah s.ops i)=gE s (ah s.ops i).image (ah s.ops i).x (ah s.ops i).y:=if_pos hk;have hp:=DF (i:=(ah s.ops i).image) C.c C.xy b0.1 b0.2 hI.f b3 b4;have e2:(bg s x y (ah s.ops i)).1=gm (cH s (ah s.ops i).image) x y (ah s.ops i).x (ah s.ops i).y:=if_pos ⟨hk,b0⟩;rw [e,e2,hp];refine ⟨fun h hs => ?_,fun h => ?_⟩
 ·rw [LV hI.f h,fy,if_pos hs]
 ·exact Iq h
theorem MM {z:Op→Pixel × Int} {ko:Bool} {B:Pixel}:yP m z [] ko B=bG:=by
 have e:∀ c,iC c c 0 m=0:=fun c=>by grind [iC]
 show bU (gL B) B m=bG;grind [bU,gL,bG,iC]
theorem vQ (C : Pt s m x y) {i : Nat} (hi : i < s.ops.length) (hk : (ah s.ops i).kind ≠ 3) (hn : fe (ah s.ops i).operator = true) {t : Lv} {r : List Lv} (h : At s m i (t :: r))
  (hz:aL m (ah s.ops i) (kv s m x y i t.op.knockout t.acc t.back) (bg s x y (ah s.ops i)).2=bG):lg m (bg s x y) (iH s.ops i (aE s.ops i+1)) t.op.knockout t.acc t.back=t.acc:=by
 rw [kG C hi hk,hz];refine EB C.hm h.v.head.v hn fun hko => ?_;rcases (h.fit C hi hk).ctx with q|q
 ·exact q
 grind
end
end
section
section
variable {s:Script} {m x y:Int}
theorem UV (C:Pt s m x y) {i:Nat} (hi:i<s.ops.length) (hk:(ah s.ops i).kind=2) {t:Lv} {r:List Lv} (h:At s m i (t :: r)):At s m (i+1) (gU (ah s.ops i) t :: t :: r):=by
 have h2:=ua C h (show i≤i+1 by omega) (by omega);rw [sH hi,iT,jX hk] at h2;exact h2
end
end
section
def zb (r:Rect) (x y:Int):Prop:=aM r=false∧jo r x y
theorem Ei {r q:Rect} {x y:Int} (h:¬ zb (ed r q) x y):¬ zb r x y∨¬ zb q x y:=by grind [zb,ed,rz]
theorem Jp {l:List Rect} {x y:Int} (h:¬ zb (fu l) x y):∀ r ∈ l,¬ zb r x y:=fun r hr ⟨h1,h2⟩=>by
 obtain ⟨a,b,c,d,e⟩:=Xl hr h1;refine h ⟨a, ?_⟩;grind [jo]
theorem QE {e:Nat→Nat} {b:Nat}:∀ {l:List Nat} {a:Nat},Wlk e a b l→(∀ k ∈ l,k≤e k)→a≤b
 | [],a,h,_=>Nat.le_of_eq h
 | k :: l,a,⟨h1,h2⟩,h3=>by
  have:=QE h2 fun j hj=>h3 j (List.mem_cons_of_mem _ hj);grind
section
variable {s:Script} {m x y:Int}
theorem GL (C : Pt s m x y) {b : Nat} (hb : b ≤ s.ops.length) : ∀ (l : List Nat) (a : Nat), Wlk (aE s.ops) a b l →
  (∀ k ∈ l,k<b∧(ah s.ops k).kind≠3∧∀ t r,At s m k (t :: r)→lg m (bg s x y) (iH s.ops k (aE s.ops k+1)) t.op.knockout t.acc t.back=t.acc) →
  ∀ t r,At s m a (t :: r)→lg m (bg s x y) (iH s.ops a b) t.op.knockout t.acc t.back=t.acc
 | [],a,h,_,t,r,_=>by
  obtain rfl:a=b:=h;rw [oB];rfl
 | k :: l,a,⟨h1,h2⟩,h3,t,r,ha=>by
  subst h1;obtain ⟨q1,q2,q3⟩:=h3 a (List.mem_cons_self ..);have W:=C.V.wf;have hle:=QE h2 fun j hj=>jl W (Nat.lt_of_lt_of_le (h3 j (List.mem_cons_of_mem _ hj)).1 hb);have hge:=jl W (Nat.lt_of_lt_of_le q1 hb);have h4:=ua C ha (show a≤aE s.ops a+1 by omega) (by omega);rw [kO C (by omega) q2,q3 t r ha] at h4;have:=GL C hb l _ h2 (fun j hj=>h3 j (List.mem_cons_of_mem _ hj)) t r h4;grind [iH,aE,vJ,Yt,KN]
theorem Nu (C : Pt s m x y) {i : Nat} (hi : i < s.ops.length) (hk : (ah s.ops i).kind ≠ 3) {R : Rect} (hb : ¬ zb (lv s (ah s.ops i) R) x y) {t : Lv} {r : List Lv} (h : At s m i (t :: r))
  (hR:¬ zb R x y→kv s m x y i t.op.knockout t.acc t.back=bG):lg m (bg s x y) (iH s.ops i (aE s.ops i+1)) t.op.knockout t.acc t.back=t.acc:=by
 unfold lv at hb;cases hn:fe (ah s.ops i).operator with
 | false =>
  rw [hn,if_pos rfl] at hb;exact absurd ⟨C.c,C.xy⟩ hb
 | true =>
  refine vQ C hi hk hn h ?_;rw [hn,if_neg (by decide)] at hb;by_cases h0:(ah s.ops i).opacity=0
  ·exact BF C.hm h0
  rw [if_neg h0] at hb;rcases Ei hb with q|q
  ·rw [hR q];exact yH C.hm
  ·by_cases hm0:(ah s.ops i).mask=0
   ·rw [cV,if_pos hm0] at q;exact absurd ((rz C.c C.c).2 ⟨C.xy,C.xy⟩) q
   ·rw [(FK C hi hk hm0).2 q];exact xZ C.hm hm0
theorem Mz (C : Pt s m x y) : ∀ (d i : Nat), s.ops.length - i ≤ d → i < s.ops.length → (ah s.ops i).kind ≠ 3 → ¬ zb (dr s i) x y → ∀ t r, At s m i (t :: r) →
  lg m (bg s x y) (iH s.ops i (aE s.ops i+1)) t.op.knockout t.acc t.back=t.acc
 | 0,i,hd,hi,_,_,_,_,_=>absurd hi (by omega)
 | d+1,i,hd,hi,hk,hb,t,r,h=>by
  have W:=C.V.wf;rcases W.kinds i hi with h1|h2|h3
  ·rw [Jg W hi h1] at hb;refine Nu C hi hk hb h fun q => ?_;rw [kv,if_pos h1];exact (AN C hi h1).2 q
  ·obtain ⟨l,q1,q2,q3⟩:=Ri W hi h2;rw [q3] at hb;refine Nu C hi hk hb h fun q => ?_;rw [kv,if_neg (by omega)];have hel:=cB W hi;have ho:=Jp q;have hin:=UV C hi h2 h;have key:∀ k ∈ l,k<aE s.ops i∧(ah s.ops k).kind≠3∧∀ t r,At s m k (t :: r)→lg m (bg s x y) (iH s.ops k (aE s.ops k+1)) t.op.knockout t.acc t.back=t.acc:=fun k hk=>by
    obtain ⟨⟨k1,k2⟩,k3⟩:=q2 k hk;exact ⟨k2,k3,Mz C d k (by omega) (by omega) k3 (ho _ (List.mem_map_of_mem hk))⟩
   have:=GL C (Nat.le_of_lt hel) l _ q1 key _ _ hin;have e:lg m (bg s x y) (iH s.ops (i+1) (aE s.ops i)) (ah s.ops i).knockout (gL (cg (ah s.ops i).isolated t.op.knockout t.acc t.back)) (cg (ah s.ops i).isolated t.op.knockout t.acc t.back)=gL (cg (ah s.ops i).isolated t.op.knockout t.acc t.back):=this;rw [yP,e];exact MM (z:=bg s x y) (ko:=false)
  omega
theorem Zb (C:Pt s m x y) {i:Nat} (hi:i<s.ops.length) (hk:(ah s.ops i).kind≠3) (hb:¬ zb (dr s i) x y):jP m (bg s x y) s.ops (aE s.ops i+1)=jP m (bg s x y) s.ops i:=by
 obtain ⟨t,r,e⟩:=(oK C i (by omega)).ne;have ha:=oK C i (by omega);rw [e] at ha;have hge:=jl C.V.wf hi;have h1:jP m (bg s x y) s.ops (aE s.ops i+1)=ep m (bg s x y) (iH s.ops i (aE s.ops i+1)) (jP m (bg s x y) s.ops i):=by
  unfold jP;rw [← fI];congr 1;have:=vJ (ops:=s.ops) (show 0≤i by omega) (show i≤aE s.ops i+1 by omega);exact this
 rw [h1,e,kO C hi hk,Mz C _ i (Nat.le_refl _) hi hk hb t r ha]
open Classical in
end
structure Twin (s t:Script):Prop where
 im:s.images=t.images
 c:s.canvas=t.canvas
theorem Twin.box {s t:Script} (T:Twin s t) (o:Op) (r:Rect):lv s o r=lv t o r:=by
 unfold lv cV gE;rw [T.im,T.c]
section
variable {s t:Script} {x y:Int} {p q:Nat}
structure Ends (s t:Script) (x y:Int) (p q:Nat):Prop where
 T:Twin s t
 W:Wf s.ops
 U:Wf t.ops
 ls:p+q≤s.ops.length
 lt:p+q≤t.ops.length
 pre:∀ i,i<p→ah s.ops i=ah t.ops i
 suf:∀ k,k<q→ah s.ops (s.ops.length - q+k)=ah t.ops (t.ops.length - q+k)
 os:∀ g,(p≤g∧g<s.ops.length - q∨g ∈ bE s.ops p)→¬ zb (dr s g) x y
 ot:∀ g,(p≤g∧g<t.ops.length - q∨g ∈ bE t.ops p)→¬ zb (dr t g) x y
theorem Ends.symm (E:Ends s t x y p q):Ends t s x y p q:=⟨⟨E.T.im.symm,E.T.c.symm⟩,E.U,E.W,E.lt,E.ls,fun i h=>(E.pre i h).symm,fun k h=>(E.suf k h).symm,E.ot,E.os⟩
end
end
section
def Aq (n:Nat) (f:Nat→Rect):PV := .lst 4 n (fun a j=>(aS (f a)).getD j .any)
def rF (l junk:List Rect) (a:Nat):Rect:=(l.reverse ++ junk).getD a dz
theorem xc {p:Rect} {t junk:List Rect}:rF (p :: t) junk t.length=p:=by grind [rF]
theorem Ry {p:Rect} {t junk:List Rect}:rF (p :: t) junk=rF t (p :: junk):=by grind [rF]
theorem WX {q p:Rect} {t junk:List Rect}:rF (q :: p :: t) junk t.length=p:=by rw [Ry,xc]
theorem XW {q p:Rect} {t junk:List Rect}:rF (q :: p :: t) junk (t.length+1)=q:=xc (t:=p :: t)
theorem a4q {l:List Rect} {i:Rect} {a:Nat} {junk:List Rect} (h:a<l.length):rF (i :: l) [] a=rF l junk a:=by grind [rF]
theorem QO {l:List Rect} {x y:Rect} {a:Nat} {junk:List Rect} (h:a≠l.length):rF (x :: l) junk a=rF (y :: l) junk a:=by grind [rF]
attribute [local go_sem] jV Int.toNat_natCast lC xc WX XW
theorem pO (r:Rect):(SV.b (ag (aS r))).flat:=fun c hc=>by
 obtain ⟨x,hx,rfl⟩:=List.mem_map.1 hc;simp only [aS,List.mem_cons,List.not_mem_nil,or_false] at hx;rcases hx with rfl|rfl|rfl|rfl <;> trivial
theorem Tc {s:Script} (W:Wf s.ops):∀ i,i≤s.ops.length→(fP s i).2.length=(bE s.ops i).length+1
 | 0,_=>rfl
 | i+1,hi=>by
  have ih:=Tc W i (by omega);rcases W.kinds i (by omega) with k|k|k
  ·grind [fP,bE,ec,vd]
  ·grind [fP,bE,dv]
  grind [bE,fP,eI,vd]
theorem My {s:Script} (V:VOps s) {i:Nat} (hi:i<s.ops.length) (hk:(ah s.ops i).kind≠3):0≤(ah s.ops i).mask∧(ah s.ops i).mask≤1000000:=by
 have h:=((cu.1 (V.ok i hi)).2.2.2 hk).1;have:=V.imgs;omega
theorem wc {s:Script} (V:VOps s):∀ i,i≤s.ops.length→iB s.bits s.images.length (s.ops.drop (s.ops.length - i)) (bl (s.ops.take (s.ops.length - i)) [])
 | 0,_=>by grind [iB,bl]
 | i+1,hi=>by
  have hl:s.ops.length - (i+1)<s.ops.length:=by omega
  have e:ah s.ops (s.ops.length - (i+1))=s.ops[s.ops.length - (i+1)]:=by rw [ah,List.getD_eq_getElem?_getD,List.getElem?_eq_getElem hl];rfl
  have ih:=wc V i (by omega);rw [List.drop_eq_getElem_cons hl];refine ⟨?_, ?_⟩
  ·rw [iI _ (by omega),← e];exact V.ok _ hl
  ·have e2:s.ops.length - (i+1)+1=s.ops.length - i:=by omega
   rw [e2];rw [← e2,List.take_add_one,List.getElem?_eq_getElem hl,cG,e2] at ih;exact ih
theorem Dr {s:Script} (V:VOps s):gu s=(0,0):=by
 rw [gu,if_pos V.frame];refine zJ ?_ ?_
 ·have:=wc V _ (Nat.le_refl _);grind [iB,bl]
 ·have:=iI (ops:=s.ops) s.ops.length (Nat.le_refl _);rw [List.take_length,V.wf.fin] at this;exact this
theorem Bl (s:Script) (V:VOps s) (hs':ScriptLen s):aB Sg 154 [ag (ay s)] (fun x=>x = .tup [.c (.p (Aq s.ops.length (dr s))),I 0]):=by
 have hn:=V.cnt;have W:=V.wf;have ho:=kW s hs';rw [Dr V] at ho;refine az Tryz.func154 [.tmp 2, .tmp 3] ?_
 repeat' (first|refine aw ?_|refine an (fun K hK => ?_)|refine aa (ho) ?_|(refine aH (fun hb => ?_) (fun hb => ?_) <;> try exact ax)|(refine aq hK ?_;try clear hK K))
 ·simp at hb
 refine aK (X:=Nat × List Nat × List Rect) (fun x=>aP [(1, .b (.c (.ptr 0 0))),(2, .b (.c (.p (.val (.slice none 0 0))))),(3, .b (I 0)),(6, .b (.c (.own 1 s.ops.length))),(7, .b (.c (.own 3 (bE s.ops x.1).length))),
  (8, .b (.c (.own 2 (fP s x.1).2.length))),(28, .b (.c (.p (kU s.ops)))),(29, .b (I s.ops.length)),(30, .b (I x.1))]
  [(0, .fix ((ay s).map CV.p)),(1, .arr 35 4 s.ops.length (fun a j=>(aS ((fP s x.1).1 a)).getD j .any)),(2, .arr 35 4 ((fP s x.1).2.length+x.2.2.length) (fun a j=>(aS (rF (fP s x.1).2 x.2.2 a)).getD j .any)),
   (3, .arr 3 1 ((bE s.ops x.1).length+x.2.1.length) (fun a _=>PI (Lb (bE s.ops x.1) x.2.1 a)))] 4)
  (fun x=>x.1≤s.ops.length) (fun x=>s.ops.length - x.1) (0,[],[]) ?_ ?_ ?_
 ·omega
 ·refine ar [(1,some 1),(2,some 2),(3,none)] ?_ ?_;and_intros;all_goals try exact ak
  ·refine .inr fun a ha j hj => ?_;have hivl:j=0∨j=1∨j=2∨j=3:=by omega
   rcases hivl with rfl|rfl|rfl|rfl <;> exact fun _ _ _ h=>h
  ·refine .inr fun a ha j hj => ?_;have ea:a=0:=by omega
   subst ea;have hivl:j=0∨j=1∨j=2∨j=3:=by omega
   rcases hivl with rfl|rfl|rfl|rfl <;> exact fun _ _ _ h=>h
 ·rintro ⟨i,junk,junk2⟩ hi;dsimp only at hi ⊢;have hsl:=sO s.ops i;have hbl:=Tc W i hi;rcases Nat.lt_or_ge i s.ops.length with hlt|hge
  ·cases hh:(fP s i).2 with
   | nil=>grind
   | cons h0 hs0 =>
    have hl0:hs0.length≤4096:=by rw [hh] at hbl;simp at hbl;omega
    rcases W.kinds i hlt with hk|hk|hk
    ·have hk2:(s.ops.getD i default).kind=1:=hk;have hm:=My V hlt (by omega)
     repeat' (first|refine aj hk2 ?_|refine aw ?_|refine an (fun K hK => ?_)|refine aa (nE s (s.ops.getD i default) hs') ?_|refine aa (IA s (s.ops.getD i default) (bt s (s.ops.getD i default)) hs' hm) ?_|(refine aH (fun hb => ?_) (fun hb => ?_) <;> try exact ax)|(refine aq hK ?_;try clear hK K))
     refine fT ?_ ?_ ba ?_ (tn [h0,lv s (ah s.ops i) (bt s (ah s.ops i))] (by simp));try simp (maxSteps:=999999)(disch:=omega) only [go_sem]
     try (refine hK _ ?_;clear hK K)
     ·refine And.intro (by omega) (hK _ ?_);clear hK;repeat' (refine aC ?_)
      rw [ae];refine ao (i+1,junk,junk2) ?_ (by omega) (by omega);dsimp only;rw [ec hk,show fP s (i+1)=(upd (fP s i).1 i (lv s (ah s.ops i) (bt s (ah s.ops i))),vd (fP s i).2 (lv s (ah s.ops i) (bt s (ah s.ops i)))) from by grind [fP],hh];dsimp only [vd,List.headD,List.tail];refine ar [(1,some 1),(2,some 2),(3,some 3)] ?_ ?_;and_intros;all_goals try exact ak
      ·refine .inr fun a ha j hj => ?_;by_cases e:a=i
       ·rw [if_pos e,if_pos (by omega),e,fZ];have hivl:j=0∨j=1∨j=2∨j=3:=by omega
        rcases hivl with rfl|rfl|rfl|rfl <;> exact fun _ _ _ h=>h
       ·rw [if_neg e,jU _ _ e];exact fun _ _ _ h=>h
      ·refine .inr fun a ha j hj => ?_;by_cases e:a=hs0.length
       ·rw [if_pos e,if_pos (by omega),e,xc];have hivl:j=0∨j=1∨j=2∨j=3:=by omega
        rcases hivl with rfl|rfl|rfl|rfl <;> exact fun _ _ _ h=>h
       ·rw [if_neg e,QO (x:=fu [h0,lv s (ah s.ops i) (bt s (ah s.ops i))]) (y:=h0) e];exact fun _ _ _ h=>h
     ·simp (maxSteps:=1000000) (disch:=omega) only [go_sem,fi,fY];refine qJ (gX fun a ha j hj => ?_);have ea:a=0∨a=1:=by omega
      rcases ea with rfl|rfl
      ·have hivl:j=0∨j=1∨j=2∨j=3:=by omega
       rcases hivl with rfl|rfl|rfl|rfl <;> rfl
      ·have hivl:j=0∨j=1∨j=2∨j=3:=by omega
       rcases hivl with rfl|rfl|rfl|rfl <;> rfl
     ·exact pO _
    ·have hk2:(s.ops.getD i default).kind=2:=hk
     repeat' (first|refine aj hk2 ?_|refine aC ?_|(refine aH (fun hb => ?_) (fun hb => ?_) <;> try exact ax))
     rw [ae];refine ao (i+1,[],[]) ?_ (by omega) (by omega);dsimp only;rw [dv hk,show fP s (i+1)=((fP s i).1,dz :: (fP s i).2) from by grind [fP],hh];refine ar [(1,some 1),(2,some 8),(3,some 6)] ?_ ?_;and_intros;all_goals try exact ak
     ·refine .inr fun a ha j hj => ?_;unfold dV;by_cases h:a<hs0.length+1
      ·rw [if_pos h,a4q (l:=h0 :: hs0) (junk:=junk2) (by omega)];exact fun _ _ _ h=>h
      ·have ea:a=(h0 :: hs0).length:=by simp;omega
       rw [if_neg h,ea,xc,show (h0 :: hs0).length - (hs0.length+1)=0 by simp];have hivl:j=0∨j=1∨j=2∨j=3:=by omega
       rcases hivl with rfl|rfl|rfl|rfl <;> exact fun _ _ _ h=>h
     ·refine .inr fun a ha j hj => ?_;have h2:j=0:=by omega
      subst h2;unfold dV;by_cases h:a<(bE s.ops i).length
      ·rw [if_pos h,FH h];exact fun _ _ _ h=>h
      ·have ea:a=(bE s.ops i).length:=by omega
       rw [if_neg h,ea,lC,Nat.sub_self];exact fun _ _ _ h=>h
    ·have hk2:(s.ops.getD i default).kind=3:=hk;cases hs:bE s.ops i with
     | nil=>exact absurd hs (W.pops i hlt hk)
     | cons p t =>
      cases hs0 with
      | nil=>grind
      | cons h1 hs1 =>
      have hl1:hs1.length≤4096:=by simp at hl0;omega
      have hpi:p<i:=ej (ops:=s.ops) (by grind);have hpk:(ah s.ops p).kind=2:=iz (i:=i) (by grind);have hm:=My V (show p<s.ops.length by omega) (by omega);have htl:t.length≤4096:=by rw [hs] at hsl;simp at hsl;omega
      repeat' (first|refine aj hk2 ?_|refine aw ?_|refine an (fun K hK => ?_)|refine aa (IA s (s.ops.getD p default) h0 hs' hm) ?_|(refine aH (fun hb => ?_) (fun hb => ?_) <;> try exact ax)|(refine aq hK ?_;try clear hK K))
      refine fT ?_ ?_ ba ?_ (tn [h1,lv s (ah s.ops p) h0] (by simp));try simp (maxSteps:=999999)(disch:=omega) only [go_sem]
      try (refine hK _ ?_;clear hK K)
      ·refine And.intro (by omega) (hK _ ?_);clear hK;repeat' (refine aC ?_)
       rw [ae];refine ao (i+1,p :: junk,h0 :: junk2) ?_ (by omega) (by omega);dsimp only
       rw [eI hk,show fP s (i+1)=(upd (upd (fP s i).1 i (lv s (ah s.ops ((bE s.ops i).headD 0)) ((fP s i).2.headD dz))) ((bE s.ops i).headD 0) (lv s (ah s.ops ((bE s.ops i).headD 0)) ((fP s i).2.headD dz)),
        vd (fP s i).2.tail (lv s (ah s.ops ((bE s.ops i).headD 0)) ((fP s i).2.headD dz))) from by grind [fP],hh,hs]
       dsimp only [vd,List.headD,List.tail];refine ar [(1,some 1),(2,some 2),(3,some 3)] ?_ ?_;and_intros;all_goals try exact ak
       ·refine .inr fun a ha j hj => ?_;by_cases e:a=p
        ·rw [if_pos e,if_pos (by omega),e,fZ];have hivl:j=0∨j=1∨j=2∨j=3:=by omega
         rcases hivl with rfl|rfl|rfl|rfl <;> exact fun _ _ _ h=>h
        ·rw [if_neg e,jU _ _ e];by_cases e2:a=i
         ·rw [if_pos e2,if_pos (by omega),e2,fZ];have hivl:j=0∨j=1∨j=2∨j=3:=by omega
          rcases hivl with rfl|rfl|rfl|rfl <;> exact fun _ _ _ h=>h
         ·rw [if_neg e2,jU _ _ e2];exact fun _ _ _ h=>h
       ·refine .inr fun a ha j hj => ?_;by_cases e:a=hs1.length
        ·rw [if_pos e,if_pos (by omega),e,xc];have hivl:j=0∨j=1∨j=2∨j=3:=by omega
         rcases hivl with rfl|rfl|rfl|rfl <;> exact fun _ _ _ h=>h
        ·rw [if_neg e,Ry,QO (x:=fu [h1,lv s (ah s.ops p) h0]) (y:=h1) e];exact fun _ _ _ h=>h
       grind [Lb,Eo]
      ·simp (maxSteps:=1000000) (disch:=omega) only [go_sem,fi,fY];simp only [if_neg (show ¬ (i=p) by omega)];refine qJ (gX fun a ha j hj => ?_);have ea:a=0∨a=1:=by omega
       rcases ea with rfl|rfl
       ·have hivl:j=0∨j=1∨j=2∨j=3:=by omega
        rcases hivl with rfl|rfl|rfl|rfl <;> rfl
       ·have hivl:j=0∨j=1∨j=2∨j=3:=by omega
        rcases hivl with rfl|rfl|rfl|rfl <;> rfl
      ·exact pO _
  ·have hi2:i=s.ops.length:=by omega
   subst hi2
   repeat' (first|refine aC ?_|(refine aH (fun hb => ?_) (fun hb => ?_) <;> try exact ax))
   rfl
end
section
attribute [local go_sem] Int.toNat_natCast
theorem Up {ops:List Op} (W:Wf ops) {k:Nat} (hk:k<ops.length):k≤aE ops k:=by
 rcases W.kinds k hk with h|h|h
 ·grind [gy]
 ·grind [fO]
 grind [CM]
end
theorem tp (m:Image) (x y dx dy:Int):gm m x y dx dy=dN m (x - dx) (y - dy):=by
 unfold gm;split
 ·rename_i h;unfold dN;cases hf:aV m with
  | false=>rw [if_pos (.inl rfl)]
  | true =>
   obtain ⟨a,b,c,d⟩:=nh hf;rw [if_pos (by omega)]
 ·rfl
def dT (m:Image):Bool:=aW m m.p0 && aW m m.p1 && aW m m.p2 && aW m m.p3 && aW m m.p4 && (m.solid || decide (m.color=bG))
theorem mD {m:Image} {p:Plane} (hs:m.solid=true):aW m p=true↔((p.w=0∧p.h=0)∧p.stride=0)∧(p.s.length:Int)≤0:=by grind [aW]
theorem mF {m:Image} {p:Plane} (hs:m.solid=false):aW m p=true↔(fq p=true∧p.w=m.w)∧p.h=m.h:=by grind [aW]
theorem cE {m:Image} {p:Plane} (hp:p=m.p0∨p=m.p1∨p=m.p2∨p=m.p3∨p=m.p4) (h:¬ aW m p=true):dT m=false:=by grind [dT]
theorem QU {c:Pixel}:(c.c0 == 0 && (c.c1 == 0 && (c.c2 == 0 && true)) && (c.a == 0 && (c.f == 0 && true)))=(true && true && true && true && true && (false || decide (c=bG))):=by
 obtain ⟨c0,c1,c2,a,f⟩:=c;grind [bG,Pixel.mk.injEq]
theorem sR (m:Image):aB Sg 91 [ag (aF m)] (fun r=>r = .b (B (dT m))):=by
 obtain ⟨w,h,solid,color,p0,p1,p2,p3,p4⟩:=m;have htt:True:=trivial;have v0:=jx p0;have v1:=jx p1;have v2:=jx p2;have v3:=jx p3;have v4:=jx p4;cases solid
 ·refine az Tryz.func91 [.tmp 2] ?_;repeat' (refine aC ?_)
  refine aK (X:=Int) (fun k=>aP [(1, .b (.c (.ptr 0 0))),(3, .b (I k))] [(0, .fix ((aF ⟨w,h,false,color,p0,p1,p2,p3,p4⟩).map CV.p))] 1)
   (fun k=>0≤k∧k≤5∧(0<k→aW ⟨w,h,false,color,p0,p1,p2,p3,p4⟩ p0=true)∧(1<k→aW ⟨w,h,false,color,p0,p1,p2,p3,p4⟩ p1=true)∧(2<k→aW ⟨w,h,false,color,p0,p1,p2,p3,p4⟩ p2=true)∧(3<k→aW ⟨w,h,false,color,p0,p1,p2,p3,p4⟩ p3=true)∧(4<k→aW ⟨w,h,false,color,p0,p1,p2,p3,p4⟩ p4=true)) (fun k=>(5 - k).toNat) 0 ?_ ?_ ?_
  ·omega
  ·refine ar [(1,some 1)] ?_ ?_;and_intros;all_goals try exact ak
  ·rintro k ⟨k0,k1,i0,i1,i2,i3,i4⟩;have hkv:k=0∨k=1∨k=2∨k=3∨k=4∨k=5:=by omega
   rcases hkv with rfl|rfl|rfl|rfl|rfl|rfl
   ·repeat' (first|refine aj htt ?_|refine aw ?_|refine an (fun K hK => ?_)|refine aA (fun hg=>v0) ?_|(refine aH (fun hb => ?_) (fun hb => ?_) <;> try exact ax)|(refine aq hK ?_;try clear hK K))
    ·refine congrArg (fun v=>SV.b (B v)) (Eq.symm ?_);refine cE (p:=p0) (by simp) fun q => ?_;grind [mF]
    ·rw [ae];refine ao 1 ?_ ⟨by omega,by omega,fun _=>(mF rfl).2 (hb trivial),fun q=>absurd q (by omega),fun q=>absurd q (by omega),fun q=>absurd q (by omega),fun q=>absurd q (by omega)⟩ (by decide);refine ar [(1,some 1)] ?_ ?_;and_intros;all_goals try exact ak
   ·repeat' (first|refine aj htt ?_|refine aw ?_|refine an (fun K hK => ?_)|refine aA (fun hg=>v1) ?_|(refine aH (fun hb => ?_) (fun hb => ?_) <;> try exact ax)|(refine aq hK ?_;try clear hK K))
    ·refine congrArg (fun v=>SV.b (B v)) (Eq.symm ?_);refine cE (p:=p1) (by simp) fun q => ?_;grind [mF]
    ·rw [ae];refine ao 2 ?_ ⟨by omega,by omega,fun _=>i0 (by omega),fun _=>(mF rfl).2 (hb trivial),fun q=>absurd q (by omega),fun q=>absurd q (by omega),fun q=>absurd q (by omega)⟩ (by decide);refine ar [(1,some 1)] ?_ ?_;and_intros;all_goals try exact ak
   ·repeat' (first|refine aj htt ?_|refine aw ?_|refine an (fun K hK => ?_)|refine aA (fun hg=>v2) ?_|(refine aH (fun hb => ?_) (fun hb => ?_) <;> try exact ax)|(refine aq hK ?_;try clear hK K))
    ·refine congrArg (fun v=>SV.b (B v)) (Eq.symm ?_);refine cE (p:=p2) (by simp) fun q => ?_;grind [mF]
    ·rw [ae];refine ao 3 ?_ ⟨by omega,by omega,fun _=>i0 (by omega),fun _=>i1 (by omega),fun _=>(mF rfl).2 (hb trivial),fun q=>absurd q (by omega),fun q=>absurd q (by omega)⟩ (by decide);refine ar [(1,some 1)] ?_ ?_;and_intros;all_goals try exact ak
   ·repeat' (first|refine aj htt ?_|refine aw ?_|refine an (fun K hK => ?_)|refine aA (fun hg=>v3) ?_|(refine aH (fun hb => ?_) (fun hb => ?_) <;> try exact ax)|(refine aq hK ?_;try clear hK K))
    ·refine congrArg (fun v=>SV.b (B v)) (Eq.symm ?_);refine cE (p:=p3) (by simp) fun q => ?_;grind [mF]
    ·rw [ae];refine ao 4 ?_ ⟨by omega,by omega,fun _=>i0 (by omega),fun _=>i1 (by omega),fun _=>i2 (by omega),fun _=>(mF rfl).2 (hb trivial),fun q=>absurd q (by omega)⟩ (by decide);refine ar [(1,some 1)] ?_ ?_;and_intros;all_goals try exact ak
   ·repeat' (first|refine aj htt ?_|refine aw ?_|refine an (fun K hK => ?_)|refine aA (fun hg=>v4) ?_|(refine aH (fun hb => ?_) (fun hb => ?_) <;> try exact ax)|(refine aq hK ?_;try clear hK K))
    ·refine congrArg (fun v=>SV.b (B v)) (Eq.symm ?_);refine cE (p:=p4) (by simp) fun q => ?_;grind [mF]
    ·rw [ae];refine ao 5 ?_ ⟨by omega,by omega,fun _=>i0 (by omega),fun _=>i1 (by omega),fun _=>i2 (by omega),fun _=>i3 (by omega),fun _=>(mF rfl).2 (hb trivial)⟩ (by decide);refine ar [(1,some 1)] ?_ ?_;and_intros;all_goals try exact ak
   ·repeat' (first|refine aj htt ?_|refine aC ?_|(refine aq hK ?_;try clear hK K))
    refine congrArg (fun v=>SV.b (B v)) ?_;grind [dT,QU]
 ·refine az Tryz.func91 [.tmp 2] ?_;repeat' (refine aC ?_)
  refine aK (X:=Int) (fun k=>aP [(1, .b (.c (.ptr 0 0))),(3, .b (I k))] [(0, .fix ((aF ⟨w,h,true,color,p0,p1,p2,p3,p4⟩).map CV.p))] 1)
   (fun k=>0≤k∧k≤5∧(0<k→aW ⟨w,h,true,color,p0,p1,p2,p3,p4⟩ p0=true)∧(1<k→aW ⟨w,h,true,color,p0,p1,p2,p3,p4⟩ p1=true)∧(2<k→aW ⟨w,h,true,color,p0,p1,p2,p3,p4⟩ p2=true)∧(3<k→aW ⟨w,h,true,color,p0,p1,p2,p3,p4⟩ p3=true)∧(4<k→aW ⟨w,h,true,color,p0,p1,p2,p3,p4⟩ p4=true)) (fun k=>(5 - k).toNat) 0 ?_ ?_ ?_
  ·omega
  ·refine ar [(1,some 1)] ?_ ?_;and_intros;all_goals try exact ak
  ·rintro k ⟨k0,k1,i0,i1,i2,i3,i4⟩;have hkv:k=0∨k=1∨k=2∨k=3∨k=4∨k=5:=by omega
   rcases hkv with rfl|rfl|rfl|rfl|rfl|rfl
   ·repeat' (first|refine aj htt ?_|refine aw ?_|refine an (fun K hK => ?_)|refine aA (fun hg=>v0) ?_|(refine aH (fun hb => ?_) (fun hb => ?_) <;> try exact ax)|(refine aq hK ?_;try clear hK K))
    ·refine congrArg (fun v=>SV.b (B v)) (Eq.symm ?_);refine cE (p:=p0) (by simp) fun q => ?_;grind [mD]
    ·rw [ae];refine ao 1 ?_ ⟨by omega,by omega,fun _=>(mD rfl).2 hb,fun q=>absurd q (by omega),fun q=>absurd q (by omega),fun q=>absurd q (by omega),fun q=>absurd q (by omega)⟩ (by decide);refine ar [(1,some 1)] ?_ ?_;and_intros;all_goals try exact ak
   ·repeat' (first|refine aj htt ?_|refine aw ?_|refine an (fun K hK => ?_)|refine aA (fun hg=>v1) ?_|(refine aH (fun hb => ?_) (fun hb => ?_) <;> try exact ax)|(refine aq hK ?_;try clear hK K))
    ·refine congrArg (fun v=>SV.b (B v)) (Eq.symm ?_);refine cE (p:=p1) (by simp) fun q => ?_;grind [mD]
    ·rw [ae];refine ao 2 ?_ ⟨by omega,by omega,fun _=>i0 (by omega),fun _=>(mD rfl).2 hb,fun q=>absurd q (by omega),fun q=>absurd q (by omega),fun q=>absurd q (by omega)⟩ (by decide);refine ar [(1,some 1)] ?_ ?_;and_intros;all_goals try exact ak
   ·repeat' (first|refine aj htt ?_|refine aw ?_|refine an (fun K hK => ?_)|refine aA (fun hg=>v2) ?_|(refine aH (fun hb => ?_) (fun hb => ?_) <;> try exact ax)|(refine aq hK ?_;try clear hK K))
    ·refine congrArg (fun v=>SV.b (B v)) (Eq.symm ?_);refine cE (p:=p2) (by simp) fun q => ?_;grind [mD]
    ·rw [ae];refine ao 3 ?_ ⟨by omega,by omega,fun _=>i0 (by omega),fun _=>i1 (by omega),fun _=>(mD rfl).2 hb,fun q=>absurd q (by omega),fun q=>absurd q (by omega)⟩ (by decide);refine ar [(1,some 1)] ?_ ?_;and_intros;all_goals try exact ak
   ·repeat' (first|refine aj htt ?_|refine aw ?_|refine an (fun K hK => ?_)|refine aA (fun hg=>v3) ?_|(refine aH (fun hb => ?_) (fun hb => ?_) <;> try exact ax)|(refine aq hK ?_;try clear hK K))
    ·refine congrArg (fun v=>SV.b (B v)) (Eq.symm ?_);refine cE (p:=p3) (by simp) fun q => ?_;grind [mD]
    ·rw [ae];refine ao 4 ?_ ⟨by omega,by omega,fun _=>i0 (by omega),fun _=>i1 (by omega),fun _=>i2 (by omega),fun _=>(mD rfl).2 hb,fun q=>absurd q (by omega)⟩ (by decide);refine ar [(1,some 1)] ?_ ?_;and_intros;all_goals try exact ak
   ·repeat' (first|refine aj htt ?_|refine aw ?_|refine an (fun K hK => ?_)|refine aA (fun hg=>v4) ?_|(refine aH (fun hb => ?_) (fun hb => ?_) <;> try exact ax)|(refine aq hK ?_;try clear hK K))
    ·refine congrArg (fun v=>SV.b (B v)) (Eq.symm ?_);refine cE (p:=p4) (by simp) fun q => ?_;grind [mD]
    ·rw [ae];refine ao 5 ?_ ⟨by omega,by omega,fun _=>i0 (by omega),fun _=>i1 (by omega),fun _=>i2 (by omega),fun _=>i3 (by omega),fun _=>(mD rfl).2 hb⟩ (by decide);refine ar [(1,some 1)] ?_ ?_;and_intros;all_goals try exact ak
   ·repeat' (first|refine aj htt ?_|refine aC ?_|(refine aq hK ?_;try clear hK K))
    simp_all [dT,B]
theorem mM (m:Image):aB Sg 48 [ag (aF m)] (fun r=>r = .b (B (aV m))):=by
 have h1:=jb m.w m.h;have h2:=sR m;rw [show aV m=(dD m.w m.h && dT m) from rfl];refine az Tryz.func48 [.tmp 2] ?_;repeat' (first|with_reducible exact cz|refine an (fun K hK => ?_)|refine aa (h1) ?_|refine aA (fun hg=>h2) ?_|refine aw ?_|(refine aq hK ?_;try clear hK K))
theorem Ib (m:Image) (x y:Int):aB Sg 27 [ag (aF m),I x,I y] (fun r=>r = .b (ag (aU (dN m x y)))):=JK m x y (mM m)
end Go.Proofs.YtdjmpacladhijaaGreatDoor
