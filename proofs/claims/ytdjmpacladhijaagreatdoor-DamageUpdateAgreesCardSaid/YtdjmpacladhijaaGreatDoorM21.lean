/- Part of the proof: R1, VC, VD, WO, LP. -/
import Derived.Test.YtdjmpacladhijaaGreatDoorM20
set_option linter.unusedSimpArgs false
set_option linter.unusedVariables false
set_option maxHeartbeats 8000000
set_option maxRecDepth 16000
namespace Go.Proofs.YtdjmpacladhijaaGreatDoor
open Go Go.SL
open Go.RowKit (wrap64)
section
structure Fr where
 op:Op
 acc:Nat→Acc
 back:Nat→Pixel
def Fr.col (t:Fr) (j:Nat):Lv:=⟨t.op,t.acc j,t.back j⟩
def Dc:Fr:=⟨kD,fun _=>kz,fun _=>bG⟩
def Gn (m:Int) (o:Op) (p:Nat→Pixel) (t:Fr):Fr:=⟨t.op,fun j=>bQ t.op.knockout o.operator o.mode m (p j) (t.acc j) (t.back j),t.back⟩
def mC (o:Op) (t:Fr):Fr:=⟨o,fun j=>(gU o (t.col j)).acc,fun j=>(gU o (t.col j)).back⟩
structure RS where
 st:List Fr
 junk:List Fr
def RS.rows (q:RS):List Fr:=q.st.reverse ++ q.junk
def qY (m:Int) (z:Nat→Op→Pixel × Int) (q:RS) (o:Op):RS :=
 match q.st with
 | []=>q
 | t :: r =>
  if o.kind=1 then ⟨Gn m o (fun j=>aL m o (z j o).1 (z j o).2) t :: r,q.junk⟩
  else if o.kind=2 then ⟨mC o t :: t :: r,[]⟩
  else match r with
   | []=>q
   | u :: r=>⟨Gn m t.op (fun j=>aL m t.op (bU (t.acc j) (t.back j) m) (z j t.op).2) u :: r,t :: q.junk⟩
theorem TZ {m:Int} {z:Nat→Op→Pixel × Int} {q:RS} {o:Op} (j:Nat):(qY m z q o).st.map (fun t=>t.col j)=iA m (z j) (q.st.map fun t=>t.col j) o:=by
 obtain ⟨st,jk⟩:=q;cases st with
 | nil=>rfl
 | cons t r =>
  by_cases h1:o.kind=1
  ·simp only [qY,h1,if_true,List.map_cons,iA];rfl
  by_cases h2:o.kind=2
  ·simp only [qY,h2,if_true,List.map_cons,iA];rfl
  cases r with
  | nil=>grind [qY,iA]
  | cons u r=>simp only [qY,if_neg h1,if_neg h2,List.map_cons,iA];rfl
def jr (s:Script) (m:Int) (r:Rect) (z:Nat→Op→Pixel × Int):Nat→RS
 | 0=>⟨[Dc],[]⟩
 | i+1=>if lW s r i=true then qY m z (jr s m r z i) (ah s.ops i) else jr s m r z i
section
variable {s:Script} {m:Int} {r:Rect} {z:Nat→Op→Pixel × Int}
theorem GG {i:Nat}:∀ k,i≤k→(∀ j,i≤j→j<k→lW s r j=false)→jr s m r z k=jr s m r z i
 | 0,h,_=>by grind
 | k+1,h,hn=>by
  by_cases e:i=k+1
  ·rw [e]
  ·rw [jr,if_neg (by grind),GG k (by omega) fun j h1 h2=>hn j h1 (by omega)]
def Reach (s:Script) (r:Rect) (i:Nat):Prop:=∀ g ∈ bE s.ops i,kn s r g=true
theorem DC (W:Wf s.ops) {i:Nat} (hi:i<s.ops.length) (hk:(ah s.ops i).kind=3) (h:Reach s r i):lW s r i=true:=by
 rw [vn h];unfold kn;rw [VC W hi hk];cases hs:bE s.ops i with
 | nil=>exact absurd hs (W.pops i hi hk)
 | cons p t=>exact h p (by grind)
theorem AJ (W : Wf s.ops) {i : Nat} (hi : i < s.ops.length) (hk : (ah s.ops i).kind ≠ 3) (h : Reach s r i) (hn : kn s r i = false) :
  i≤aE s.ops i∧aE s.ops i<s.ops.length∧Reach s r (aE s.ops i+1)∧jr s m r z (aE s.ops i+1)=jr s m r z i:=by
 have he:=Up W hi;have hl:=cB W hi;have ha:lW s r i=false:=by rw [vn h];exact hn
 rcases W.kinds i hi with k|k|k
 ·grind [Reach,jr,gy,bE,ec]
 ·refine ⟨he,hl, ?_,GG _ (by omega) fun j h1 h2 => ?_⟩
  ·obtain ⟨j,t,q1,q2,q3,q4⟩:=wN W (s.ops.length - (i+1)) (i+1) (by omega) (by rw [dv k];exact List.mem_cons_self ..);have hs2:=lH (l:=[]) q4;grind [Reach,lN,bE,eI]
  grind [Sh]
 omega
theorem qj (W:Wf s.ops) {i:Nat} (hi:i<s.ops.length) (h:Reach s r i) (ha:lW s r i=true):Reach s r (i+1) :=
 RR W hi h fun _=>by rw [vn h] at ha;exact ha
theorem Hk {i:Nat} (ha:lW s r i=true):jr s m r z (i+1)=qY m z (jr s m r z i) (ah s.ops i):=by grind [jr]
end
section
variable {s:Script} {m:Int} {r:Rect}
def xJ (s:Script) (m x y:Int) (n:Nat) (q:RS) (i:Nat):Prop:=∀ j,j<n→q.st.map (fun t=>t.col j)=jP m (bg s (x+j) y) s.ops i
def zR (s:Script) (x y:Int):Nat→Op→Pixel × Int:=fun j=>bg s (x+j) y
theorem OA {x y:Int} {n:Nat} {z:Nat→Op→Pixel × Int}:xJ s m x y n (jr s m r z 0) 0:=fun j _=>by
 unfold jP ep;rw [List.take_zero,List.foldl_nil];rfl
theorem DU {x y:Int} {n i:Nat} (hi:i<s.ops.length) (ha:lW s r i=true) (h:xJ s m x y n (jr s m r (zR s x y) i) i):xJ s m x y n (jr s m r (zR s x y) (i+1)) (i+1):=fun j hj=>by rw [Hk ha,TZ,h j hj,lx hi];rfl
theorem Ov {x y : Int} {n i : Nat} (C : ∀ j : Nat, j < n → Pt s m (x + j) y) (hr : aM r = false) (hin : ∀ j : Nat, j < n → jo r (x + j) y) (W : Wf s.ops) (hi : i < s.ops.length) (hk : (ah s.ops i).kind ≠ 3) (hR : Reach s r i) (hn : kn s r i = false)
  (h:xJ s m x y n (jr s m r (zR s x y) i) i):xJ s m x y n (jr s m r (zR s x y) (aE s.ops i+1)) (aE s.ops i+1):=fun j hj=>by
 rw [(AJ W hi hk hR hn).2.2.2,h j hj,Zi (C j hj) hr (hin j hj) hi hk hn]
theorem zl {x y : Int} {n i : Nat} (hn : 0 < n) (C : ∀ j : Nat, j < n → Pt s m (x + j) y) (hi : i ≤ s.ops.length) {q : RS} (h : xJ s m x y n q i) :
  q.st.length=(bE s.ops i).length+1∧q.st.map (fun t=>t.op)=(bE s.ops i).map (ah s.ops) ++ [kD]:=by
 have h0:=h 0 hn;have ha:=oK (C 0 hn) i hi;have e:q.st.map (fun t=>t.op)=(bE s.ops i).map (ah s.ops) ++ [kD]:=by
  rw [← ha.o,← h0,List.map_map];exact List.map_congr_left fun t _=>rfl
 refine ⟨?_,e⟩;have:=congrArg List.length e;grind
theorem Ln {x y:Int} {n i:Nat} (C:∀ j:Nat,j<n→Pt s m (x+j) y) (hi:i≤s.ops.length) {q:RS} (h:xJ s m x y n q i) {j:Nat} (hj:j<n):At s m i (q.st.map fun t=>t.col j):=by
 rw [h j hj];grind [oK]
theorem Rm {x y : Int} {n : Nat} (hn : 0 < n) (C : ∀ j : Nat, j < n → Pt s m (x + j) y) {q : RS} (h : xJ s m x y n q s.ops.length) :
  ∃ t,q.st=[t]∧∀ j:Nat,j<n→AccV (t.acc j) (t.back j) m∧bU (t.acc j) (t.back j) m=ch s (x+j) y:=by
 have hl:=(zl hn C (Nat.le_refl _) h).1;rw [(C 0 hn).V.wf.fin] at hl;obtain ⟨st,jk⟩:=q
 match st,hl with
 | [t],_ =>
  refine ⟨t,rfl,fun j hj => ?_⟩;have h1:=h j hj;have hv:=(Ln C (Nat.le_refl _) h hj).v.head.v;refine ⟨hv, ?_⟩;have h1:[t.col j]=jP m (bg s (x+j) y) s.ops s.ops.length:=h1;unfold ch;rw [(C j hj).mx];unfold jP at h1;rw [List.take_length] at h1;rw [← h1];rfl
end
end
section
attribute [local go_sem] HM Ks Int.toNat_natCast
def WS (s:Script) (q:Nat):Pixel:=ch s (s.canvas.x0+((q % (s.canvas.x1 - s.canvas.x0).toNat:Nat):Int)) (s.canvas.y0+((q / (s.canvas.x1 - s.canvas.x0).toNat:Nat):Int))
def jj (s:Script) (n:Nat):List Pixel:=(List.range n).map (WS s)
theorem uO {s:Script} {n:Nat}:(jj s n).length=n:=by simp [jj]
def cU (s:Script):Image:=bR (s.canvas.x1 - s.canvas.x0) (s.canvas.y1 - s.canvas.y0) (jj s ((s.canvas.x1 - s.canvas.x0) * (s.canvas.y1 - s.canvas.y0)).toNat)
end
section
attribute [local go_sem] Int.toNat_natCast
def VX (r:Rect) (x y:Int):Bool := !aM r && decide (r.x0≤x) && decide (x<r.x1) && decide (r.y0≤y) && decide (y<r.y1)
theorem YC {r:Rect} {x y:Int}:VX r x y=true↔zb r x y:=by
 unfold VX zb jo;simp only [Bool.and_eq_true,Bool.not_eq_true',decide_eq_true_eq,and_assoc]
end
theorem CL {w h:Int} (hw:1≤w) (hh:1≤h):w≤16777216 / h↔w≤16777216∧h≤16777216 / w:=by
 rw [Int.le_ediv_iff_mul_le (by omega),Int.le_ediv_iff_mul_le (by omega),Int.mul_comm h w];refine ⟨fun q=>⟨?_,q⟩,fun q=>q.2⟩;have:w * 1≤w * h:=Int.mul_le_mul_of_nonneg_left hh (by omega);omega
theorem HE (w h:Int):((decide (w≥1) && decide (h≥1)) && decide (w≤IntKind.i64.wrap (16777216 / h)))=dD w h:=by
 rw [Bool.eq_iff_iff];simp only [dD,Bool.and_eq_true,decide_eq_true_eq,ge_iff_le];constructor
 ·rintro ⟨⟨h1,h2⟩,h3⟩;have a1:0≤16777216 / h:=Int.ediv_nonneg (by omega) (by omega);have a2:16777216 / h≤16777216:=Int.ediv_le_self _ (by omega);grind [CL,eK]
 ·rintro ⟨h1,h2,h3⟩;have a1:0≤16777216 / h:=Int.ediv_nonneg (by omega) (by omega);have a2:16777216 / h≤16777216:=Int.ediv_le_self _ (by omega);grind [eK,CL]
theorem BU (w h:Int):aB Sg 86 [I w,I h] (fun x=>x = .b (B (dD w h))):=by
 rw [← HE];refine az Tryz.func86 [.tmp 4] ?_;repeat' (first|with_reducible exact cz|refine aC ?_)
theorem Sc (w h:Int):aB Sg 175 [I w,I h] (fun x=>x = .b (B (dD w h))):=by
 rw [← HE];refine az Tryz.func175 [.tmp 4] ?_;repeat' (first|with_reducible exact cz|refine aC ?_)
theorem ZN (p:Plane):aB Sg 134 [ag (nt p)] (fun x=>x = .b (B (decide (p.w=0) && decide (p.h=0) && decide (p.stride=0) && decide (p.s.length=0)))):=by
 refine az Tryz.func134 [.tmp 2] ?_;repeat' (refine aC ?_)
 grind [ga]
theorem Wx (w h s:Int):aB Sg 176 [I w,I h,I s] (fun x=>x = .b (I (IntKind.i64.wrap (IntKind.i64.wrap (IntKind.i64.wrap (h - 1) * s)+w)))):=by
 have ht:True:=trivial;refine az Tryz.func176 [.tmp 6] ?_;repeat' (first|with_reducible exact cz|refine aC ?_)
theorem pn (p:Plane):aB Sg 135 [ag (nt p)] (fun r=>r = .b (B (fq p))):=by
 have hf:=Sc p.w p.h;have hl:=Wx p.w p.h p.stride;have key:(dD p.w p.h && decide (p.stride≥p.w) && decide (p.stride≤16777216) && decide ((p.s.length:Int)≥IntKind.i64.wrap (IntKind.i64.wrap (IntKind.i64.wrap (p.h - 1) * p.stride)+p.w)))=fq p:=by
  unfold fq;by_cases h:dD p.w p.h=true∧p.w≤p.stride∧p.stride≤16777216
  ·obtain ⟨h1,h2,h3⟩:=h;obtain ⟨b1,b2,b3,b4,b5,b6⟩:=fU h1;have e1:0≤(p.h - 1) * p.stride∧(p.h - 1) * p.stride≤16777216 * 16777216:=⟨au (by omega) (by omega),aD (by omega) (by omega) (by omega) (by omega)⟩
   grind [eK]
  ·grind
 rw [← key];refine az Tryz.func135 [.tmp 2] ?_;repeat' (first|with_reducible exact cz|refine an (fun K hK => ?_)|refine aa (hf) ?_|refine aA (fun hg=>hl) ?_|refine aw ?_|(refine aq hK ?_;try clear hK K))
def nw (p:Plane):Bool:=decide (p.w=0) && decide (p.h=0) && decide (p.stride=0) && decide (p.s.length=0)
theorem rM (p:Plane):aB Sg 134 [ag (nt p)] (fun x=>x = .b (B (nw p))):=ZN p
theorem vG {p:Plane} (h:((p.w=0∧p.h=0)∧p.stride=0)∧(p.s.length:Int)≤0):nw p=true:=by grind [nw]
theorem wv {m:Image} {p:Plane} (hs:m.solid=true) (h:¬ aW m p=true):nw p=false:=by grind [nw,mD]
theorem pf {m:Image} {p:Plane} (hs:m.solid=false) (h:¬ aW m p=true):(!fq p || (p.w != m.w) || (p.h != m.h))=true:=by grind [mF]
theorem pX (m:Image):aB Sg 82 [ag (aF m)] (fun r=>r = .b (B (aV m))):=by
 obtain ⟨w,h,solid,color,p0,p1,p2,p3,p4⟩:=m;have ht:True:=trivial;have hsz:=BU w h;have e0:aV ⟨w,h,solid,color,p0,p1,p2,p3,p4⟩=(dD w h && dT ⟨w,h,solid,color,p0,p1,p2,p3,p4⟩):=rfl;rw [e0];cases hF:dD w h
 ·rw [hF] at hsz;refine az Tryz.func82 [.tmp 2] ?_;repeat' (first|refine aj ht ?_|refine aw ?_|refine an (fun K hK => ?_)|refine aa (hsz) ?_|(refine aq hK ?_;try clear hK K))
  rfl
 rw [Bool.true_and];rw [hF] at hsz;have v0:=pn p0;have v1:=pn p1;have v2:=pn p2;have v3:=pn p3;have v4:=pn p4;have z0:=rM p0;have z1:=rM p1;have z2:=rM p2;have z3:=rM p3;have z4:=rM p4;cases solid
 ·skip
  refine az Tryz.func82 [.tmp 2] ?_
  repeat' (first|refine aw ?_|refine an (fun K hK => ?_)|refine aa (hsz) ?_|(refine aH (fun hb => ?_) (fun hb => ?_) <;> try exact ax)|(refine aq hK ?_;try clear hK K))
  ·refine congrArg (fun v=>SV.b (B v)) (Eq.symm ?_);grind [bG,dT]
  have hc:color=bG:=by
   obtain ⟨c0,c1,c2,a,f⟩:=color;obtain ⟨⟨q0,q1,q2,_⟩,q3,q4,_⟩:=hb.2 trivial;simp only [bG,Pixel.mk.injEq];exact ⟨q0,q1,q2,q3,q4⟩
  subst hc;clear hb;refine aK (X:=Int) (fun k=>aP [(1, .b (.c (.ptr 0 0))),(23, .b (ag [PI p0.w,PI p0.h,PI p0.stride,nP p0.s,PI p1.w,PI p1.h,PI p1.stride,nP p1.s,PI p2.w,PI p2.h,PI p2.stride,nP p2.s,PI p3.w,PI p3.h,PI p3.stride,nP p3.s,PI p4.w,PI p4.h,PI p4.stride,nP p4.s])),(24, .b (I k))] [(0, .fix ((aF ⟨w,h,false,bG,p0,p1,p2,p3,p4⟩).map CV.p))] 1)
   (fun k=>0≤k∧k≤5∧(0<k→aW ⟨w,h,false,bG,p0,p1,p2,p3,p4⟩ p0=true)∧(1<k→aW ⟨w,h,false,bG,p0,p1,p2,p3,p4⟩ p1=true)∧(2<k→aW ⟨w,h,false,bG,p0,p1,p2,p3,p4⟩ p2=true)∧(3<k→aW ⟨w,h,false,bG,p0,p1,p2,p3,p4⟩ p3=true)∧(4<k→aW ⟨w,h,false,bG,p0,p1,p2,p3,p4⟩ p4=true)) (fun k=>(5 - k).toNat) 0 ?_ ?_ ?_
  ·omega
  ·refine ar [(1,some 1)] ?_ ?_;and_intros;all_goals try exact ak
  ·rintro k ⟨k0,k1,i0,i1,i2,i3,i4⟩;have hkv:k=0∨k=1∨k=2∨k=3∨k=4∨k=5:=by omega
   rcases hkv with rfl|rfl|rfl|rfl|rfl|rfl
   ·by_cases hp:aW ⟨w,h,false,bG,p0,p1,p2,p3,p4⟩ p0=true
    ·have hq:=(mF rfl).1 hp;obtain ⟨g1,g2,g3⟩:fq p0=true∧(p0.w != w)=false∧(p0.h != h)=false:=⟨hq.1.1,by grind,by grind⟩
     repeat' (first|refine aj (And.intro ht (And.intro g1 (And.intro g2 g3))) ?_|refine aw ?_|refine an (fun K hK => ?_)|refine aA (fun hg=>v0) ?_|refine aA (fun hg=>z0) ?_|(refine aq hK ?_;try clear hK K))
     rw [ae];refine ao 1 ?_ ⟨by omega,by omega,fun _=>hp,fun q=>absurd q (by omega),fun q=>absurd q (by omega),fun q=>absurd q (by omega),fun q=>absurd q (by omega)⟩ (by decide);refine ar [(1,some 1)] ?_ ?_;and_intros;all_goals try exact ak
    ·have g1:(!fq p0 || (p0.w != w) || (p0.h != h))=true:=pf (m:=⟨w,h,false,bG,p0,p1,p2,p3,p4⟩) rfl hp;repeat' (first|refine aj (And.intro ht g1) ?_|refine aw ?_|refine an (fun K hK => ?_)|refine aA (fun hg=>v0) ?_|refine aA (fun hg=>z0) ?_|(refine aq hK ?_;try clear hK K))
     simp_all [dT,bG,B,cE]
   ·by_cases hp:aW ⟨w,h,false,bG,p0,p1,p2,p3,p4⟩ p1=true
    ·have hq:=(mF rfl).1 hp;obtain ⟨g1,g2,g3⟩:fq p1=true∧(p1.w != w)=false∧(p1.h != h)=false:=⟨hq.1.1,by grind,by grind⟩
     repeat' (first|refine aj (And.intro ht (And.intro g1 (And.intro g2 g3))) ?_|refine aw ?_|refine an (fun K hK => ?_)|refine aA (fun hg=>v1) ?_|refine aA (fun hg=>z1) ?_|(refine aq hK ?_;try clear hK K))
     rw [ae];refine ao 2 ?_ ⟨by omega,by omega,fun _=>i0 (by omega),fun _=>hp,fun q=>absurd q (by omega),fun q=>absurd q (by omega),fun q=>absurd q (by omega)⟩ (by decide);refine ar [(1,some 1)] ?_ ?_;and_intros;all_goals try exact ak
    ·have g1:(!fq p1 || (p1.w != w) || (p1.h != h))=true:=pf (m:=⟨w,h,false,bG,p0,p1,p2,p3,p4⟩) rfl hp;repeat' (first|refine aj (And.intro ht g1) ?_|refine aw ?_|refine an (fun K hK => ?_)|refine aA (fun hg=>v1) ?_|refine aA (fun hg=>z1) ?_|(refine aq hK ?_;try clear hK K))
     simp_all [dT,bG,B,cE]
   ·by_cases hp:aW ⟨w,h,false,bG,p0,p1,p2,p3,p4⟩ p2=true
    ·have hq:=(mF rfl).1 hp;obtain ⟨g1,g2,g3⟩:fq p2=true∧(p2.w != w)=false∧(p2.h != h)=false:=⟨hq.1.1,by grind,by grind⟩
     repeat' (first|refine aj (And.intro ht (And.intro g1 (And.intro g2 g3))) ?_|refine aw ?_|refine an (fun K hK => ?_)|refine aA (fun hg=>v2) ?_|refine aA (fun hg=>z2) ?_|(refine aq hK ?_;try clear hK K))
     rw [ae];refine ao 3 ?_ ⟨by omega,by omega,fun _=>i0 (by omega),fun _=>i1 (by omega),fun _=>hp,fun q=>absurd q (by omega),fun q=>absurd q (by omega)⟩ (by decide);refine ar [(1,some 1)] ?_ ?_;and_intros;all_goals try exact ak
    ·have g1:(!fq p2 || (p2.w != w) || (p2.h != h))=true:=pf (m:=⟨w,h,false,bG,p0,p1,p2,p3,p4⟩) rfl hp;repeat' (first|refine aj (And.intro ht g1) ?_|refine aw ?_|refine an (fun K hK => ?_)|refine aA (fun hg=>v2) ?_|refine aA (fun hg=>z2) ?_|(refine aq hK ?_;try clear hK K))
     simp_all [dT,bG,B,cE]
   ·by_cases hp:aW ⟨w,h,false,bG,p0,p1,p2,p3,p4⟩ p3=true
    ·have hq:=(mF rfl).1 hp;obtain ⟨g1,g2,g3⟩:fq p3=true∧(p3.w != w)=false∧(p3.h != h)=false:=⟨hq.1.1,by grind,by grind⟩
     repeat' (first|refine aj (And.intro ht (And.intro g1 (And.intro g2 g3))) ?_|refine aw ?_|refine an (fun K hK => ?_)|refine aA (fun hg=>v3) ?_|refine aA (fun hg=>z3) ?_|(refine aq hK ?_;try clear hK K))
     rw [ae];refine ao 4 ?_ ⟨by omega,by omega,fun _=>i0 (by omega),fun _=>i1 (by omega),fun _=>i2 (by omega),fun _=>hp,fun q=>absurd q (by omega)⟩ (by decide);refine ar [(1,some 1)] ?_ ?_;and_intros;all_goals try exact ak
    ·have g1:(!fq p3 || (p3.w != w) || (p3.h != h))=true:=pf (m:=⟨w,h,false,bG,p0,p1,p2,p3,p4⟩) rfl hp;repeat' (first|refine aj (And.intro ht g1) ?_|refine aw ?_|refine an (fun K hK => ?_)|refine aA (fun hg=>v3) ?_|refine aA (fun hg=>z3) ?_|(refine aq hK ?_;try clear hK K))
     simp_all [dT,bG,B,cE]
   ·by_cases hp:aW ⟨w,h,false,bG,p0,p1,p2,p3,p4⟩ p4=true
    ·have hq:=(mF rfl).1 hp;obtain ⟨g1,g2,g3⟩:fq p4=true∧(p4.w != w)=false∧(p4.h != h)=false:=⟨hq.1.1,by grind,by grind⟩
     repeat' (first|refine aj (And.intro ht (And.intro g1 (And.intro g2 g3))) ?_|refine aw ?_|refine an (fun K hK => ?_)|refine aA (fun hg=>v4) ?_|refine aA (fun hg=>z4) ?_|(refine aq hK ?_;try clear hK K))
     rw [ae];refine ao 5 ?_ ⟨by omega,by omega,fun _=>i0 (by omega),fun _=>i1 (by omega),fun _=>i2 (by omega),fun _=>i3 (by omega),fun _=>hp⟩ (by decide);refine ar [(1,some 1)] ?_ ?_;and_intros;all_goals try exact ak
    ·have g1:(!fq p4 || (p4.w != w) || (p4.h != h))=true:=pf (m:=⟨w,h,false,bG,p0,p1,p2,p3,p4⟩) rfl hp;repeat' (first|refine aj (And.intro ht g1) ?_|refine aw ?_|refine an (fun K hK => ?_)|refine aA (fun hg=>v4) ?_|refine aA (fun hg=>z4) ?_|(refine aq hK ?_;try clear hK K))
     simp_all [dT,bG,B,cE]
   ·repeat' (first|refine aj ht ?_|refine aC ?_)
    simp_all [dT,bG,B]
 ·refine az Tryz.func82 [.tmp 2] ?_;repeat' (first|refine aj ht ?_|refine aw ?_|refine an (fun K hK => ?_)|refine aa (hsz) ?_|(refine aq hK ?_;try clear hK K))
  refine aK (X:=Int) (fun k=>aP [(1, .b (.c (.ptr 0 0))),(23, .b (ag [PI p0.w,PI p0.h,PI p0.stride,nP p0.s,PI p1.w,PI p1.h,PI p1.stride,nP p1.s,PI p2.w,PI p2.h,PI p2.stride,nP p2.s,PI p3.w,PI p3.h,PI p3.stride,nP p3.s,PI p4.w,PI p4.h,PI p4.stride,nP p4.s])),(24, .b (I k))] [(0, .fix ((aF ⟨w,h,true,color,p0,p1,p2,p3,p4⟩).map CV.p))] 1)
   (fun k=>0≤k∧k≤5∧(0<k→aW ⟨w,h,true,color,p0,p1,p2,p3,p4⟩ p0=true)∧(1<k→aW ⟨w,h,true,color,p0,p1,p2,p3,p4⟩ p1=true)∧(2<k→aW ⟨w,h,true,color,p0,p1,p2,p3,p4⟩ p2=true)∧(3<k→aW ⟨w,h,true,color,p0,p1,p2,p3,p4⟩ p3=true)∧(4<k→aW ⟨w,h,true,color,p0,p1,p2,p3,p4⟩ p4=true)) (fun k=>(5 - k).toNat) 0 ?_ ?_ ?_
  ·omega
  ·refine ar [(1,some 1)] ?_ ?_;and_intros;all_goals try exact ak
  ·rintro k ⟨k0,k1,i0,i1,i2,i3,i4⟩;have hkv:k=0∨k=1∨k=2∨k=3∨k=4∨k=5:=by omega
   rcases hkv with rfl|rfl|rfl|rfl|rfl|rfl
   ·by_cases hp:aW ⟨w,h,true,color,p0,p1,p2,p3,p4⟩ p0=true
    ·have hq:=(mD rfl).1 hp;obtain ⟨g1,g2,g3⟩:nw p0=true∧True∧True:=⟨vG hq,trivial,trivial⟩
     repeat' (first|refine aj (And.intro ht (And.intro g1 (And.intro g2 g3))) ?_|refine aw ?_|refine an (fun K hK => ?_)|refine aA (fun hg=>v0) ?_|refine aA (fun hg=>z0) ?_|(refine aq hK ?_;try clear hK K))
     rw [ae];refine ao 1 ?_ ⟨by omega,by omega,fun _=>hp,fun q=>absurd q (by omega),fun q=>absurd q (by omega),fun q=>absurd q (by omega),fun q=>absurd q (by omega)⟩ (by decide);refine ar [(1,some 1)] ?_ ?_;and_intros;all_goals try exact ak
    ·have g1:(!nw p0)=true:=by rw [wv (m:=⟨w,h,true,color,p0,p1,p2,p3,p4⟩) rfl hp];rfl
     repeat' (first|refine aj (And.intro ht g1) ?_|refine aw ?_|refine an (fun K hK => ?_)|refine aA (fun hg=>v0) ?_|refine aA (fun hg=>z0) ?_|(refine aq hK ?_;try clear hK K))
     simp_all [dT,B,cE]
   ·by_cases hp:aW ⟨w,h,true,color,p0,p1,p2,p3,p4⟩ p1=true
    ·have hq:=(mD rfl).1 hp;obtain ⟨g1,g2,g3⟩:nw p1=true∧True∧True:=⟨vG hq,trivial,trivial⟩
     repeat' (first|refine aj (And.intro ht (And.intro g1 (And.intro g2 g3))) ?_|refine aw ?_|refine an (fun K hK => ?_)|refine aA (fun hg=>v1) ?_|refine aA (fun hg=>z1) ?_|(refine aq hK ?_;try clear hK K))
     rw [ae];refine ao 2 ?_ ⟨by omega,by omega,fun _=>i0 (by omega),fun _=>hp,fun q=>absurd q (by omega),fun q=>absurd q (by omega),fun q=>absurd q (by omega)⟩ (by decide);refine ar [(1,some 1)] ?_ ?_;and_intros;all_goals try exact ak
    ·have g1:(!nw p1)=true:=by rw [wv (m:=⟨w,h,true,color,p0,p1,p2,p3,p4⟩) rfl hp];rfl
     repeat' (first|refine aj (And.intro ht g1) ?_|refine aw ?_|refine an (fun K hK => ?_)|refine aA (fun hg=>v1) ?_|refine aA (fun hg=>z1) ?_|(refine aq hK ?_;try clear hK K))
     simp_all [dT,B,cE]
   ·by_cases hp:aW ⟨w,h,true,color,p0,p1,p2,p3,p4⟩ p2=true
    ·have hq:=(mD rfl).1 hp;obtain ⟨g1,g2,g3⟩:nw p2=true∧True∧True:=⟨vG hq,trivial,trivial⟩
     repeat' (first|refine aj (And.intro ht (And.intro g1 (And.intro g2 g3))) ?_|refine aw ?_|refine an (fun K hK => ?_)|refine aA (fun hg=>v2) ?_|refine aA (fun hg=>z2) ?_|(refine aq hK ?_;try clear hK K))
     rw [ae];refine ao 3 ?_ ⟨by omega,by omega,fun _=>i0 (by omega),fun _=>i1 (by omega),fun _=>hp,fun q=>absurd q (by omega),fun q=>absurd q (by omega)⟩ (by decide);refine ar [(1,some 1)] ?_ ?_;and_intros;all_goals try exact ak
    ·have g1:(!nw p2)=true:=by rw [wv (m:=⟨w,h,true,color,p0,p1,p2,p3,p4⟩) rfl hp];rfl
     repeat' (first|refine aj (And.intro ht g1) ?_|refine aw ?_|refine an (fun K hK => ?_)|refine aA (fun hg=>v2) ?_|refine aA (fun hg=>z2) ?_|(refine aq hK ?_;try clear hK K))
     simp_all [dT,B,cE]
   ·by_cases hp:aW ⟨w,h,true,color,p0,p1,p2,p3,p4⟩ p3=true
    ·have hq:=(mD rfl).1 hp;obtain ⟨g1,g2,g3⟩:nw p3=true∧True∧True:=⟨vG hq,trivial,trivial⟩
     repeat' (first|refine aj (And.intro ht (And.intro g1 (And.intro g2 g3))) ?_|refine aw ?_|refine an (fun K hK => ?_)|refine aA (fun hg=>v3) ?_|refine aA (fun hg=>z3) ?_|(refine aq hK ?_;try clear hK K))
     rw [ae];refine ao 4 ?_ ⟨by omega,by omega,fun _=>i0 (by omega),fun _=>i1 (by omega),fun _=>i2 (by omega),fun _=>hp,fun q=>absurd q (by omega)⟩ (by decide);refine ar [(1,some 1)] ?_ ?_;and_intros;all_goals try exact ak
    ·have g1:(!nw p3)=true:=by rw [wv (m:=⟨w,h,true,color,p0,p1,p2,p3,p4⟩) rfl hp];rfl
     repeat' (first|refine aj (And.intro ht g1) ?_|refine aw ?_|refine an (fun K hK => ?_)|refine aA (fun hg=>v3) ?_|refine aA (fun hg=>z3) ?_|(refine aq hK ?_;try clear hK K))
     simp_all [dT,B,cE]
   ·by_cases hp:aW ⟨w,h,true,color,p0,p1,p2,p3,p4⟩ p4=true
    ·have hq:=(mD rfl).1 hp;obtain ⟨g1,g2,g3⟩:nw p4=true∧True∧True:=⟨vG hq,trivial,trivial⟩
     repeat' (first|refine aj (And.intro ht (And.intro g1 (And.intro g2 g3))) ?_|refine aw ?_|refine an (fun K hK => ?_)|refine aA (fun hg=>v4) ?_|refine aA (fun hg=>z4) ?_|(refine aq hK ?_;try clear hK K))
     rw [ae];refine ao 5 ?_ ⟨by omega,by omega,fun _=>i0 (by omega),fun _=>i1 (by omega),fun _=>i2 (by omega),fun _=>i3 (by omega),fun _=>hp⟩ (by decide);refine ar [(1,some 1)] ?_ ?_;and_intros;all_goals try exact ak
    ·have g1:(!nw p4)=true:=by rw [wv (m:=⟨w,h,true,color,p0,p1,p2,p3,p4⟩) rfl hp];rfl
     repeat' (first|refine aj (And.intro ht g1) ?_|refine aw ?_|refine an (fun K hK => ?_)|refine aA (fun hg=>v4) ?_|refine aA (fun hg=>z4) ?_|(refine aq hK ?_;try clear hK K))
     simp_all [dT,B,cE]
   ·repeat' (first|refine aj ht ?_|refine aC ?_)
    simp_all [dT,B]
section
theorem GS {S:Env} {f:FuncId} {args:List BV} {e sz n:Nat} {g:Nat→Nat→PV} (h:gC S f args e sz n g):aB S f args fun r=>r = .b (.c (.p (.lst sz n g))) :=
 ⟨h.1,fun ok w vs h1 h2 h3 h4=>(h.2 ok w vs h1 h2 h3 h4).mono fun ex w' ⟨v,xs,he,hB,h0,hown,hone,hd⟩=>by
  refine ⟨v,_,he,rfl,trivial,hB, ?_⟩;rcases hown.2 with ⟨e1,e2⟩|⟨b,cap,cur,hv,hge,hh,hnc,_,hcs,htk⟩
  ·rw [e1];exact ⟨none,0,by rw [e2],by omega,fun h=>by omega⟩
  ·rw [hv];refine ⟨_,cap,rfl,hnc,fun _=>⟨b,0,rfl,⟨cm hh,fun q=>by omega⟩,fun i hi j hj => ?_⟩⟩;have hlt:i * sz+j<n * sz:=eE hi hj;have hlt2:i * sz+j<cur.size:=by rw [hcs];exact Nat.lt_of_lt_of_le hlt (Nat.mul_le_mul_right _ hnc)
   have hlx:i * sz+j<xs.length:=by rw [hown.1];exact hlt
   have hxe:xs.getD (i * sz+j) undef=cur.getD (i * sz+j) undef:=by rw [← htk];simp [List.getElem?_take,hlt]
   refine ⟨cur.getD (i * sz+j) undef,by rw [Nat.zero_add];exact cr hh hlt2, ?_, ?_⟩
   ·rw [← hxe,List.getD_eq_getElem?_getD,List.getElem?_eq_getElem hlx];exact hone _ (List.getElem_mem hlx)
   ·rw [← hxe]
    exact bq.mono (fun b hb=>hb.elim) (hd i hi j hj)⟩
attribute [local go_sem] Int.toNat_natCast dQ
theorem a5x {st : St} {bx : Nat → Option Bx} {nx q e sz n m : Nat} {F G : Nat → Nat → PV} {kf : Nat → SV} (hkf : st.kf = kf) (hkl : ∀ s, (kf s).lt nx) (hq : q < nx) (hbl : ∀ i y, bx i = some y → i < nx ∧ y.lt nx)
  (hoth:∀ i,i<nx→i≠q→st.bx i=bx i) (hqb:st.bx q=some (.arr e sz n F)) (hF:F=G∨∀ i,i<n→∀ j,j<sz→PV.le (F i j) (G i j)):Le st (wD [] (aJ q (.arr e sz n G) bx) (nx+m) kf):=by
 refine a9n nx [] [] hkf hkl (Nat.le_add_right _ _) (by omega) trivial (fun i hi hn => ?_) (fun i hi=>by cases hi) rfl (fun i x hx => ?_)
 ·unfold aJ at hi;rw [if_neg (by omega)] at hi;cases hb:bx i with
  | none=>exact absurd hb hi
  | some y=>have:=(hbl i y hb).1;omega
 ·unfold aJ at hx;by_cases hiq:i=q
  ·subst hiq;rw [if_pos rfl] at hx;cases hx;refine .inr ⟨?_,by omega,trivial⟩;unfold iE;rw [oq hq];exact ⟨_,hqb,rfl,rfl,rfl,hF⟩
  ·rw [if_neg hiq] at hx;obtain ⟨h1,h2⟩:=hbl i x hx;exact .inl ⟨h1,(hoth i h1 hiq).trans hx,h2⟩
end
end Go.Proofs.YtdjmpacladhijaaGreatDoor
