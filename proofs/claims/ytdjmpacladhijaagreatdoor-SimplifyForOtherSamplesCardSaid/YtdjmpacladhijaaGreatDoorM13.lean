/- Part of the proof: SlO, SlW, E1, EM, EP, EQ, E2, E3, E4. -/
import Derived.Test.YtdjmpacladhijaaGreatDoorM11
set_option linter.unusedSimpArgs false
set_option linter.unusedVariables false
set_option maxHeartbeats 2000000
set_option maxRecDepth 16000
namespace Go.SL
open Go
section
open Go.RowKit (wrap64)
theorem EI {sz sz':Nat} {f g:Nat→Nat→PV}:PV.le (.lst sz 0 f) (.lst sz' 0 g):=fun _ _ u hu=>by grind [World.cell?,Value.oneCell',bq]
end
theorem HF {ok : Nat → Prop} {w : World} {sz : Nat} {g : Nat → Nat → PV} {vs : Array Value} (h : ∀ j, di dd ok w ([BV.c (.p (.lst sz 0 g))].getD j .any) (vs.getD j undef)) :
  ∃ a c,∀ j,di dd ok w ([BV.c (.p (.val (.slice a 0 c)))].getD j .any) (vs.getD j undef):=by
 obtain ⟨a,c,e,_⟩:=h 0;refine ⟨a,c,fun j => ?_⟩;cases j with
 | zero=>exact e
 | succ j=>exact h (j+1)
theorem xE {S:Env} {f:FuncId} {sz:Nat} {g:Nat→Nat→PV} {R:SV→Prop} (h:∀ a c,aB S f [.c (.p (.val (.slice a 0 c)))] R):aB S f [.c (.p (.lst sz 0 g))] R :=
 ⟨(h none 0).1,fun ok w vs h1 h2 h3 h4=>by
  obtain ⟨a,c,hd⟩:=HF h4
  exact (h a c).2 ok w vs h1 h2 h3 hd⟩
theorem QI {S:Env} {f:FuncId} {sz:Nat} {g:Nat→Nat→PV} {e sz2 n:Nat} {g2:Nat→Nat→PV} (h:∀ a c,gC S f [.c (.p (.val (.slice a 0 c)))] e sz2 n g2):gC S f [.c (.p (.lst sz 0 g))] e sz2 n g2 :=
 ⟨(h none 0).1,fun ok w vs h1 h2 h3 h4=>by
  obtain ⟨a,c,hd⟩:=HF h4
  exact (h a c).2 ok w vs h1 h2 h3 hd⟩
theorem zr {a:Option Addr} {c sz:Nat} {g:Nat→Nat→PV}:PV.le (.val (.slice a 0 c)) (.lst sz 0 g):=fun _ _ u h=>by
 have:u = .slice a 0 c:=h;subst this;exact ⟨a,c,rfl,Nat.zero_le _,fun h=>absurd h (Nat.lt_irrefl 0)⟩
end Go.SL
namespace Go.Proofs.YtdjmpacladhijaaGreatDoor
open Go Go.SL
open Go.RowKit (wrap64)
section
def BA (p:Pixel):Bool:=decide (p.c0=0∧p.c1=0∧p.c2=0∧p.a=0∧p.f=0)
theorem xI (p:Pixel):aB Sg 167 [ag (aU p)] (fun x=>x = .b (B (BA p))):=by
 refine az Tryz.func167 [.tmp 2] ?_;repeat' (refine aC ?_)
 refine ga ?_
 (try simp only [BA,Bool.and_eq_true,Bool.or_eq_true,Bool.not_eq_true',Bool.not_eq_false',decide_eq_true_eq,decide_eq_false_iff_not,ge_iff_le,gt_iff_lt,beq_iff_eq,bne_iff_ne,ne_eq,Bool.or_eq_false_iff,Bool.and_eq_false_imp,Bool.not_true,Bool.not_false])
 try omega
 simp only [and_true,and_assoc]
def Aa (o:Int):Bool:=decide (o=2∨o=4∨o=5∨o=8∨o=11∨o=12)
theorem LC (o:Int):∃ a b c,rL o=[.val (.string (xd o)),PI a,PI b,PI c]∧(decide (1≤o∧o≤12) && ((a == 1 || a == 3) && (c == 1 || c == 3)))=Aa o:=by
 by_cases h:1≤o∧o≤12
 ·have:o=1∨o=2∨o=3∨o=4∨o=5∨o=6∨o=7∨o=8∨o=9∨o=10∨o=11∨o=12:=by omega
  rcases this with rfl|rfl|rfl|rfl|rfl|rfl|rfl|rfl|rfl|rfl|rfl|rfl <;> exact ⟨_,_,_,rfl,by decide +kernel⟩
 grind [xd,Aa,pM]
theorem KS (o:Int):aB Sg 173 [I o] (fun x=>x = .b (B (Aa o))):=by
 obtain ⟨a,b,c,he,hn⟩:=LC o;have hf:=pJ o;rw [he] at hf;rw [← hn];refine az Tryz.func173 [.tmp 2] ?_;repeat' (first|refine an (fun K hK => ?_)|refine aa (hf) ?_|refine aw ?_|(refine aq hK ?_;try clear hK K))
 rw [Bool.and_assoc]
attribute [local go_sem] jV Int.toNat_natCast lC
end
def dp (ops:List Op):Nat→Int→Nat
 | 0,_=>0
 | i+1,g=>dp ops i g+if (ah ops i).kind≠3∧gn ops i=g then 1 else 0
def jw (ops:List Op) (g:Int):Nat:=dp ops ops.length g
def gY (ops:List Op) (i:Nat):Bool:=decide ((ah ops i).kind≠3∧dp ops i (gn ops i)=0)
theorem Hz (ops:List Op) (i:Nat) : -1≤gn ops i∧gn ops i<i:=by
 cases h:bE ops i with
 | nil=>rw [iJ h];omega
 | cons p t =>
  have:=ej (ops:=ops) (i:=i) (p:=p) (by grind);rw [ee h];omega
theorem tu (ops:List Op) (g:Int):∀ i,dp ops i g≤i
 | 0=>Nat.le_refl _
 | i+1=>by
  have:=tu ops g i;grind [dp]
theorem lY (ops:List Op) (g:Int) {i j:Nat} (h:i≤j):dp ops i g≤dp ops j g:=by
 induction j with
 | zero=>grind
 | succ j ih =>
  grind [dp]
theorem SE {ops:List Op} {i j:Nat} {g:Int} (hij:i<j) (hj:j<ops.length) (k1:(ah ops i).kind≠3) (k2:(ah ops j).kind≠3) (g1:gn ops i=g) (g2:gn ops j=g):2≤jw ops g:=by
 have h1:1≤dp ops (i+1) g:=by rw [dp,if_pos ⟨k1,g1⟩];omega
 have h2:=lY ops g (i:=i+1) (j:=j) (by omega);have h3:dp ops (j+1) g=dp ops j g+1:=by rw [dp,if_pos ⟨k2,g2⟩]
 have h4:=lY ops g (i:=j+1) (j:=ops.length) (by omega);grind [jw]
def a4d (s:Script) (i:Nat):Bool:=AI s i && !JC s i
def jF (s:Script) (o:Op):Bool:=decide (o.mask=0) && decide (o.opacity=aN s.bits)
def Vq (s:Script) (o:Op):Int:=if o.mask=0 then 0 else (cH s (o.mask - 1)).color.a
def TM (s:Script) (o:Op):Bool := !decide (o.mask=0) && (cH s (o.mask - 1)).solid
def xQ (s:Script) (o:Op):Bool:=TM s o && decide (Vq s o=aN s.bits) && cS (cV s o) s.canvas
def yo (s:Script) (o:Op):Bool := !decide (o.mask=0) && (TM s o && decide (Vq s o=0) || aM (cV s o))
def BL (s:Script) (i:Nat):Bool:=fe (ah s.ops i).operator && (decide ((ah s.ops i).opacity=0) || yo s (ah s.ops i) ||
 if (ah s.ops i).kind=2 then decide (jw s.ops i=0) else aM (bt s (ah s.ops i)) || (cH s (ah s.ops i).image).solid && BA (cH s (ah s.ops i).image).color)
def Xt (s:Script) (i:Nat):Bool:=decide ((ah s.ops i).operator=3)
def Nx (s:Script) (i:Nat):Bool:=decide ((ah s.ops i).operator=6∨(ah s.ops i).operator=7∨(ah s.ops i).operator=9∨(ah s.ops i).operator=10) && (gY s.ops i && a4d s i)
def NC (s:Script) (j:Nat):Bool:=decide ((ah s.ops j).operator=1) && !JC s j ||
 jF s (ah s.ops j) && (cH s (ah s.ops j).image).solid && cS (bt s (ah s.ops j)) s.canvas &&
 if JC s j=true then decide ((cH s (ah s.ops j).image).color.f=aN s.bits)
 else decide ((ah s.ops j).mode=1) && (decide ((ah s.ops j).operator=2) || decide ((ah s.ops j).operator=4) && decide ((cH s (ah s.ops j).image).color.a=aN s.bits))
def Cp (s:Script):Nat→Nat→Bool
 | 0,_=>false
 | f+1,j=>decide (j<s.ops.length) && !decide ((ah s.ops j).kind=3) && (decide ((ah s.ops j).kind=1) && NC s j || Cp s f (aE s.ops j+1))
def cdM (s:Script) (i:Nat):Bool:=Cp s s.ops.length (aE s.ops i+1)
def a0h (s:Script) (i:Nat):Bool:=xQ s (ah s.ops i)
def IT (s:Script) (i:Nat):Bool:=decide ((ah s.ops i).kind=2) && !(ah s.ops i).isolated && AI s i && (gY s.ops i || JC s i)
def EN (s:Script) (i:Nat):Bool:=AI s i && if JC s i=true then !decide ((ah s.ops i).mode=1) else gY s.ops i && Aa (ah s.ops i).operator && (!decide ((ah s.ops i).operator=4) || !decide ((ah s.ops i).mode=1))
def Hq (s:Script) (i:Nat):Bool:=decide ((ah s.ops i).kind=2) && (ah s.ops i).knockout && decide (jw s.ops i=1)
def vg (s:Script) (i:Nat):Bool:=decide ((ah s.ops i).kind=2) && (ah s.ops i).isolated && decide (jw s.ops i=1) &&
 (decide ((ah s.ops (i+1)).operator=4) && decide ((ah s.ops (i+1)).mode=1) && (jF s (ah s.ops (i+1)) || jF s (ah s.ops i)))
def Hm (s:Script):Nat→Nat→Bool
 | 1,i=>BL s i
 | 2,i=>Xt s i
 | 3,i=>Nx s i
 | 4,i=>cdM s i
 | 5,i=>a0h s i
 | 6,i=>IT s i
 | 7,i=>EN s i
 | 8,i=>Hq s i
 | 9,i=>vg s i
 | _,_=>false
def uN (s:Script) (n i:Int):Bool:=decide (1≤n) && decide (n<10) && decide (0≤i) && decide (i<s.ops.length) && !decide ((ah s.ops i.toNat).kind=3) && Hm s n.toNat i.toNat
def cQ (n:Nat) (o:Op):Op :=
 if n=5 then { o with mask:=0,maskX:=0,maskY:=0 } else if n=6 then { o with isolated:=true } else if n=7 then { o with operator:=4,mode:=1 } else { o with knockout:=false }
def mr (s:Script) (o k:Op):Op:=if jF s k=true then { k with mask:=o.mask,maskX:=o.maskX,maskY:=o.maskY,opacity:=o.opacity } else k
def rR (o k:Op):Op := { k with operator:=o.operator,mode:=o.mode }
def yY (k:Op):Op:=if k.kind=2 then { k with isolated:=true } else k
def bI (s:Script) (i:Nat):Op:=yY (rR (ah s.ops i) (mr s (ah s.ops i) (ah s.ops (i+1))))
def gv (s:Script) (i:Nat):List Op:=s.ops.take i ++ s.ops.drop (aE s.ops i+1)
def jY (s:Script) (i:Nat):List Op:=s.ops.take i ++ [bI s i] ++ (s.ops.take (aE s.ops i)).drop (i+2) ++ s.ops.drop (aE s.ops i+1)
def rf (s:Script) (n i:Nat):List Op:=if n≤4 then gv s i else if n=9 then jY s i else s.ops.set i (cQ n (ah s.ops i))
abbrev Rx:=Int × Int
def kM (s:Script) (i k:Nat):List Rx:=((List.range k).filter (fun n:Nat=>uN s n i)).map (fun n:Nat=>((n:Int),(i:Int)))
def jv (s:Script) (i:Nat):List Rx:=(List.range i).flatMap (fun a=>kM s a 10)
def fc (s:Script):List Rx:=if (gu s).1=0 then jv s s.ops.length else []
def Bv (ops:List Op):Nat:=(ops.filter (fun o=>decide (o.kind=1∨o.kind=2))).length
def cl (s:Script) (l:List Op):Script := { s with ops:=l }
def jA:Nat→Script→List Op × List Rx
 | 0,s=>(s.ops,[])
 | f+1,s=>match (fc s).head? with
  | none=>(s.ops,[])
  | some r=>((jA f (cl s (rf s r.1.toNat r.2.toNat))).1,r :: (jA f (cl s (rf s r.1.toNat r.2.toNat))).2)
theorem Fq {ops:List Op} {i:Nat} (h:i<ops.length):ah ops i=ops[i]:=by grind [ah]
theorem Gc {ops:List Op} {i:Nat} (h:i<ops.length):ops=ops.take i ++ ah ops i :: ops.drop (i+1):=by simp_all [ah,Fq]
def fH (o:Op):Nat:=(if o.mask=0 then 0 else 1)+(if o.kind=2∧o.isolated=false then 1 else 0)+(if o.operator=4∧o.mode=1 then 0 else 1)+(if o.knockout=true then 1 else 0)+(if o.kind=3 then 0 else 1)
def eX (w:Op→Nat) (l:List Op):Nat:=(l.map w).sum
theorem np (w:Op→Nat) (a b:List Op):eX w (a ++ b)=eX w a+eX w b:=by grind [eX]
theorem je (w:Op→Nat) (a:Op) (b:List Op):eX w (a :: b)=w a+eX w b:=by grind [eX]
theorem Jb (w:Op→Nat):eX w []=0:=rfl
theorem DD (w:Op→Nat) (l:List Op) (i:Nat):eX w (l.take i)+eX w (l.drop i)=eX w l:=by rw [← np,List.take_append_drop]
theorem PD (w:Op→Nat) (l:List Op) (i:Nat):eX w (l.drop i)≤eX w l:=by grind [eX,DD]
theorem xV (w:Op→Nat) (l:List Op) {i j:Nat} (h:i≤j):eX w (l.drop j)≤eX w (l.drop i):=by
 have:=PD w (l.drop i) (j - i);simp_all
def cOp (o:Op):Nat:=if o.kind=1∨o.kind=2 then 1 else 0
theorem zj:∀ l:List Op,Bv l=eX cOp l
 | []=>rfl
 | o :: l=>by
  have ih:=zj l;grind [Bv,eX,cOp,je]
theorem MH (w:Op→Nat) {s:Script} (W:Wf s.ops) {i:Nat} (hi:i<s.ops.length):eX w (gv s i)+w (ah s.ops i)≤eX w s.ops:=by
 have e:=Gc hi;have h1:eX w s.ops=eX w (s.ops.take i)+(w (ah s.ops i)+eX w (s.ops.drop (i+1))):=by rw [e,np,je,← e]
 have h2:=xV w s.ops (i:=i+1) (j:=aE s.ops i+1) (by grind [jl]);rw [gv,np];omega
theorem MG (w : Op → Nat) {s : Script} (W : Wf s.ops) {i : Nat} (hi : i + 1 < s.ops.length) (hk : (ah s.ops i).kind = 2) (he : i + 2 ≤ aE s.ops i) :
  eX w (jY s i)+w (ah s.ops i)+w (ah s.ops (i+1))≤eX w s.ops+w (bI s i):=by
 have e:=Gc (ops:=s.ops) (i:=i) (by omega);have h1:eX w s.ops=eX w (s.ops.take i)+(w (ah s.ops i)+eX w (s.ops.drop (i+1))):=by rw [e,np,je,← e]
 have h2:eX w (s.ops.drop (i+1))=w (ah s.ops (i+1))+eX w (s.ops.drop (i+2)):=by rw [Fq hi,List.drop_eq_getElem_cons hi,je]
 have hl:=cB W (i:=i) (by omega);have h3:eX w ((s.ops.take (aE s.ops i)).drop (i+2))+eX w (s.ops.drop (aE s.ops i))=eX w (s.ops.drop (i+2)):=by
  rw [List.drop_take];have:=DD w (s.ops.drop (i+2)) (aE s.ops i - (i+2));rw [List.drop_drop,show i+2+(aE s.ops i - (i+2))=aE s.ops i by omega] at this;exact this
 have h4:=xV w s.ops (i:=aE s.ops i) (j:=aE s.ops i+1) (by omega);grind [eX,jY,bI,np,je,Jb]
theorem LM (w:Op→Nat) {l:List Op} {i:Nat} (hi:i<l.length) (o:Op):eX w (l.set i o)+w (ah l i)=eX w l+w o:=by
 have e:=Gc hi;grind [eX,ah,np,je]
theorem rm {s:Script} {n i:Int} (h:uN s n i=true):(1≤n∧n≤9)∧0≤i∧i.toNat<s.ops.length∧(ah s.ops i.toNat).kind≠3∧Hm s n.toNat i.toNat=true:=by grind [uN]
theorem rl {s:Script} (W:Wf s.ops) {i:Nat} (hi:i<s.ops.length) (hk:(ah s.ops i).kind=2) (h1:1≤jw s.ops i):i+2≤aE s.ops i∧(ah s.ops (i+1)).kind≠3:=by
 have hl:=cB W hi;have hp:=fO W hi hk;have hm:i ∈ bE s.ops (i+1):=by rw [dv hk];exact List.mem_cons_self ..
 have key:(ah s.ops (i+1)).kind≠3:=by
  intro h3;have e:bE s.ops (i+1)=i :: bE s.ops i:=dv hk;have hout:i ∉ bE s.ops (i+2):=by
   rw [eI h3,e,List.tail_cons];intro hc;have:=ej hc;omega
  have hz:∀ j,dp s.ops j i=0:=by
   intro j
   induction j with
   | zero=>rfl
   | succ j ih =>
    rw [dp,ih,if_neg];rintro ⟨a,b⟩;have hmem:i ∈ bE s.ops j:=by
     cases hs:bE s.ops j with
     | nil=>grind [gn,iJ]
     | cons p t=>grind [gn,ee]
    grind [ej,wx]
  unfold jw at h1;rw [hz] at h1;omega
 refine ⟨?_,key⟩;have e3:(ah s.ops (aE s.ops i)).kind=3:=by
  obtain ⟨j,t,h1,h2,h3,h4⟩:=wN W (p:=i) (s.ops.length - (i+1)) (i+1) (by omega) hm;rw [lN W h2 h3 h4];exact h3
 grind
theorem vW (n:Nat) (o:Op):(cQ n o).kind=o.kind:=by grind [cQ]
theorem Uu {s:Script} {n i:Int} (h:uN s n i=true) (hn:5≤n) (hn2:n≤8):Bv (rf s n.toNat i.toNat)=Bv s.ops∧(rf s n.toNat i.toNat).length=s.ops.length:=by
 obtain ⟨h1,h2,h3,h4,h5⟩:=rm h;rw [rf,if_neg (by omega),if_neg (by omega)];grind [cQ,ah,cOp,zj,LM,vW]
theorem a1h {o:Op} (h:o.kind≠3):1≤fH o:=by grind [fH]
theorem a2X (s:Script) (o k:Op) (ho:o.kind=2) (hi:o.isolated=true) (h4:k.operator=4) (h1:k.mode=1):fH (yY (rR o (mr s o k)))<fH o+fH k:=by
 have e1:(mr s o k).kind=k.kind:=by unfold mr;split <;> rfl
 have e2:(mr s o k).knockout=k.knockout:=by unfold mr;split <;> rfl
 have e3:(if (mr s o k).mask=0 then 0 else 1)≤(if o.mask=0 then 0 else 1)+(if k.mask=0 then 0 else 1):=by
  unfold mr;split
  ·grind
  ·omega
 have e:fH (yY (rR o (mr s o k)))≤(if (mr s o k).mask=0 then 0 else 1)+(if k.kind=2∧k.isolated=false then 1 else 0)+(if o.operator=4∧o.mode=1 then 0 else 1)+(if k.knockout=true then 1 else 0)+(if k.kind=3 then 0 else 1):=by
  unfold yY;have k1:(rR o (mr s o k)).kind=k.kind:=e1;by_cases hk:k.kind=2
  ·grind [fH,rR]
  ·grind [fH,rR]
 have f1:fH o=(if o.mask=0 then 0 else 1)+0+(if o.operator=4∧o.mode=1 then 0 else 1)+(if o.knockout=true then 1 else 0)+1:=by rw [fH,if_neg (c:=o.kind=2∧_) (by simp [hi]),if_neg (c:=o.kind=3) (by omega)]
 grind [fH]
theorem wt5 {o:Op} (h:o.mask≠0):fH (cQ 5 o)<fH o:=by grind [fH,cQ]
theorem wt6 {o:Op} (h:o.kind=2) (h2:o.isolated=false):fH (cQ 6 o)<fH o:=by grind [fH,cQ]
theorem wt7 {o:Op} (h:¬ (o.operator=4∧o.mode=1)):fH (cQ 7 o)<fH o:=by grind [fH,cQ]
theorem wt8 {o:Op} (h:o.knockout=true):fH (cQ 8 o)<fH o:=by grind [fH,cQ]
theorem ZB {s:Script} (W:Wf s.ops) {n i:Int} (h:uN s n i=true):eX fH (rf s n.toNat i.toNat)<eX fH s.ops:=by
 obtain ⟨h1,h2,h3,h4,h5⟩:=rm h;have hn:n=1∨n=2∨n=3∨n=4∨n=5∨n=6∨n=7∨n=8∨n=9:=by omega
 have hcut:n≤4→eX fH (rf s n.toNat i.toNat)<eX fH s.ops:=by
  intro hn;rw [rf,if_pos (by omega)];have:=MH fH W h3;have:=a1h h4;omega
 have hset:(5≤n∧n≤8)→fH (cQ n.toNat (ah s.ops i.toNat))<fH (ah s.ops i.toNat)→eX fH (rf s n.toNat i.toNat)<eX fH s.ops:=by
  intro hn hw;rw [rf,if_neg (by omega),if_neg (by omega)];have:=LM fH h3 (cQ n.toNat (ah s.ops i.toNat));omega
 rcases hn with hn|hn|hn|hn|hn|hn|hn|hn|hn
 ·omega
 ·omega
 ·omega
 ·omega
 ·refine hset (by omega) ?_;subst hn;have hu:a0h s i.toNat=true:=h5;simp only [a0h,xQ,TM,Bool.and_eq_true,Bool.not_eq_true',decide_eq_false_iff_not] at hu;grind [wt5]
 ·refine hset (by omega) ?_;subst hn;have hu:IT s i.toNat=true:=h5;grind [wt6,IT]
 ·refine hset (by omega) ?_;subst hn;have hu:EN s i.toNat=true:=h5;grind [ah,JC,EN,wt7]
 ·refine hset (by omega) ?_;subst hn;have hu:Hq s i.toNat=true:=h5;grind [wt8,Hq]
 ·subst hn;have hu:vg s i.toNat=true:=h5;simp only [vg,Bool.and_eq_true,Bool.or_eq_true,decide_eq_true_eq] at hu;obtain ⟨⟨⟨k1,k2⟩,k3⟩,⟨k4,k5⟩,k6⟩:=hu;obtain ⟨he,hk3⟩:=rl W h3 k1 (by omega);have hl:=cB W h3;have:=MG fH W (i:=i.toNat) (by omega) k1 he;show eX fH (rf s 9 i.toNat)<_;rw [rf,if_neg (by decide),if_pos (by decide)];have hw:fH (bI s i.toNat)<fH (ah s.ops i.toNat)+fH (ah s.ops (i.toNat+1)):=a2X s _ _ k1 k2 k4 k5;omega
section
section
variable {a b:List Op} (hk:∀ j,(ah a j).kind=(ah b j).kind)
include hk
theorem ta:∀ i,bE a i=bE b i
 | 0=>rfl
 | i+1=>by rw [bE,bE,ta i,hk i]
end
theorem Ik (l:List Op) (i:Nat) (o:Op) (j:Nat):ah (l.set i o) j=if i=j∧j<l.length then o else ah l j:=by grind [ah]
structure Chg (s t:Script) (n i:Nat):Prop where
 rule:n=5∨n=6∨n=7∨n=8
 lt:i<s.ops.length
 eq:t=cl s (s.ops.set i (cQ n (ah s.ops i)))
 kids:n=8→jw s.ops i=1
 push:n=6→(ah s.ops i).kind=2
theorem EP {s t:Script} {n i:Nat} (C:Chg s t n i) (j:Nat):ah t.ops j=if j=i then cQ n (ah s.ops i) else ah s.ops j:=by
 rw [C.eq];show ah (s.ops.set i _) j=_;rw [Ik];have:=C.lt;grind
theorem Ss {s t:Script} {n i:Nat} (C:Chg s t n i) (j:Nat):(ah s.ops j).kind=(ah t.ops j).kind:=by
 rw [EP C];grind [vW]
theorem ZG {s t:Script} {n i:Nat} (C:Chg s t n i):t.ops.length=s.ops.length:=by rw [C.eq];exact List.length_set
theorem YY (n:Nat) (o:Op) (h:o.isolated=true):(cQ n o).isolated=true:=by grind [cQ]
theorem a1z (n:Nat) (o:Op) (h:o.knockout=false):(cQ n o).knockout=false:=by grind [cQ]
theorem JN {n:Nat} {o:Op} (hn:n=5∨n=6∨n=7∨n=8) (hk:o.kind≠3) (h6:n=6→o.kind=2) (h:cZ o=true):cZ (cQ n o)=true:=by
 have kk:=vW n o;have h2:=h;rw [cZ,if_neg hk] at h2;rw [cZ,if_neg (by omega)];split at h2
 ·cases h2
 rename_i a1;split at h2
 ·cases h2
 rename_i a2;rw [decide_eq_true_eq] at h2;rcases hn with rfl|rfl|rfl|rfl
 ·grind [cQ]
 ·grind [cQ]
 ·grind [cQ]
 grind [cQ]
theorem xg {s:Script} (V:VOps s):(gu s).1=0:=by
 rw [gu,if_pos V.frame];have key:∀ (d i:Nat),i+d=s.ops.length→(ij s.bits s.images.length i (s.ops.drop i) ((bE s.ops i).reverse.map (ah s.ops))).1=0:=by
  intro d
  induction d with
  | zero =>
   intro i hi;rw [List.drop_eq_nil_of_le (by omega),show i=s.ops.length by omega,V.wf.fin];rfl
  | succ d ih =>
   intro i hi;rw [na (by omega)];have h0:dM s.bits s.images.length (s.ops.getD i default) ((bE s.ops i).reverse.map (ah s.ops))=0:=V.ok i (by omega);grind [ah,bE,bn]
 exact key s.ops.length 0 (by omega)
theorem ML {k a b c d:Int}:bu k [a,b,c,d]=true↔(-k≤a∧a≤k)∧(-k≤b∧b≤k)∧(-k≤c∧c≤k)∧(-k≤d∧d≤k):=by grind [bu]
theorem OF (l:List Nat) (f:Nat→Op):((l.reverse.map f).getD ((l.reverse.map f).length - 1) default)=match l with|[]=>default|p :: _=>f p:=by grind
theorem Uk {s t:Script} {n i:Nat} (C:Chg s t n i) (V:VOps s) (h3:(ah s.ops i).kind≠3):VOps t:=by
 have hl:=ZG C;have hst:∀ j,bE t.ops j=bE s.ops j:=fun j=>(ta (Ss C) j).symm;have hb:t.bits=s.bits:=by rw [C.eq];rfl
 have him:t.images=s.images:=by rw [C.eq];rfl
 refine ⟨⟨fun j hj => ?_,fun j hj hk => ?_, ?_⟩,fun j hj => ?_,by rw [him];exact V.imgs,by rw [hl];exact V.cnt, ?_⟩
 ·rw [← Ss C];exact V.wf.kinds j (by omega)
 ·rw [hst];exact V.wf.pops j (by omega) (by grind [Ss])
 ·rw [hl,hst];exact V.wf.fin
 ·have h:=cu.1 (V.ok j (by omega));rw [hb,him];refine cu.2 ?_;have hlen:((bE t.ops j).reverse.map (ah t.ops)).length=((bE s.ops j).reverse.map (ah s.ops)).length:=by rw [hst];simp
  have hctx:eS ((bE s.ops j).reverse.map (ah s.ops))=true→eS ((bE t.ops j).reverse.map (ah t.ops))=true:=by
   intro hc;rw [hst];simp only [eS,Bool.or_eq_true,Bool.and_eq_true,Bool.not_eq_true'] at hc ⊢;rw [OF] at hc ⊢;cases hsj:bE s.ops j with
   | nil=>left;rfl
   | cons p r =>
    right;rw [hsj] at hc;rcases hc with hc|hc
    ·simp at hc
    dsimp only at hc ⊢;rw [EP C];grind [YY,a1z]
  rw [hlen];by_cases hji:j=i
  ·subst hji;rw [EP C,if_pos rfl];have hk:=vW n (ah s.ops j);refine ⟨by omega,JN C.rule h3 C.push h.2.1,fun q=>absurd (by omega) h3,fun _ => ?_⟩;obtain ⟨g1,g2,g3,g4,g5,g6,g7⟩:=h.2.2.2 h3;have hw:=ML.1 g2;rcases C.rule with rfl|rfl|rfl|rfl
   ·refine ⟨?_, ?_,g3,g4,g5,fun q=>hctx (g6 q),g7⟩
    ·grind [cQ,ah]
    grind [bu,cQ,ah,ML]
   ·exact ⟨g1,g2,g3,g4,g5,fun q=>hctx (g6 q),g7⟩
   ·exact ⟨g1,g2,g3,show jn 4=true by decide,show jn 1=true by decide,fun q=>absurd rfl q,g7⟩
   ·exact ⟨g1,g2,g3,g4,g5,fun q=>hctx (g6 q),g7⟩
  ·rw [EP C,if_neg hji];grind
 ·have:bJ t=bJ s:=by
   rw [C.eq];unfold bJ cl;dsimp only;rw [List.length_set]
  rw [this];exact V.frame
end
def a5Z (s:Script):List PV:=ay s ++ [PU (aN s.bits),fL s.ops.length (aE s.ops), .lst 1 s.ops.length (fun a _=>PI (mf s.ops a)), .lst 1 s.ops.length (fun a _=>PI (jw s.ops a)), .lst 1 s.ops.length (fun a _=>PB (gY s.ops a))]
def mb (s:Script) (j:Nat):PV:=(a5Z s).getD j .any
def vP (s:Script):BV := .c (.ipt 15 (mb s) 0)
theorem vf0 (s:Script):mb s 0=PI s.bits:=rfl
theorem vf1 (s:Script):mb s 1=PI s.canvas.x0:=rfl
theorem vf2 (s:Script):mb s 2=PI s.canvas.y0:=rfl
theorem vf3 (s:Script):mb s 3=PI s.canvas.x1:=rfl
theorem vf4 (s:Script):mb s 4=PI s.canvas.y1:=rfl
theorem vf5 (s:Script):mb s 5=PI s.tileW:=rfl
theorem vf6 (s:Script):mb s 6=PI s.tileH:=rfl
theorem vf7 (s:Script):mb s 7=dq s.order:=rfl
theorem vf8 (s:Script):mb s 8=qq s.images:=rfl
theorem vf9 (s:Script):mb s 9=kU s.ops:=rfl
theorem Qj (s:Script):mb s 10=PU (aN s.bits):=rfl
theorem SA (s:Script):mb s 11=fL s.ops.length (aE s.ops):=rfl
theorem Vl (s:Script):mb s 12 = .lst 1 s.ops.length (fun a _=>PI (mf s.ops a)):=rfl
theorem Rs (s:Script):mb s 13 = .lst 1 s.ops.length (fun a _=>PI (jw s.ops a)):=rfl
theorem QG (s:Script):mb s 14 = .lst 1 s.ops.length (fun a _=>PB (gY s.ops a)):=rfl
theorem le0 {n:Nat} (f g:Nat→Nat→PV) (h:∀ i,f i 0=g i 0:=by intro _;rfl):∀ i,i<n→∀ j,j<1→PV.le (f i j) (g i j):=fun i _ j hj=>by
 have h2:j=0:=by omega
 subst h2;rw [h i];exact fun _ _ _ h=>h
theorem Ey {sz n:Nat} {f g:Nat→Nat→PV} (h:∀ i,i<n→∀ j,j<sz→PV.le (f i j) (g i j)):PV.le (.lst sz n f) (.lst sz n g):=fun _ _ u hu=>by
 obtain ⟨a,c,e,hn,hb⟩:=hu;refine ⟨a,c,e,hn,fun h0 => ?_⟩;obtain ⟨b,o,ha,hok,hc⟩:=hb h0;refine ⟨b,o,ha,hok,fun i hi j hj => ?_⟩;obtain ⟨x,h1,h2,h3⟩:=hc i hi j hj;exact ⟨x,h1,h2,h i hi j hj _ _ _ h3⟩
theorem kJ {x y:Int} (h:x=y):PV.le (PI x) (PI y):=by rw [h];exact fun _ _ _ h=>h
theorem DA {x y:Bool} (h:x=y):PV.le (PB x) (PB y):=by rw [h];exact fun _ _ _ h=>h
theorem NV {sz off:Nat} {g g':Nat→PV} (h:∀ j,j<sz→PV.le (g j) (g' j)) {ρ:iN} {ok:Nat→Prop} {w:World} {u:Value} (hu:cR ρ ok w (.ipt sz g off) u):cR ρ ok w (.ipt sz g' off) u:=by
 obtain ⟨b,o,h1,h2,h3⟩:=hu;refine ⟨b,o,h1,h2,fun j hj => ?_⟩;obtain ⟨x,q1,q2,q3⟩:=h3 j hj;exact ⟨x,q1,q2,h j hj _ _ _ q3⟩
theorem AH {ops:List Op} {i:Nat} (h:(ah ops i).kind≠3):mf ops i=gn ops i:=by rw [mf,if_neg h]
theorem Wl {ops:List Op} {i:Nat} (h:(ah ops i).kind=3):mf ops i=gn ops (i+1):=by rw [mf,if_pos h]
theorem lD {ops:List Op} {i:Nat} (h:(ah ops i).kind≠3) (g:Int):dp ops (i+1) g=dp ops i g+if gn ops i=g then 1 else 0:=by
 rw [dp];by_cases hg:gn ops i=g
 ·rw [if_pos ⟨h,hg⟩,if_pos hg]
 ·rw [if_neg (fun q=>hg q.2),if_neg hg]
theorem IB {ops:List Op} {i:Nat} (h:(ah ops i).kind=3) (g:Int):dp ops (i+1) g=dp ops i g:=by rw [dp,if_neg (fun q=>q.1 h)];rfl
theorem uT {ops:List Op} {i:Nat} (h:(ah ops i).kind≠3):gY ops i=((dp ops i (gn ops i):Int) == 0):=by
 rw [gY];by_cases hk:dp ops i (gn ops i)=0
 ·rw [decide_eq_true ⟨h,hk⟩,hk];rfl
 ·rw [decide_eq_false (fun q=>hk q.2)];exact (beq_eq_false_iff_ne.2 (by omega)).symm
theorem Qc {ops:List Op} {i:Nat} (h:(ah ops i).kind=3):gY ops i=false:=by rw [gY];exact decide_eq_false (fun q=>q.1 h)
theorem Bk {ops:List Op} {i:Nat} (h:(ah ops i).kind=2):gn ops (i+1)=i:=ee (dv h)
theorem Eh {ops:List Op} {i p:Nat} {t:List Nat} (h:(ah ops i).kind=3) (hs:bE ops i=p :: t):gn ops (i+1)=mf ops p:=by
 have h2:(ah ops p).kind=2:=iz (ops:=ops) (i:=i) (by rw [hs];exact List.mem_cons_self ..);rw [AH (by omega),gn,gn,eI h,hs,lH (l:=[]) hs];rfl
theorem pC {ops:List Op} (i a:Nat):(if a<i+1 then mf ops a else 0)=if a=i then mf ops i else if a<i then mf ops a else 0:=by
 by_cases e:a=i
 ·rw [if_pos e,if_pos (by omega),e]
 ·rw [if_neg e];by_cases h:a<i
  ·rw [if_pos h,if_pos (by omega)]
  ·rw [if_neg h,if_neg (by omega)]
theorem nG {ops:List Op} (i a:Nat):(decide (a<i+1) && gY ops a)=if a=i then gY ops i else (decide (a<i) && gY ops a):=by
 by_cases e:a=i
 ·rw [if_pos e,decide_eq_true (show a<i+1 by omega),e];rfl
 ·rw [if_neg e];by_cases h:a<i
  ·rw [decide_eq_true h,decide_eq_true (show a<i+1 by omega)]
  ·rw [decide_eq_false h,decide_eq_false (show ¬ a<i+1 by omega)]
theorem XY {ops:List Op} {i:Nat} {g:Int} (h:i≤4096):IntKind.i64.wrap ((dp ops i g:Int)+1)=(dp ops i g:Int)+1:=eK (by have:=tu ops g i;omega) (by have:=tu ops g i;omega)
theorem Ns (s:Script) (hs:ScriptLen s) (he:(gu s).1≠0):aB Sg 68 [ag (ay s)] (fun x=>x = .tup [.c (.p (.val (.pointer none))),B false]):=by
 have h1:=kW s hs;refine az Tryz.func68 [.tmp 2, .tmp 3] ?_
 repeat' (first|with_reducible exact cz|refine aw ?_|refine an (fun K hK => ?_)|refine aa (h1) ?_|(refine aH (fun hb => ?_) (fun hb => ?_) <;> try exact ax)|(refine aq hK ?_;try clear hK K))
def a6D (s:Script) (j:Nat):PV:=(ay s ++ [PU (aN s.bits),fL s.ops.length (aE s.ops), .lst 1 s.ops.length (fun a _=>PI (if a<s.ops.length then mf s.ops a else 0)), .lst 1 s.ops.length (fun a _=>PI (dp s.ops s.ops.length a)), .lst 1 s.ops.length (fun a _=>PB (decide (a<s.ops.length) && gY s.ops a))]).getD j .any
theorem ck (s:Script) (j:Nat) (hj:j<15):PV.le (a6D s j) (mb s j):=by
 have hv:j<12∨j=12∨j=13∨j=14:=by omega
 rcases hv with h|rfl|rfl|rfl
 ·skip
  have hivl:j=0∨j=1∨j=2∨j=3∨j=4∨j=5∨j=6∨j=7∨j=8∨j=9∨j=10∨j=11:=by omega
  rcases hivl with rfl|rfl|rfl|rfl|rfl|rfl|rfl|rfl|rfl|rfl|rfl|rfl <;> exact fun _ _ _ h=>h
 ·show PV.le (.lst 1 s.ops.length (fun a _=>PI (if a<s.ops.length then mf s.ops a else 0))) (.lst 1 s.ops.length (fun a _=>PI (mf s.ops a)));exact Ey (fun a ha k hk=>kJ (if_pos ha))
 ·exact fun _ _ _ h=>h
 ·show PV.le (.lst 1 s.ops.length (fun a _=>PB (decide (a<s.ops.length) && gY s.ops a))) (.lst 1 s.ops.length (fun a _=>PB (gY s.ops a)));exact Ey (fun a ha k hk=>DA (by rw [decide_eq_true ha];rfl))
section
theorem Ld {s:Script} (V:VOps s) {i:Nat} (hi:i<s.ops.length):(0≤(ah s.ops i).mask∧(ah s.ops i).mask≤s.images.length)∧((ah s.ops i).kind=1→0≤(ah s.ops i).image∧(ah s.ops i).image<s.images.length):=by
 have h:=cu.1 (V.ok i hi);by_cases h3:(ah s.ops i).kind=3
 ·have hf:=h.2.1;rw [cZ,if_pos h3,decide_eq_true_eq] at hf;refine ⟨by omega,fun h=>by omega⟩
 ·have:=(h.2.2.2 h3).1;refine ⟨by omega,fun h=>by omega⟩
theorem a3h (ops:List Op) {i:Nat} (h:i<ops.length) : -1≤mf ops i∧mf ops i<ops.length:=by
 unfold mf;split
 ·rename_i hk;have e:gn ops (i+1)<i:=by
   cases hs:bE ops i with
   | nil=>rw [iJ (by rw [eI hk,hs];rfl)];omega
   | cons p t =>
    have h1:bE ops (i+1)=t:=by rw [eI hk,hs];rfl
    cases ht:t with
    | nil=>rw [iJ (by rw [h1,ht])];omega
    | cons q r =>
     have hq:q<i:=ej (ops:=ops) (by rw [hs,ht];exact List.mem_cons_of_mem _ (List.mem_cons_self ..));rw [ee (by rw [h1,ht])];omega
  have:=Hz ops (i+1);omega
 ·have:=Hz ops i;omega
theorem vb {x y:Bool} (h:x=y):SV.b (BV.c (CV.p (PV.val (Value.bool x)))) = .b (B y):=by rw [h]
theorem a4S (n m:Nat):((n:Int) == (m:Int))=decide (n=m):=by
 by_cases h:n=m
 ·rw [h,decide_eq_true rfl];exact beq_self_eq_true _
 ·rw [decide_eq_false h];exact beq_eq_false_iff_ne.2 (by omega)
attribute [local go_sem] Int.toNat_natCast vP vf0 vf1 vf2 vf3 vf4 vf5 vf6 vf7 vf8 vf9 Qj SA Vl Rs QG
theorem uW (s:Script) (V:VOps s) (i:Nat) (hi:i<s.ops.length):aB Sg 172 [vP s,I i] (fun x=>x = .tup [B (AI s i),B (JC s i)]):=by
 have hn:=V.cnt;have hg:=a3h s.ops hi;refine az Tryz.func172 [.tmp 4, .tmp 5] ?_
 repeat' (first|refine aC ?_|(refine aH (fun hb => ?_) (fun hb => ?_) <;> try exact ax))
 ·rw [AI,JC,decide_eq_false (by omega)];rfl
 ·rw [AI,JC,decide_eq_true hb];rfl
theorem TU (s:Script) (V:VOps s) (i:Nat) (hi:i<s.ops.length):aB Sg 168 [vP s,I i] (fun x=>x = .b (B (a4d s i))):=by
 have h1:=uW s V i hi;refine az Tryz.func168 [.tmp 4] ?_;repeat' (first|refine an (fun K hK => ?_)|refine aa (h1) ?_|refine aw ?_|(refine aq hK ?_;try clear hK K))
 rfl
theorem nU (s:Script) (o:Op):aB Sg 174 [vP s,ag (cC o)] (fun x=>x = .b (B (jF s o))):=by
 refine az Tryz.func174 [.tmp 4] ?_;repeat' (refine aC ?_)
 rfl
theorem vv (s:Script) (V:VOps s) (o:Op) (ho:0≤o.mask∧o.mask≤s.images.length):aB Sg 197 [vP s,ag (cC o)] (fun x=>x = .tup [U (Vq s o),B (TM s o)]):=by
 have hn:=V.imgs;refine az Tryz.func197 [.tmp 4, .tmp 5] ?_
 repeat' (first|((with_reducible refine vi (id:=3) [(13,3),(15,1),(18,3)] ?_ (fun K hK => ?_));exact bZ;refine bV ?_)|refine aw ?_|refine an (fun K hK => ?_)|(refine aH (fun hb => ?_) (fun hb => ?_) <;> try exact ax)|(refine aq hK ?_;try clear hK K)|(refine pz hK ?_;try clear hK K))
 ·rw [Vq,TM,if_pos hb,decide_eq_true hb];rfl
 ·rw [Vq,TM,if_neg hb,decide_eq_false hb];rfl
theorem Rh (s:Script) (V:VOps s) (hs:ScriptLen s) (o:Op) (ho:0≤o.mask∧o.mask≤s.images.length):aB Sg 170 [vP s,ag (cC o)] (fun x=>x = .b (B (xQ s o))):=by
 have hn:=V.imgs;have h1:=vv s V o ho;have h2:=oM s o hs ⟨ho.1,by omega⟩;have h3:=lP (cV s o) s.canvas;refine az Tryz.func170 [.tmp 4] ?_;repeat' (first|refine an (fun K hK => ?_)|refine aa (h1) ?_|refine aA (fun hg=>h2) ?_|refine aA (fun hg=>h3) ?_|refine aw ?_|(refine aq hK ?_;try clear hK K))
 rfl
theorem XE (s:Script) (V:VOps s) (hs:ScriptLen s) (o:Op) (ho:0≤o.mask∧o.mask≤s.images.length):aB Sg 165 [vP s,ag (cC o)] (fun x=>x = .b (B (yo s o))):=by
 have hn:=V.imgs;have h1:=vv s V o ho;have h2:=oM s o hs ⟨ho.1,by omega⟩;have h3:=cq (cV s o);refine az Tryz.func165 [.tmp 4] ?_;repeat' (first|refine an (fun K hK => ?_)|refine aa (h1) ?_|refine aA (fun hg=>h2) ?_|refine aA (fun hg=>h3) ?_|refine aw ?_|(refine aq hK ?_;try clear hK K))
 rfl
theorem FB (s:Script) (V:VOps s) (hs:ScriptLen s) (i:Nat) (hi:i<s.ops.length) (h3:(ah s.ops i).kind≠3):aB Sg 109 [vP s,I i] (fun x=>x = .b (B (BL s i))):=by
 have hn:=V.cnt;have hm:=V.imgs;obtain ⟨ho,hm2⟩:=Ld V hi;have h1:=wb (ah s.ops i).operator;have h2:=XE s V hs (ah s.ops i) ho;have h4:=nE s (ah s.ops i) hs;have h5:=cq (bt s (ah s.ops i));have h6:=xI (cH s (ah s.ops i).image).color;unfold ah at h1 h2 h4 h5 h6 hm2 h3;refine az Tryz.func109 [.tmp 4] ?_;repeat' (first|(((with_reducible refine bT (id:=8) [(41,3),(43,1),(45,3)] (by decide +kernel) (by decide +kernel) ?_ (fun K hK => ?_));exact bZ);(try simp (maxSteps:=999999)(disch:=omega) only [go_sem]);and_intros;(all_goals first|(refine hK _ ba ?_;clear hK K)|exact ai|skip))|refine bL ?_|((first|refine an (fun K hK => ?_)|refine aa (h1) ?_|refine aA (fun hg=>h2) ?_|refine aa (h4) ?_|refine aa (h5) ?_|refine aA (fun hg=>h6) ?_);and_intros;all_goals first|(refine hK _ ?_;clear hK K)|try exact ai)|(refine aH (fun hb => ?_) (fun hb => ?_);all_goals try exact ax)|(refine bF ?_;(try clear hB KB);(try clear hK K)))
 ·refine vb ?_;rw [BL,ah,hb];rfl
 ·refine vb ?_;rw [BL,ah, ‹fe _=true›];rcases hb with hb|hb
  ·rw [decide_eq_true hb];rfl
  ·rw [hb,Bool.or_true];rfl
 ·refine vb ?_;obtain ⟨q1,q2⟩ := ‹_∧yo _ _=false›;rw [BL,ah, ‹fe _=true›,decide_eq_false q1,q2,if_pos hb];exact a4S _ 0
 ·have:=V.wf.kinds i hi;unfold ah at this;exact (hm2 (by omega)).1
 ·have:=V.wf.kinds i hi;unfold ah at this;exact (hm2 (by omega)).2
 ·refine vb ?_;obtain ⟨q1,q2⟩ := ‹_∧yo _ _=false›;rw [BL,ah, ‹fe _=true›,decide_eq_false q1,q2,if_neg hb];rfl
theorem a4h (s:Script) (V:VOps s) (i:Nat) (hi:i<s.ops.length):aB Sg 111 [vP s,I i] (fun x=>x = .b (B (Xt s i))):=by
 have hn:=V.cnt;refine az Tryz.func111 [.tmp 4] ?_;repeat' (refine aC ?_)
 rfl
theorem Ke (s:Script) (V:VOps s) (i:Nat) (hi:i<s.ops.length):aB Sg 112 [vP s,I i] (fun x=>x = .b (B (Nx s i))):=by
 have hn:=V.cnt;have h1:=TU s V i hi;refine az Tryz.func112 [.tmp 4] ?_
 repeat' (first|refine aw ?_|refine an (fun K hK => ?_)|refine aA (fun hg=>h1) ?_|((first|apply dC|apply dE);(case hf=>rfl);(case hc=>exact du);all_goals try (intro hb;try simp only [nR] at hb))|exact bd|(refine aH (fun hb => ?_) (fun hb => ?_) <;> try exact ax)|(refine aq hK ?_;try clear hK K))
 ·refine vb ?_;rw [Nx,ah,decide_eq_true (by omega)];rfl
 ·refine vb ?_;rw [Nx,ah,decide_eq_false (by omega)];rfl
theorem OV (s:Script) (V:VOps s) (hs:ScriptLen s) (i:Nat) (hi:i<s.ops.length) (h3:(ah s.ops i).kind=1):aB Sg 169 [vP s,I i] (fun x=>x = .b (B (NC s i))):=by
 have hn:=V.cnt;have hm:=V.imgs;obtain ⟨ho,hm2⟩:=Ld V hi;have h1:=uW s V i hi;have h2:=nU s (ah s.ops i);have h4:=nE s (ah s.ops i) hs;have h5:=lP (bt s (ah s.ops i)) s.canvas;have hm3:=hm2 h3;unfold ah at h2 h4 h5 hm3;refine az Tryz.func169 [.tmp 4] ?_
 repeat' (first|((with_reducible refine vi (id:=5) [(33,3),(35,1),(37,3)] ?_ (fun K hK => ?_));exact bZ;refine bV ?_)|refine aw ?_|refine an (fun K hK => ?_)|refine aa (h1) ?_|refine aa (h2) ?_|refine aA (fun hg=>h4) ?_|refine aA (fun hg=>h5) ?_|(refine aH (fun hb => ?_) (fun hb => ?_) <;> try exact ax)|(refine aq hK ?_;try clear hK K)|(refine pz hK ?_;try clear hK K))
 ·refine vb ?_;rw [NC,ah,decide_eq_true hb.1,hb.2];rfl
 ·rename_i q1;refine vb ?_;have e1:(decide ((s.ops.getD i default).operator=1) && !JC s i)=false:=by
   by_cases h:(s.ops.getD i default).operator=1
   ·rw [q1 h];simp
   ·rw [decide_eq_false h];rfl
  rw [NC,ah,e1,Bool.false_or];have hb:(jF s (s.ops.getD i default)=false∨(cH s (s.ops.getD i default).image).solid=false)∨cS (bt s (s.ops.getD i default)) s.canvas=false:=hb;rcases hb with (hb|hb)|hb <;> rw [hb] <;> simp
 ·rename_i q2 q1;refine vb ?_;have e1:(decide ((s.ops.getD i default).operator=1) && !JC s i)=false:=by rw [hb];simp
  have q1:(jF s (s.ops.getD i default)=true∧(cH s (s.ops.getD i default).image).solid=true)∧cS (bt s (s.ops.getD i default)) s.canvas=true:=q1;rw [NC,ah,e1,Bool.false_or,q1.1.1,q1.1.2,q1.2,if_pos hb];rfl
 ·rename_i q3 q2 q1;refine vb ?_;have e1:(decide ((s.ops.getD i default).operator=1) && !JC s i)=false:=by
   by_cases h:(s.ops.getD i default).operator=1
   ·rw [q3 h];simp
   ·rw [decide_eq_false h];rfl
  have q2:(jF s (s.ops.getD i default)=true∧(cH s (s.ops.getD i default).image).solid=true)∧cS (bt s (s.ops.getD i default)) s.canvas=true:=q2;rw [NC,ah,e1,Bool.false_or,q2.1.1,q2.1.2,q2.2,if_neg (by rw [q1];decide),decide_eq_false hb];rfl
 ·rename_i q3 q2 q1;refine vb ?_;have e1:(decide ((s.ops.getD i default).operator=1) && !JC s i)=false:=by
   by_cases h:(s.ops.getD i default).operator=1
   ·rw [q3 h];simp
   ·rw [decide_eq_false h];rfl
  have q2:(jF s (s.ops.getD i default)=true∧(cH s (s.ops.getD i default).image).solid=true)∧cS (bt s (s.ops.getD i default)) s.canvas=true:=q2;rw [NC,ah,e1,Bool.false_or,q2.1.1,q2.1.2,q2.2,if_neg (by rw [q1];decide),decide_eq_true hb];rfl
theorem We (s:Script) (V:VOps s) (hs:ScriptLen s) (i:Nat) (hi:i<s.ops.length):aB Sg 114 [vP s,I i] (fun x=>x = .b (B (a0h s i))):=by
 have hn:=V.cnt;obtain ⟨ho,hm2⟩:=Ld V hi;have h1:=Rh s V hs (ah s.ops i) ho;unfold ah at h1;refine az Tryz.func114 [.tmp 4] ?_;repeat' (first|refine an (fun K hK => ?_)|refine aa (h1) ?_|refine aw ?_|(refine aq hK ?_;try clear hK K))
 rfl
theorem Kr (s:Script) (V:VOps s) (i:Nat) (hi:i<s.ops.length):aB Sg 117 [vP s,I i] (fun x=>x = .b (B (IT s i))):=by
 have hn:=V.cnt;have h1:=uW s V i hi;refine az Tryz.func117 [.tmp 4] ?_;repeat' (first|refine an (fun K hK => ?_)|refine aa (h1) ?_|refine aw ?_|(refine aq hK ?_;try clear hK K))
 rfl
theorem Og (s:Script) (V:VOps s) (i:Nat) (hi:i<s.ops.length):aB Sg 119 [vP s,I i] (fun x=>x = .b (B (EN s i))):=by
 have hn:=V.cnt;have h1:=uW s V i hi;have h2:=KS (ah s.ops i).operator;unfold ah at h2;refine az Tryz.func119 [.tmp 4] ?_
 repeat' (first|refine aw ?_|refine an (fun K hK => ?_)|refine aa (h1) ?_|refine aA (fun hg=>h2) ?_|(refine aH (fun hb => ?_) (fun hb => ?_) <;> try exact ax)|(refine aq hK ?_;try clear hK K))
 ·rw [EN,hb];rfl
 ·rw [EN, ‹AI s i=true›,if_pos hb];rfl
 ·rw [EN, ‹AI s i=true›,if_neg (by rw [hb];decide)];rfl
theorem Oa (s:Script) (V:VOps s) (i:Nat) (hi:i<s.ops.length):aB Sg 121 [vP s,I i] (fun x=>x = .b (B (Hq s i))):=by
 have hn:=V.cnt;refine az Tryz.func121 [.tmp 4] ?_;repeat' (refine aC ?_)
 rw [Hq];exact vb (congrArg (fun b=>_ && _ && b) (a4S _ 1))
theorem Ph (s:Script) (V:VOps s) (i:Nat) (hi:i<s.ops.length):aB Sg 123 [vP s,I i] (fun x=>x = .b (B (vg s i))):=by
 have hn:=V.cnt;have W:=V.wf;have h1:=nU s (ah s.ops i);have h2:=nU s (ah s.ops (i+1));unfold ah at h1 h2;refine az Tryz.func123 [.tmp 4] ?_;repeat' (first|refine bL ?_|((first|refine an (fun K hK => ?_)|refine aA (fun hg=>h2) ?_|refine aA (fun hg=>h1) ?_);and_intros;all_goals first|(refine hK _ ?_;clear hK K)|try exact ai)|(refine aH (fun hb => ?_) (fun hb => ?_);all_goals try exact ax)|(refine bF ?_;(try clear hB KB);(try clear hK K)))
 ·refine vb ?_;have e:(decide ((ah s.ops i).kind=2) && (ah s.ops i).isolated && decide (jw s.ops i=1))=false:=by
   unfold ah;rcases hb with (hb|hb)|hb
   ·rw [decide_eq_false hb];rfl
   ·rw [hb,Bool.and_false];rfl
   ·rw [decide_eq_false (show ¬ jw s.ops i=1 by omega),Bool.and_false]
  rw [vg,e];rfl
 ·obtain ⟨⟨b1,b2⟩,b3⟩:=hb;have:=(rl W hi b1 (by omega)).1;have:=cB W hi;omega
 ·refine vb ?_;obtain ⟨⟨b1,b2⟩,b3⟩:=hb;rw [vg,show (ah s.ops i).isolated=true from b2,decide_eq_true (show (ah s.ops i).kind=2 from b1),decide_eq_true (show jw s.ops i=1 by omega),show ((i:Int)+1).toNat=i+1 by omega];rfl
theorem Lx (s:Script) (V:VOps s) (hs:ScriptLen s) (i:Nat) (hi:i<s.ops.length):aB Sg 113 [vP s,I i] (fun x=>x = .b (B (cdM s i))):=by
 have hn:=V.cnt;have W:=V.wf;have hel:=cB W hi;have hge:=jl W hi;refine az Tryz.func113 [.tmp 4] ?_;repeat' (refine aC ?_)
 refine aK (X:=Nat × Nat) (fun x=>aP [(0, .b (vP s)),(1, .b (I i)),(5, .b (I x.2))] [] 1)
  (fun x=>s.ops.length≤x.1+x.2∧x.2≤s.ops.length∧cdM s i=Cp s x.1 x.2) (fun x=>s.ops.length - x.2) (s.ops.length,aE s.ops i+1) ?_ ?_ ?_
 ·exact ⟨by dsimp only;omega,by dsimp only;omega,rfl⟩
 ·refine ar [] ?_ ?_;and_intros;all_goals try exact ak
 ·rintro ⟨f,j⟩ ⟨hf,hj,hc⟩;dsimp only at hf hj hc ⊢;rcases Nat.lt_or_ge j s.ops.length with hlt|hge
  ·obtain ⟨f,rfl⟩:∃ f',f=f'+1:=⟨f - 1,by omega⟩
   rw [Cp] at hc;have hjl:=cB W hlt;have hjg:=jl W hlt
   repeat' (first|refine aw ?_|refine an (fun K hK => ?_)|refine aA (fun hg=>OV s V hs j hlt (by simpa [ah] using hg)) ?_|(refine aH (fun hb => ?_) (fun hb => ?_) <;> try exact ax)|(refine aq hK ?_;try clear hK K))
   ·refine vb ?_;rw [hc,ah,decide_eq_true hlt,decide_eq_false (‹_∧¬ _=(3:Int)›).2,decide_eq_true hb.1,hb.2];rfl
   ·rw [ae];have hk3:=(‹_∧¬ _=(3:Int)›).2;refine ao (f,aE s.ops j+1) ?_ ⟨by dsimp only;omega,by dsimp only;omega, ?_⟩ (by dsimp only;omega)
    ·refine ar [] ?_ ?_;and_intros;all_goals try exact ak
    ·dsimp only;rw [hc,ah,decide_eq_true hlt,decide_eq_false hk3];have e:(decide ((s.ops.getD j default).kind=1) && NC s j)=false:=by
      by_cases h:(s.ops.getD j default).kind=1
      ·rw [hb h,Bool.and_false]
      ·rw [decide_eq_false h];rfl
     rw [e];rfl
   ·refine vb ?_;rw [hc,ah,decide_eq_true (hb (by omega)),Bool.not_true,Bool.and_false];rfl
  ·have he:j=s.ops.length:=by omega
   subst he;have hc2:cdM s i=false:=by
    rw [hc];cases f with
    | zero=>rfl
    | succ f=>rw [Cp,decide_eq_false (Nat.lt_irrefl _)];rfl
   repeat' (first|refine aC ?_|(refine aH (fun hb => ?_) (fun hb => ?_) <;> try exact ax))
   rw [hc2]
end
theorem Dd {n:Nat} {f g:Nat→Nat→PV} {sz:Nat}:PV.le (.lst sz (0+n) (dV 0 f g)) (.lst sz n g):=by
 rw [Nat.zero_add];exact gX fun i hi j hj=>by unfold dV;rw [if_neg (Nat.not_lt_zero i),Nat.sub_zero]
theorem Uj {f g:Nat→Nat→PV} (i j:Nat):dV 0 f g i j=g i j:=by unfold dV;rw [if_neg (Nat.not_lt_zero i),Nat.sub_zero]
theorem kt (n:Nat) (g:Nat→Nat→PV) (hn:n≤1000000000):aB Sg 127 [.c (.p (.lst 1 n g))] (fun x=>x = .b (.c (.p (.lst 1 n g)))):=by
 rcases Nat.eq_zero_or_pos n with h0|h0
 ·subst h0;refine xE fun a c => ?_;cases a with
  | none =>
   refine bo ?_;refine az Tryz.func127 [.tmp 2] ?_;repeat' (first|refine bL ?_|(refine an (fun K hK => ?_);and_intros;all_goals first|(refine hK _ ?_;clear hK K)|try exact ai)|(refine aH (fun hb => ?_) (fun hb => ?_);all_goals try exact ax)|(refine bF ?_;(try clear hB KB);(try clear hK K)))
   exact fR (fg bP)
  | some a =>
   refine bo ?_;refine az Tryz.func127 [.tmp 2] ?_;repeat' (first|refine bL ?_|((with_reducible refine aX (id:=1) (fun K hW => ?_));(try simp (maxSteps:=999999)(disch:=omega) only [go_sem]);and_intros;all_goals first|(refine hK _ ?_;clear hK K)|try exact ai)|(refine an (fun K hK => ?_);and_intros;all_goals first|(refine hK _ ?_;clear hK K)|try exact ai))
   refine hW _ (aP [(0, .b (.c (.p (.lst 1 0 g)))),(4, .b (B false))] [] 1) ?_ ?_
   ·refine ar [] ?_ ?_;and_intros;all_goals first|exact ak|skip
    exact zr
   clear hW;repeat' (first|refine bL ?_|(refine an (fun K hK => ?_);and_intros;all_goals first|(refine hK _ ?_;clear hK K)|try exact ai)|(refine aH (fun hb => ?_) (fun hb => ?_);all_goals try exact ax)|(refine bF ?_;(try clear hB KB);(try clear hK K)))
   ·exact absurd hb (by decide)
   ·first|exact fR (fg Dd)|exact fR (fg EI)
 ·refine bo ?_;refine az Tryz.func127 [.tmp 2] ?_;repeat' (first|refine bL ?_|(refine an (fun K hK => ?_);and_intros;all_goals first|(refine hK _ ?_;clear hK K)|try exact ai)|(refine aH (fun hb => ?_) (fun hb => ?_);all_goals try exact ax)|(refine bF ?_;(try clear hB KB);(try clear hK K)))
  ·exact absurd hb (by decide)
  ·exact fR (fg Dd)
theorem Hd (n:Nat) (g:Nat→Nat→PV) (hn:n≤1000000000):aB Sg 125 [.c (.p (.lst 1 n g))] (fun x=>x = .b (.c (.p (.lst 1 n g)))):=by
 rcases Nat.eq_zero_or_pos n with h0|h0
 ·subst h0;refine xE fun a c => ?_;cases a with
  | none =>
   refine bo ?_;refine az Tryz.func125 [.tmp 2] ?_;repeat' (first|refine bL ?_|(refine an (fun K hK => ?_);and_intros;all_goals first|(refine hK _ ?_;clear hK K)|try exact ai)|(refine aH (fun hb => ?_) (fun hb => ?_);all_goals try exact ax)|(refine bF ?_;(try clear hB KB);(try clear hK K)))
   exact fR (fg bP)
  | some a =>
   refine bo ?_;refine az Tryz.func125 [.tmp 2] ?_;repeat' (first|refine bL ?_|((with_reducible refine aX (id:=1) (fun K hW => ?_));(try simp (maxSteps:=999999)(disch:=omega) only [go_sem]);and_intros;all_goals first|(refine hK _ ?_;clear hK K)|try exact ai)|(refine an (fun K hK => ?_);and_intros;all_goals first|(refine hK _ ?_;clear hK K)|try exact ai))
   refine hW _ (aP [(0, .b (.c (.p (.lst 1 0 g)))),(4, .b (B false))] [] 1) ?_ ?_
   ·refine ar [] ?_ ?_;and_intros;all_goals first|exact ak|skip
    exact zr
   clear hW;repeat' (first|refine bL ?_|(refine an (fun K hK => ?_);and_intros;all_goals first|(refine hK _ ?_;clear hK K)|try exact ai)|(refine aH (fun hb => ?_) (fun hb => ?_);all_goals try exact ax)|(refine bF ?_;(try clear hB KB);(try clear hK K)))
   ·exact absurd hb (by decide)
   ·first|exact fR (fg Dd)|exact fR (fg EI)
 ·refine bo ?_;refine az Tryz.func125 [.tmp 2] ?_;repeat' (first|refine bL ?_|(refine an (fun K hK => ?_);and_intros;all_goals first|(refine hK _ ?_;clear hK K)|try exact ai)|(refine aH (fun hb => ?_) (fun hb => ?_);all_goals try exact ax)|(refine bF ?_;(try clear hB KB);(try clear hK K)))
  ·exact absurd hb (by decide)
  ·exact fR (fg Dd)
theorem CA (n:Nat) (g:Nat→Nat→PV) (hn:n≤1000000000):aB Sg 128 [.c (.p (.lst 12 n g))] (fun x=>x = .b (.c (.p (.lst 12 n g)))):=by
 rcases Nat.eq_zero_or_pos n with h0|h0
 ·subst h0;refine xE fun a c => ?_;cases a with
  | none =>
   refine bo ?_;refine az Tryz.func128 [.tmp 2] ?_;repeat' (first|refine bL ?_|(refine an (fun K hK => ?_);and_intros;all_goals first|(refine hK _ ?_;clear hK K)|try exact ai)|(refine aH (fun hb => ?_) (fun hb => ?_);all_goals try exact ax)|(refine bF ?_;(try clear hB KB);(try clear hK K)))
   exact fR (fg bP)
  | some a =>
   refine bo ?_;refine az Tryz.func128 [.tmp 2] ?_;repeat' (first|refine bL ?_|((with_reducible refine aX (id:=1) (fun K hW => ?_));(try simp (maxSteps:=999999)(disch:=omega) only [go_sem]);and_intros;all_goals first|(refine hK _ ?_;clear hK K)|try exact ai)|(refine an (fun K hK => ?_);and_intros;all_goals first|(refine hK _ ?_;clear hK K)|try exact ai))
   refine hW _ (aP [(0, .b (.c (.p (.lst 12 0 g)))),(4, .b (B false))] [] 1) ?_ ?_
   ·refine ar [] ?_ ?_;and_intros;all_goals first|exact ak|skip
    exact zr
   clear hW;repeat' (first|refine bL ?_|(refine an (fun K hK => ?_);and_intros;all_goals first|(refine hK _ ?_;clear hK K)|try exact ai)|(refine aH (fun hb => ?_) (fun hb => ?_);all_goals try exact ax)|(refine bF ?_;(try clear hB KB);(try clear hK K)))
   ·exact absurd hb (by decide)
   ·first|exact fR (fg Dd)|exact fR (fg EI)
 ·refine bo ?_;refine az Tryz.func128 [.tmp 2] ?_;repeat' (first|refine bL ?_|(refine an (fun K hK => ?_);and_intros;all_goals first|(refine hK _ ?_;clear hK K)|try exact ai)|(refine aH (fun hb => ?_) (fun hb => ?_);all_goals try exact ax)|(refine bF ?_;(try clear hB KB);(try clear hK K)))
  ·exact absurd hb (by decide)
  ·exact fR (fg Dd)
theorem jd (n : Nat) (g : Nat → Nat → PV) (hn : n ≤ 1000000000) (hv : ∀ i, i < n → ∀ j, j < 12 → ∃ u, g i j = .val u) :
  gC Sg 128 [.c (.p (.lst 12 n g))] 33 12 n g:=by
 rcases Nat.eq_zero_or_pos n with h0|h0
 ·subst h0;refine QI fun a c => ?_;cases a with
  | none =>
   refine LQ (by decide) ?_;refine az Tryz.func128 [.tmp 2] ?_;repeat' (first|with_reducible exact cz|refine bL ?_|(refine an (fun K hK => ?_);and_intros;all_goals first|(refine hK _ ?_;clear hK K)|try exact ai)|(refine aH (fun hb => ?_) (fun hb => ?_);all_goals try exact ax)|(refine bF ?_;(try clear hB KB);(try clear hK K)))
   all_goals rfl
  | some a =>
   refine wY Tryz.func128 rfl (rs:=[.tmp 2]) rfl rfl dI (by decide +kernel) (Nat.le_of_ble_eq_true rfl) (bN (by simp (maxSteps:=999999)(disch:=omega) only [go_sem])) ?_;repeat' (first|refine bL ?_|((with_reducible refine aX (id:=1) (fun K hW => ?_));(try simp (maxSteps:=999999)(disch:=omega) only [go_sem]);and_intros;all_goals first|(refine hK _ ?_;clear hK K)|try exact ai)|(refine an (fun K hK => ?_);and_intros;all_goals first|(refine hK _ ?_;clear hK K)|try exact ai))
   refine hW _ (aP [(0, .b (.c (.p (.lst 12 0 g)))),(4, .b (B false))] [] 1) ?_ ?_
   ·refine ar [] ?_ ?_;and_intros;all_goals first|exact ak|skip
    exact zr
   clear hW;repeat' (first|refine bL ?_|(refine an (fun K hK => ?_);and_intros;all_goals first|(refine hK _ ?_;clear hK K)|try exact ai)|(refine aH (fun hb => ?_) (fun hb => ?_);all_goals try exact ax)|(refine bF ?_;(try clear hB KB);(try clear hK K)))
   ·exact absurd hb (by decide)
   ·exact ⟨_,rfl,fun i hi=>absurd hi (Nat.not_lt_zero i)⟩
 ·refine wY Tryz.func128 rfl (rs:=[.tmp 2]) rfl rfl dI (by decide +kernel) (Nat.le_of_ble_eq_true rfl) (bN (by simp (maxSteps:=999999)(disch:=omega) only [go_sem])) ?_;repeat' (first|refine bL ?_|(refine an (fun K hK => ?_);and_intros;all_goals first|(refine hK _ ?_;clear hK K)|try exact ai)|(refine aH (fun hb => ?_) (fun hb => ?_);all_goals try exact ax)|(refine bF ?_;(try clear hB KB);(try clear hK K)))
  ·exact absurd hb (by decide)
  ·simp only [Nat.zero_add]
   exact ⟨_,rfl,trivial,fun i hi j hj=>by
    obtain ⟨u,hu⟩:=hv i hi j hj
    exact ⟨u,by rw [Uj];exact hu,hu⟩⟩
theorem EF (bx : Nat → Option Bx) (nx n : Nat) (g : Nat → Nat → PV) (h0 : 0 < n) (hn : n ≤ 1000000000) (hw : ∀ i, nx ≤ i → bx i = none) :
  ∃ F,(∀ i j,F i j=g i j)∧∃ G,lj Sg bx nx 126 [.c (.p (.lst 28 n g))] (.b (.c (.own (nx+1) n)))
   (aJ (nx+1) (.arr 49 28 n F) (dH nx (aJ nx (.arr 49 28 0 G) bx))) (nx+2):=by
 refine ⟨?F, ?hF, ?G, ?hI⟩
 case hI =>
  refine wG Tryz.func126 rfl (rs:=[.tmp 2]) rfl rfl dI (by decide +kernel) (Nat.le_of_ble_eq_true rfl) ?_ (fun kf => ?_)
  ·intro v hv;simp only [List.mem_cons,List.not_mem_nil,or_false] at hv;rcases hv with rfl;trivial
  repeat' (first|refine bL ?_|(refine an (fun K hK => ?_);and_intros;all_goals first|(refine hK _ ?_;clear hK K)|try exact ai)|(refine aH (fun hb => ?_) (fun hb => ?_);all_goals try exact ax)|(refine bF ?_;(try clear hB KB);(try clear hK K)))
  ·exact absurd hb (by decide)
  ·refine ⟨by rw [Nat.zero_add], ?_, ?_⟩
   ·simp only [Nat.zero_add,sN,lh,lq,lz,gV,kZ,lk,lp,uP,uL];rfl
   ·omega
 exact fun i j=>Uj i j
end Go.Proofs.YtdjmpacladhijaaGreatDoor
