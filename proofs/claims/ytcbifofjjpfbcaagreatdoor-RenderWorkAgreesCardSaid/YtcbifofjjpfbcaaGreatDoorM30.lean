/- Part of the proof: R1, R5. -/
import Derived.Test.YtcbifofjjpfbcaaGreatDoorM29
set_option linter.unusedSimpArgs false
set_option linter.unusedVariables false
set_option maxHeartbeats 1000000
namespace Go.Proofs.YtcbifofjjpfbcaaGreatDoor
structure Fr where
 op:Op
 acc:Nat→Acc
 back:Nat→Pixel
def Fr.col (t:Fr) (j:Nat):Lv:=⟨t.op,t.acc j,t.back j⟩
def xB:Fr:=⟨iR,fun _=>tN,fun _=>ba⟩
def yi (m:Int) (o:Op) (p:Nat→Pixel) (t:Fr):Fr:=⟨t.op,fun j=>dI t.op.knockout o.operator o.mode m (p j) (t.acc j) (t.back j),t.back⟩
def iU (o:Op) (t:Fr):Fr:=⟨o,fun j=>(jA o (t.col j)).acc,fun j=>(jA o (t.col j)).back⟩
structure RS where
 st:List Fr
 junk:List Fr
def RS.rows (q:RS):List Fr:=q.st.reverse ++ q.junk
def mf (m:Int) (z:Nat→Op→Pixel × Int) (q:RS) (o:Op):RS :=
 match q.st with
 | []=>q
 | t :: r =>
  if o.kind=1 then ⟨yi m o (fun j=>aP m o (z j o).1 (z j o).2) t :: r,q.junk⟩
  else if o.kind=2 then ⟨iU o t :: t :: r,[]⟩
  else match r with
   | []=>q
   | u :: r=>⟨yi m t.op (fun j=>aP m t.op (bB (t.acc j) (t.back j) m) (z j t.op).2) u :: r,t :: q.junk⟩
theorem Kc {m:Int} {z:Nat→Op→Pixel × Int} {q:RS} {o:Op} (j:Nat):(mf m z q o).st.map (fun t=>t.col j)=iC m (z j) (q.st.map fun t=>t.col j) o:=by
 obtain ⟨st,jk⟩:=q
 cases st with
 | nil=>rfl
 | cons t r =>
  by_cases h1:o.kind=1
  ·simp only [mf,h1,if_true,List.map_cons,iC];rfl
  by_cases h2:o.kind=2
  ·simp only [mf,h2,if_true,List.map_cons,iC];rfl
  cases r with
  | nil=>simp only [mf,if_neg h1,if_neg h2,List.map_cons,List.map_nil,iC]
  | cons u r=>simp only [mf,if_neg h1,if_neg h2,List.map_cons,iC];rfl
def fJ (s:Script) (m:Int) (r:Rect) (z:Nat→Op→Pixel × Int):Nat→RS
 | 0=>⟨[xB],[]⟩
 | i+1=>if eV s r i=true then mf m z (fJ s m r z i) (aB s.ops i) else fJ s m r z i
section
variable {s:Script} {m:Int} {r:Rect} {z:Nat→Op→Pixel × Int}
theorem Bg {i:Nat}:∀ k,i≤k→(∀ j,i≤j→j<k→eV s r j=false)→fJ s m r z k=fJ s m r z i
 | 0,h,_=>by rw [show i=0 by omega]
 | k+1,h,hn=>by
  by_cases e:i=k+1
  ·rw [e]
  ·rw [fJ,if_neg (by rw [hn k (by omega) (by omega)];simp),Bg k (by omega) fun j h1 h2=>hn j h1 (by omega)]
def Reach (s:Script) (r:Rect) (i:Nat):Prop:=∀ g ∈ bI s.ops i,eM s r g=true
theorem wY (W:Wf s.ops) {i:Nat} (hi:i<s.ops.length) (hk:(aB s.ops i).kind=3) (h:Reach s r i):eV s r i=true:=by
 rw [pg h]
 unfold eM
 rw [yd W hi hk]
 cases hs:bI s.ops i with
 | nil=>exact absurd hs (W.pops i hi hk)
 | cons p t=>exact h p (by rw [hs];exact List.mem_cons_self ..)
theorem uK (W : Wf s.ops) {i : Nat} (hi : i < s.ops.length) (hk : (aB s.ops i).kind ≠ 3) (h : Reach s r i) (hn : eM s r i = false) :
  i≤aR s.ops i∧aR s.ops i<s.ops.length∧Reach s r (aR s.ops i+1)∧fJ s m r z (aR s.ops i+1)=fJ s m r z i:=by
 have he:=tY W hi
 have hl:=fT W hi
 have ha:eV s r i=false:=by rw [pg h];exact hn
 rcases W.kinds i hi with k|k|k
 ·rw [gn W hi k]
  refine ⟨Nat.le_refl _,hi, ?_, ?_⟩
  ·unfold Reach;rw [cr k];exact h
  ·rw [fJ,if_neg (by rw [ha];simp)]
 ·refine ⟨he,hl, ?_,Bg _ (by omega) fun j h1 h2 => ?_⟩
  ·obtain ⟨j,t,q1,q2,q3,q4⟩:=mK W (s.ops.length - (i+1)) (i+1) (by omega) (by rw [ct k];exact List.mem_cons_self ..)
   have hs2:=kg (l:=[]) q4
   rw [fP W q2 q3 q4]
   unfold Reach
   rw [dQ q3,q4]
   have hs2:bI s.ops i=t:=hs2
   rw [List.tail_cons,← hs2]
   exact h
  ·by_cases e:j=i
   ·rw [e];exact ha
   ·exact KS W hi k hn (by omega) (by omega)
 ·exact absurd k hk
theorem lG (W:Wf s.ops) {i:Nat} (hi:i<s.ops.length) (h:Reach s r i) (ha:eV s r i=true):Reach s r (i+1) :=
 KN W hi h fun _=>by rw [pg h] at ha;exact ha
theorem Ai {i:Nat} (ha:eV s r i=true):fJ s m r z (i+1)=mf m z (fJ s m r z i) (aB s.ops i):=by rw [fJ,if_pos ha]
end
section
variable {s:Script} {m:Int} {r:Rect}
def rm (s:Script) (m x y:Int) (n:Nat) (q:RS) (i:Nat):Prop:=∀ j,j<n→q.st.map (fun t=>t.col j)=jM m (cD s (x+j) y) s.ops i
def zR (s:Script) (x y:Int):Nat→Op→Pixel × Int:=fun j=>cD s (x+j) y
theorem FI {x y:Int} {n:Nat} {z:Nat→Op→Pixel × Int}:rm s m x y n (fJ s m r z 0) 0:=fun j _=>by
 unfold jM lD
 rw [List.take_zero,List.foldl_nil];rfl
theorem xd {x y:Int} {n i:Nat} (hi:i<s.ops.length) (ha:eV s r i=true) (h:rm s m x y n (fJ s m r (zR s x y) i) i):rm s m x y n (fJ s m r (zR s x y) (i+1)) (i+1):=fun j hj=>by
 rw [Ai ha,Kc,h j hj,nN hi];rfl
theorem Fj {x y : Int} {n i : Nat} (C : ∀ j : Nat, j < n → Pt s m (x + j) y) (hr : aU r = false) (hin : ∀ j : Nat, j < n → iO r (x + j) y) (W : Wf s.ops) (hi : i < s.ops.length) (hk : (aB s.ops i).kind ≠ 3) (hR : Reach s r i) (hn : eM s r i = false)
  (h:rm s m x y n (fJ s m r (zR s x y) i) i):rm s m x y n (fJ s m r (zR s x y) (aR s.ops i+1)) (aR s.ops i+1):=fun j hj=>by
 rw [(uK W hi hk hR hn).2.2.2,h j hj,OZ (C j hj) hr (hin j hj) hi hk hn]
theorem sR {x y : Int} {n i : Nat} (hn : 0 < n) (C : ∀ j : Nat, j < n → Pt s m (x + j) y) (hi : i ≤ s.ops.length) {q : RS} (h : rm s m x y n q i) :
  q.st.length=(bI s.ops i).length+1∧q.st.map (fun t=>t.op)=(bI s.ops i).map (aB s.ops) ++ [iR]:=by
 have h0:=h 0 hn
 have ha:=Hs (C 0 hn) i hi
 have e:q.st.map (fun t=>t.op)=(bI s.ops i).map (aB s.ops) ++ [iR]:=by
  rw [← ha.o,← h0,List.map_map]
  exact List.map_congr_left fun t _=>rfl
 refine ⟨?_,e⟩
 have:=congrArg List.length e
 simpa using this
theorem Cd {x y:Int} {n i:Nat} (C:∀ j:Nat,j<n→Pt s m (x+j) y) (hi:i≤s.ops.length) {q:RS} (h:rm s m x y n q i) {j:Nat} (hj:j<n):At s m i (q.st.map fun t=>t.col j):=by
 rw [h j hj]
 exact Hs (C j hj) i hi
theorem KD {x y : Int} {n : Nat} (hn : 0 < n) (C : ∀ j : Nat, j < n → Pt s m (x + j) y) {q : RS} (h : rm s m x y n q s.ops.length) :
  ∃ t,q.st=[t]∧∀ j:Nat,j<n→AccV (t.acc j) (t.back j) m∧bB (t.acc j) (t.back j) m=dH s (x+j) y:=by
 have hl:=(sR hn C (Nat.le_refl _) h).1
 rw [(C 0 hn).V.wf.fin] at hl
 obtain ⟨st,jk⟩:=q
 match st,hl with
 | [t],_ =>
  refine ⟨t,rfl,fun j hj => ?_⟩
  have h1:=h j hj
  have hv:=(Cd C (Nat.le_refl _) h hj).v.head.v
  refine ⟨hv, ?_⟩
  have h1:[t.col j]=jM m (cD s (x+j) y) s.ops s.ops.length:=h1
  unfold dH
  rw [(C j hj).mx]
  unfold jM at h1
  rw [List.take_length] at h1
  rw [← h1];rfl
end
end Go.Proofs.YtcbifofjjpfbcaaGreatDoor
set_option maxHeartbeats 4000000
set_option maxRecDepth 16000
namespace Go.Proofs.YtcbifofjjpfbcaaGreatDoor
open Go Go.SL
open Go.RowKit (wrap64)
def UB (s:Script) (m:Int) (e t:PV):BV := .c (.ipt 13 (fun j=>(aL s ++ [PU m,e,t]).getD j .any) 0)
attribute [local go_sem] Int.toNat_natCast UB
def wa (M:Image) (x y:Int) (k:Int):Nat→Pixel:=fun j=>if (j:Int)<k then cu M (x+j) y else ba
theorem Jm {M:Image} {x y:Int} {a:Nat}:wa M x y (if 0 - x>0 then 0 - x else 0) a=ba:=by
 have h:(a:Int)<(if 0 - x>0 then 0 - x else 0)→x+a<0:=by split <;> omega
 unfold wa
 by_cases q:(a:Int)<(if 0 - x>0 then 0 - x else 0)
 ·have:=h q
  rw [if_pos q,cu,if_pos (by omega)]
 ·rw [if_neg q]
theorem Hk {M:Image} {x y k:Int} {a:Nat} (h:0≤k):wa M x y (k+1) a=if a=k.toNat then cu M (x+k) y else wa M x y k a:=by
 by_cases e:a=k.toNat
 ·rw [if_pos e,wa,if_pos (by omega),show (a:Int)=k by omega]
 ·rw [if_neg e,wa,wa]
  by_cases q:(a:Int)<k
  ·rw [if_pos q,if_pos (by omega)]
  ·rw [if_neg q,if_neg (by omega)]
theorem uu (s : Script) (m : Int) (e t : PV) (i n : Nat) (x y : Int) (hi : i < s.images.length) (hl : s.images.length ≤ 1000) (hn : n ≤ 1000) (hx : -1099511627776 ≤ x ∧ x ≤ 1099511627776) :
  kr Sg 115 [UB s m e t,I i,I x,I y,I n] 37 5 n (nZ aW fun k=>cu (s.images.getD i default) (x+k) y):=by
 have ht:True:=trivial
 have hat:=fun a b=>IG (s.images.getD i default) a b
 refine IL Tryz.func115 rfl (rs:=[.tmp 10]) rfl rfl gp (by decide +kernel) (Nat.le_of_ble_eq_true rfl) (cG (by simp (maxSteps:=999999)(disch:=omega) only [go_sem])) ?_
 repeat' (first|with_reducible exact aK|refine ak ht ?_|refine an ?_|((first|refine aj (fun K hK => ?_)|refine aY ?_);and_intros;all_goals first|(refine hK _ ?_;clear hK K)|try exact aa)|((first|apply aC|apply ay);(case hf=>rfl);(case hc=>exact aS);(all_goals first|(intro hb;(try simp only [bZ] at hb))|skip))|exact ao|(refine aH (fun hb => ?_) (fun hb => ?_);all_goals try exact ax)|refine ar (fun KB hB => ?_)|(refine hB _ ?_;clear hB KB)|refine aA (S:=Sg) (by assumption) ?_|(refine ai ?_;(try clear hB KB);(try clear hK K)))
 ·have e:∀ a:Nat,cu (s.images.getD i default) (x+a) y=ba:=fun a=>by unfold cu;rw [if_pos (by omega)]
  refine ⟨_,rfl,fun a ha j hj => ?_⟩
  rw [e]
  have hivl:j=0∨j=1∨j=2∨j=3∨j=4:=by omega
  rcases hivl with rfl|rfl|rfl|rfl|rfl <;> exact ⟨_,rfl,rfl⟩
 refine aM (X:=Int) (fun k=>bg [(2, .b (I x)),(3, .b (I y)),(4, .b (I n)),(11, .b (.c (.ptr 0 0))),(12, .b (.c (.own 1 n))),(13, .b (I k))] [(0, .fix ((bl (s.images.getD i default)).map CV.p)),(1, .arr 37 5 n (nZ aW (wa (s.images.getD i default) x y k)))] 2) (fun k=>0≤k ∧ -x≤k∧k≤1099511627776) (fun k=>((n:Int) - k).toNat) (if 0 - x>0 then 0 - x else 0) ?_ ?_ ?_
 ·split <;> omega
 ·refine aE [(0,some 0),(1,some 1)] ?_ ?_
  and_intros
  all_goals first|exact aw|skip
  refine .inr fun a ha j hj => ?_
  rw [Jm]
  have hivl:j=0∨j=1∨j=2∨j=3∨j=4:=by omega
  rcases hivl with rfl|rfl|rfl|rfl|rfl <;> exact PV.le_refl _
 intro k ⟨k0,k1,k2⟩
 by_cases hk:k<n∧x+k<(s.images.getD i default).w
 ·have g1:decide (k<(n:Int))=true:=decide_eq_true hk.1
  have g2:decide (x+k<(s.images.getD i default).w)=true:=decide_eq_true hk.2
  have hv:=hat (x+k) y
  repeat' (first|with_reducible exact aK|((first|apply ft|apply jB);(case hc=>exact aS);(case ht=>(simp only [Int.toNat_natCast,Int.reduceBEq,Int.reduceBNe,Int.reduceLT,Int.reduceLE,decide_true,decide_false,oZ,And.intro g1 g2];done)))|((first|apply gZ|apply iz);(case hc=>exact aS);(case ht=>(simp only [Int.toNat_natCast,Int.reduceBEq,Int.reduceBNe,Int.reduceLT,Int.reduceLE,decide_true,decide_false,oZ,And.intro g1 g2];done)))|refine an ?_|((first|refine aj (fun K hK => ?_)|refine aY ?_|refine ae (hv) ?_|refine aq (fun hg=>hv) ?_);and_intros;all_goals first|(refine hK _ ?_;clear hK K)|try exact aa)|((first|apply aC|apply ay);(case hf=>rfl);(case hc=>exact aS);(all_goals first|(intro hb;(try simp only [bZ] at hb))|skip))|exact ao|(refine aH (fun hb => ?_) (fun hb => ?_);all_goals try exact ax)|refine ar (fun KB hB => ?_)|(refine hB _ ?_;clear hB KB)|refine aA (S:=Sg) (by assumption) ?_|(refine ai ?_;(try clear hB KB);(try clear hK K)))
  rw [ah]
  refine au (k+1) ?_ ⟨by omega,by omega,by omega⟩ (by omega)
  refine aE [(0,some 0),(1,some 1)] ?_ ?_
  and_intros
  all_goals first|exact aw|skip
  refine .inr fun a ha j hj => ?_
  rw [Hk k0]
  by_cases e:a=k.toNat
  ·simp only [if_pos e]
   rw [if_pos ⟨Nat.zero_le _,hj⟩]
   have hivl:j=0∨j=1∨j=2∨j=3∨j=4:=by omega
   rcases hivl with rfl|rfl|rfl|rfl|rfl <;> exact PV.le_refl _
  ·simp only [if_neg e]
   exact PV.le_refl _
 ·repeat' (first|with_reducible exact aK|refine ak hk ?_|refine an ?_|((first|refine aj (fun K hK => ?_)|refine aY ?_);and_intros;all_goals first|(refine hK _ ?_;clear hK K)|try exact aa)|((first|apply aC|apply ay);(case hf=>rfl);(case hc=>exact aS);(all_goals first|(intro hb;(try simp only [bZ] at hb))|skip))|exact ao|(refine aH (fun hb => ?_) (fun hb => ?_);all_goals try exact ax)|refine ar (fun KB hB => ?_)|(refine hB _ ?_;clear hB KB)|refine aA (S:=Sg) (by assumption) ?_|(refine ai ?_;(try clear hB KB);(try clear hK K)))
  refine ⟨_,rfl,fun a ha j hj => ?_⟩
  have e:wa (s.images.getD i default) x y k a=cu (s.images.getD i default) (x+a) y:=by
   unfold wa
   split
   ·rfl
   ·unfold cu
    rw [if_pos (by omega)]
  rw [← e]
  have hivl:j=0∨j=1∨j=2∨j=3∨j=4:=by omega
  rcases hivl with rfl|rfl|rfl|rfl|rfl <;> exact ⟨_,rfl,rfl⟩
def gB (s:Script) (o:Op) (x y:Int):Nat→Int:=fun j=>(cu (s.images.getD (o.mask - 1).toNat default) (x - o.maskX+j) (y - o.maskY)).a
theorem IE (s : Script) (m : Int) (e t : PV) (o : Op) (n : Nat) (x y : Int) (ho : 0 ≤ o.mask ∧ o.mask ≤ s.images.length) (hl : s.images.length ≤ 1000) (hn : n ≤ 1000) (hx : -1099511627776 ≤ x - o.maskX ∧ x - o.maskX ≤ 1099511627776) (hy : -1099511627776 ≤ y - o.maskY ∧ y - o.maskY ≤ 1099511627776) :
  kr Sg 156 [UB s m e t,ag (eA o),I x,I y,I n] 34 1 (if o.mask=0 then 0 else n) (fun i _=>PU (gB s o x y i)):=by
 have ht:True:=trivial
 by_cases h0:o.mask=0
 ·rw [if_pos h0]
  have g:(o.mask == 0)=true:=beq_iff_eq.2 h0
  refine Od (by decide) ?_
  refine aI Tryz.func156 [.tmp 10] ?_
  repeat' (first|with_reducible exact aK|refine ak g ?_|refine an ?_|((first|refine aj (fun K hK => ?_)|refine aY ?_);and_intros;all_goals first|(refine hK _ ?_;clear hK K)|try exact aa)|((first|apply aC|apply ay);(case hf=>rfl);(case hc=>exact aS);(all_goals first|(intro hb;(try simp only [bZ] at hb))|skip))|exact ao|(refine aH (fun hb => ?_) (fun hb => ?_);all_goals try exact ax)|refine ar (fun KB hB => ?_)|(refine hB _ ?_;clear hB KB)|refine aA (S:=Sg) (by assumption) ?_|(refine ai ?_;(try clear hB KB);(try clear hK K)))
  all_goals rfl
 ·rw [if_neg h0]
  have g:(o.mask == 0)=false:=beq_eq_false_iff_ne.2 h0
  have hp:=BQ (uu s m e t (o.mask - 1).toNat n (x - o.maskX) (y - o.maskY) (by omega) hl hn hx)
  rw [show (((o.mask - 1).toNat:Nat):Int)=o.mask - 1 by omega] at hp
  obtain ⟨q,hq⟩:∃ q:Nat→Pixel,q=fun (k:Nat)=>cu (s.images.getD (o.mask - 1).toNat default) (x - o.maskX+k) (y - o.maskY):=⟨_,rfl⟩
  rw [← hq] at hp
  have hm:gB s o x y=fun i=>(q i).a:=by rw [hq];rfl
  rw [hm]
  clear hq hm
  refine IL Tryz.func156 rfl (rs:=[.tmp 10]) rfl rfl gp (by decide +kernel) (Nat.le_of_ble_eq_true rfl) (cG (by simp (maxSteps:=999999)(disch:=omega) only [go_sem])) ?_
  repeat' (first|with_reducible exact aK|refine ak g ?_|refine an ?_|((first|refine aj (fun K hK => ?_)|refine aY ?_|refine ae (hp) ?_|refine aq (fun hg=>hp) ?_);and_intros;all_goals first|(refine hK _ ?_;clear hK K)|try exact aa)|((first|apply aC|apply ay);(case hf=>rfl);(case hc=>exact aS);(all_goals first|(intro hb;(try simp only [bZ] at hb))|skip))|exact ao|(refine aH (fun hb => ?_) (fun hb => ?_);all_goals try exact ax)|refine ar (fun KB hB => ?_)|(refine hB _ ?_;clear hB KB)|refine aA (S:=Sg) (by assumption) ?_|(refine ai ?_;(try clear hB KB);(try clear hK K)))
  refine aM (X:=Nat) (fun i=>bg [(11, .b (.c (.own 1 i))),(30, .b (.c (.p (ra n q)))),(31, .b (I n)),(32, .b (I i))] [(1, .arr 34 1 i (fun i _=>PU (q i).a))] 2) (fun i=>i≤n) (fun i=>n - i) 0 ?_ ?_ ?_
  ·exact Nat.zero_le _
  ·refine aE [(1,none)] ?_ ?_
   and_intros
   all_goals first|exact aw|skip
  intro i hi
  rcases Nat.lt_or_ge i n with hk|hk
  ·have g1:decide ((i:Int)<n)=true:=decide_eq_true (by omega)
   repeat' (first|with_reducible exact aK|refine ak g1 ?_|refine an ?_|((first|refine aj (fun K hK => ?_)|refine aY ?_);and_intros;all_goals first|(refine hK _ ?_;clear hK K)|try exact aa)|((first|apply aC|apply ay);(case hf=>rfl);(case hc=>exact aS);(all_goals first|(intro hb;(try simp only [bZ] at hb))|skip))|exact ao|(refine aH (fun hb => ?_) (fun hb => ?_);all_goals try exact ax)|refine ar (fun KB hB => ?_)|(refine hB _ ?_;clear hB KB)|refine aA (S:=Sg) (by assumption) ?_|(refine ai ?_;(try clear hB KB);(try clear hK K)))
   rw [ah]
   refine au (i+1) ?_ (by omega) (by omega)
   refine aE [(1,some 4)] ?_ ?_
   and_intros
   all_goals first|exact aw|skip
   refine .inr fun a ha j hj => ?_
   unfold gh
   split
   ·exact PV.le_refl _
   ·obtain rfl:a=i:=by omega
    obtain rfl:j=0:=by omega
    rw [Nat.sub_self]
    exact PV.le_refl _
  ·have g1:decide ((i:Int)<n)=false:=decide_eq_false (by omega)
   obtain rfl:i=n:=by omega
   repeat' (first|with_reducible exact aK|refine ak g1 ?_|refine an ?_|((first|refine aj (fun K hK => ?_)|refine aY ?_);and_intros;all_goals first|(refine hK _ ?_;clear hK K)|try exact aa)|((first|apply aC|apply ay);(case hf=>rfl);(case hc=>exact aS);(all_goals first|(intro hb;(try simp only [bZ] at hb))|skip))|exact ao|(refine aH (fun hb => ?_) (fun hb => ?_);all_goals try exact ax)|refine ar (fun KB hB => ?_)|(refine hB _ ?_;clear hB KB)|refine aA (S:=Sg) (by assumption) ?_|(refine ai ?_;(try clear hB KB);(try clear hK K)))
   exact ⟨_,rfl,fun a ha j hj=>⟨_,rfl,rfl⟩⟩
end Go.Proofs.YtcbifofjjpfbcaaGreatDoor
