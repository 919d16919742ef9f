/- Part of the proof: P6, RP, RN, R7, RQ, RC, Y3, VK, RK, RL. -/
import Derived.Test.YtcbifofjjpfbcaaGreatDoorM28
import Derived.Test.YtcbifofjjpfbcaaGreatDoorM29
set_option linter.unusedSimpArgs false
set_option linter.unusedVariables false
set_option maxHeartbeats 8000000
set_option maxRecDepth 16000
namespace Go.Proofs.YtcbifofjjpfbcaaGreatDoor
open Go Go.SL
open Go.RowKit (wrap64)
structure EvOk (s:Script):Prop where
 len:ScriptLen s
 op:∀ o ∈ s.ops,0≤o.opacity
 im:bL s=0→∀ m ∈ s.images,AW m (bg s.bits)∧LX m
def RY (s:Script) (x y:Int):Int:=if (aW s).1≠0 then (aW s).1 else if Qg s.canvas x y=false then 20 else 0
theorem qj {s:Script} (h:bL s=0):(s.bits=8∨s.bits=16)∧aP s.canvas=false:=by
 unfold bL at h;split at h
 ·cases h
 split at h
 ·cases h
 rename_i h1 h2;refine ⟨Decidable.not_not.1 h1, ?_⟩;cases he:aP s.canvas with
 | false=>rfl
 | true=>exact absurd (.inl he) h2
theorem gC {s:Script} (h:bL s=0):Full (bg s.bits):=by
 obtain ⟨h1,_⟩:=qj h;rcases h1 with h1|h1 <;> rw [h1]
 ·exact ⟨.inl rfl⟩
 ·exact ⟨.inr rfl⟩
theorem EvOk.pt {s:Script} (E:EvOk s) {x y:Int} (h:RY s x y=0):Pt s (bg s.bits) x y:=by
 unfold RY at h;split at h
 ·rename_i q;exact absurd h q
 rename_i q;rw [Decidable.not_not] at q;split at h
 ·cases h
 rename_i hc;have hf:bL s=0:=by
  refine Decidable.byContradiction fun hf => ?_;unfold aW at q;rw [if_pos hf] at q;exact hf q
 obtain ⟨_,V,I,_⟩:=tL (E.im hf) q;have hc:Qg s.canvas x y=true:=by simpa using hc
 exact ⟨V,gC hf,rfl,I,E.op,(qj hf).2,(QY.1 hc).2⟩
def zJ (s:Script) (r:Rect) (q:Nat):Pixel:=dS s (r.x0+((q % (r.x1 - r.x0).toNat:Nat):Int)) (r.y0+((q / (r.x1 - r.x0).toNat:Nat):Int))
def bC (s:Script) (r:Rect) (n:Nat):List Pixel:=(List.range n).map (zJ s r)
theorem xU {s:Script} {n:Nat}:dI s n=bC s s.canvas n:=rfl
theorem eG {s:Script} {r:Rect} {n:Nat}:(bC s r n).length=n:=by simp [bC]
theorem nt {s:Script} {r:Rect} {n i:Nat} (h:i<n):(bC s r n).getD i default=zJ s r i:=by grind [bC]
theorem rK {s:Script} {r:Rect} {n:Nat}:bC s r (n+1)=bC s r n ++ [zJ s r n]:=by simp [bC,List.range_succ]
theorem Al {s:Script} {r:Rect} {W a k:Nat} (hW:(W:Int)=r.x1 - r.x0) (hk:k<W):zJ s r (a * W+k)=dS s (r.x0+(k:Nat)) (r.y0+(a:Nat)):=by
 have eW:(r.x1 - r.x0).toNat=W:=by omega
 have e1:(a * W+k) % W=k:=by rw [Nat.mul_comm,Nat.mul_add_mod];exact Nat.mod_eq_of_lt hk
 have e2:(a * W+k) / W=a:=by rw [Nat.mul_comm,Nat.mul_add_div (by omega),Nat.div_eq_of_lt hk];omega
 grind [zJ]
structure InR (t c:Rect):Prop where
 x0:c.x0≤t.x0
 x1:t.x1≤c.x1
 y0:c.y0≤t.y0
 y1:t.y1≤c.y1
 w:t.x0<t.x1
 h:t.y0<t.y1
theorem InR.pt {t c:Rect} (h:InR t c) {x y:Int} (hx:ic t x y):ic c x y:=by
 obtain ⟨h1,h2,h3,h4,h5,h6⟩:=h;grind [ic]
theorem InR.empty {t c:Rect} (h:InR t c) (hc:Small c):aP t=false:=by
 obtain ⟨h1,h2,h3,h4,h5,h6⟩:=h;obtain ⟨x0,x1,y0,y1,hW,hH⟩:=hc;simp only [aP,mf,Bool.or_eq_false_iff,Bool.not_eq_false',decide_eq_true_eq,decide_eq_false_iff_not];omega
theorem GL {r:Rect} {w h i:Int} (hc:Small r) (ho:TileOk r w h) (hi:0≤i∧i<bj r w h * bY r w h):InR (og r w h (bj r w h) i) r∧(og r w h (bj r w h) i).x1 - (og r w h (bj r w h) i).x0≤w:=by
 obtain ⟨htx,hty⟩:=pe hc ho;have hok:=mr hc ho;obtain ⟨x0,x1,y0,y1,hW,hH⟩:=hc;obtain ⟨hw,hh⟩:=ho;obtain ⟨⟨b1,b2⟩,⟨b3,b4⟩,⟨b5,b6⟩,b7,b8⟩:=wW (w:=w) (h:=h) htx hty hi (by omega) (by omega);have ex:bj r w h=(r.x1 - r.x0 - 1) / w+1:=by unfold bj;rw [if_pos hok]
 have ey:bY r w h=(r.y1 - r.y0 - 1) / h+1:=by unfold bY;rw [if_pos hok]
 have c1:i % bj r w h * w≤(r.x1 - r.x0 - 1) / w * w:=Int.mul_le_mul_of_nonneg_right (by omega) (by omega);have c2:(r.x1 - r.x0 - 1) / w * w≤r.x1 - r.x0 - 1:=Int.ediv_mul_le _ (by omega);have c3:i / bj r w h * h≤(r.y1 - r.y0 - 1) / h * h:=Int.mul_le_mul_of_nonneg_right (by omega) (by omega);have c4:(r.y1 - r.y0 - 1) / h * h≤r.y1 - r.y0 - 1:=Int.ediv_mul_le _ (by omega);unfold og;generalize i % bj r w h * w=u at *
 generalize i / bj r w h * h=v at *
 refine ⟨⟨?_, ?_, ?_, ?_, ?_, ?_⟩, ?_⟩ <;> dsimp only <;> (try split) <;> omega
theorem Mb {r:Rect} {w h x y:Int} (hc:Small r) (ho:TileOk r w h) (hxy:ic r x y):∃ k,(0≤k∧k<bj r w h * bY r w h)∧ic (og r w h (bj r w h) k) x y:=by
 have hok:=mr hc ho;obtain ⟨x0,x1,y0,y1,hW,hH⟩:=hc;obtain ⟨hw,hh⟩:=ho;obtain ⟨p1,p2,p3,p4⟩:=hxy;have ex:bj r w h=(r.x1 - r.x0 - 1) / w+1:=by unfold bj;rw [if_pos hok]
 have ey:bY r w h=(r.y1 - r.y0 - 1) / h+1:=by unfold bY;rw [if_pos hok]
 have a0:0≤(x - r.x0) / w:=Int.ediv_nonneg (by omega) (by omega);have a1:(x - r.x0) / w≤(r.x1 - r.x0 - 1) / w:=Int.ediv_le_ediv (by omega) (by omega);have a2:=Int.mul_ediv_add_emod (x - r.x0) w;have a3:=Int.emod_nonneg (x - r.x0) (show w≠0 by omega);have a4:=Int.emod_lt_of_pos (x - r.x0) (show 0<w by omega);have d0:0≤(y - r.y0) / h:=Int.ediv_nonneg (by omega) (by omega);have d1:(y - r.y0) / h≤(r.y1 - r.y0 - 1) / h:=Int.ediv_le_ediv (by omega) (by omega);have d2:=Int.mul_ediv_add_emod (y - r.y0) h;have d3:=Int.emod_nonneg (y - r.y0) (show h≠0 by omega);have d4:=Int.emod_lt_of_pos (y - r.y0) (show 0<h by omega);rw [Int.mul_comm] at a2 d2;have hnx:0<bj r w h:=by
  have:0≤(r.x1 - r.x0 - 1) / w:=Int.ediv_nonneg (by omega) (by omega);omega
 generalize (x - r.x0) / w=a at *
 generalize (y - r.y0) / h=b at *
 have e1:(a+b * bj r w h) / bj r w h=b:=by rw [Int.add_mul_ediv_right _ _ (by omega),Int.ediv_eq_zero_of_lt (by omega) (by omega)];omega
 have e2:(a+b * bj r w h) % bj r w h=a:=by rw [Int.add_mul_emod_self_right,Int.emod_eq_of_lt (by omega) (by omega)]
 have e3:b * bj r w h≤(bY r w h - 1) * bj r w h:=Int.mul_le_mul_of_nonneg_right (by omega) (by omega);have e4:(bY r w h - 1) * bj r w h=bj r w h * bY r w h - bj r w h:=by rw [Int.sub_mul,Int.one_mul,Int.mul_comm]
 have e5:0≤b * bj r w h:=Int.mul_nonneg d0 (by omega);refine ⟨a+b * bj r w h,⟨by omega,by omega⟩, ?_⟩;grind [ic,og]
theorem GA {l:List Int} {n:Int} (h:eP l n=true) {k:Int} (hk:0≤k∧k<n):k ∈ dC l n:=by
 unfold eP at h;rw [Bool.and_eq_true,decide_eq_true_eq,List.all_eq_true] at h;obtain ⟨⟨h0,h1,h2⟩,h3⟩:=h;have hlen:=jF (l:=l) (n:=n) h0 h2;generalize dC l n=L at *
 have key:∀ i,(hi:i<L.length)→(0≤L[i]∧L[i]<n)∧L[i] ∉ L.take i:=fun i hi=>by
  have:=h3 i (List.mem_range.2 (by omega));unfold kH at this;grind
 have nd:L.Nodup:=by
  rw [List.Nodup,List.pairwise_iff_getElem];intro i j hi hj hij e;refine (key j hj).2 ?_;rw [← e];exact List.mem_take_iff_getElem.2 ⟨i,by omega,rfl⟩
 refine Decidable.byContradiction fun hn => ?_;have nd2:(k :: L).Nodup:=List.nodup_cons.2 ⟨hn,nd⟩;have hsub:(k :: L) ⊆ lr n.toNat:=fun v hv=>by
  have hv:0≤v∧v<n:=by
   rcases List.mem_cons.1 hv with e|e
   ·omega
   ·obtain ⟨i,hi,rfl⟩:=List.mem_iff_getElem.1 e;grind
  unfold lr;exact List.mem_map.2 ⟨v.toNat,List.mem_range.2 (by omega),by omega⟩
 have:=List.Nodup.length_le_of_subset nd2 hsub;grind [lr,iU]
theorem oV {s:Script} (h:bL s=0):(1≤s.tileW∧s.tileW≤s.canvas.x1 - s.canvas.x0)∧(1≤s.tileH∧s.tileH≤s.canvas.y1 - s.canvas.y0)∧eP s.order (bj s.canvas s.tileW s.tileH * bY s.canvas s.tileW s.tileH)=true:=by
 unfold bL at h;split at h
 ·cases h
 split at h
 ·cases h
 grind [cD]
def eS (s:Script):Int:=bj s.canvas s.tileW s.tileH * bY s.canvas s.tileW s.tileH
def se (s:Script) (i:Int):Rect:=og s.canvas s.tileW s.tileH (bj s.canvas s.tileW s.tileH) i
def er (s:Script):List Rect:=(dC s.order (eS s)).map (se s)
structure FrOk (s:Script):Prop where
 c:Small s.canvas
 f:bL s=0
theorem FrOk.t {s:Script} (h:FrOk s):TileOk s.canvas s.tileW s.tileH:=⟨(oV h.f).1,(oV h.f).2.1⟩
theorem FrOk.o {s:Script} (h:FrOk s):eP s.order (eS s)=true:=(oV h.f).2.2
theorem Ed {l:List Int} {n:Int} (h:eP l n=true) {k:Int} (hk:k ∈ dC l n):0≤k∧k<n:=by
 unfold eP at h;rw [Bool.and_eq_true,decide_eq_true_eq,List.all_eq_true] at h;obtain ⟨⟨h0,h1,h2⟩,h3⟩:=h;have hlen:=jF (l:=l) (n:=n) h0 h2;obtain ⟨i,hi,rfl⟩:=List.mem_iff_getElem.1 hk;have:=h3 i (List.mem_range.2 (by omega));unfold kH at this;grind
theorem FrOk.n {s:Script} (h:FrOk s):1≤eS s∧eS s≤20:=by
 obtain ⟨⟨a,b⟩,c,d⟩:=pe h.c h.t;unfold eS;have:=Int.mul_le_mul b d (by omega) (by decide:(0:Int)≤5);have:=Int.mul_le_mul a c (by omega) (by omega);omega
theorem FrOk.len {s:Script} (h:FrOk s):((er s).length:Int)=eS s∧((dC s.order (eS s)).length:Int)=eS s:=by
 have hn:=h.n;grind [eP,eS,o,dC,jF,er]
theorem FrOk.tile {s:Script} (h:FrOk s) {i:Nat} (hi:i<(dC s.order (eS s)).length):(0≤(dC s.order (eS s)).getD i 0∧(dC s.order (eS s)).getD i 0<eS s)∧(er s).getD i default=se s ((dC s.order (eS s)).getD i 0)∧InR (se s ((dC s.order (eS s)).getD i 0)) s.canvas:=by
 have hm:(dC s.order (eS s)).getD i 0 ∈ dC s.order (eS s):=by rw [List.getD_eq_getElem?_getD,List.getElem?_eq_getElem hi];exact List.getElem_mem _
 have hk:=Ed h.o hm;refine ⟨hk, ?_,(GL h.c h.t hk).1⟩;grind [er]
theorem FrOk.mem {s:Script} (h:FrOk s) {t:Rect} (ht:t ∈ er s):InR t s.canvas:=by
 unfold er at ht;obtain ⟨k,hk,rfl⟩:=List.mem_map.1 ht;exact (GL h.c h.t (Ed h.o hk)).1
theorem FrOk.has {s:Script} (h:FrOk s) {x y:Int} (hxy:ic s.canvas x y):∃ t ∈ er s,ic t x y:=by
 obtain ⟨k,hk,hin⟩:=Mb h.c h.t hxy;exact ⟨_,List.mem_map.2 ⟨k,GA h.o hk,rfl⟩,hin⟩
def BD (r:Rect) (x y:Int):Bool:=decide (r.x0≤x∧x<r.x1∧r.y0≤y∧y<r.y1)
def DK (s:Script) (q:Nat):Int:=s.canvas.x0+((q % (s.canvas.x1 - s.canvas.x0).toNat:Nat):Int)
def xO (s:Script) (q:Nat):Int:=s.canvas.y0+((q / (s.canvas.x1 - s.canvas.x0).toNat:Nat):Int)
def yT (s:Script) (L:List Rect) (q:Nat):Bool:=L.any fun t=>BD t (DK s q) (xO s q)
def ru (s:Script) (L:List Rect) (r:Rect) (y:Int) (q:Nat):Pixel:=if yT s L q=true∨(BD r (DK s q) (xO s q)=true∧xO s q<y) then HR s q else bQ
def rz (s:Script) (L:List Rect) (q:Nat):Pixel:=if yT s L q=true then HR s q else bQ
theorem Eg {s:Script} {L:List Rect} {r:Rect}:ru s L r r.y0=rz s L:=by grind [ru,rz,yT,BD]
theorem ME {s:Script} {L:List Rect} {r:Rect}:ru s L r r.y1=rz s (L ++ [r]):=by grind [ru,rz,yT,BD,DK,xO]
theorem Mi {s:Script} (h:FrOk s) {q:Nat} (hq:(q:Int)<(s.canvas.x1 - s.canvas.x0) * (s.canvas.y1 - s.canvas.y0)):rz s (er s) q=HR s q:=by
 obtain ⟨x0,x1,y0,y1,hw,hh⟩:=h.c;have e:(((s.canvas.x1 - s.canvas.x0).toNat:Nat):Int)=s.canvas.x1 - s.canvas.x0:=by omega
 have b1:q % (s.canvas.x1 - s.canvas.x0).toNat<(s.canvas.x1 - s.canvas.x0).toNat:=Nat.mod_lt _ (by omega);have b2:q / (s.canvas.x1 - s.canvas.x0).toNat<(s.canvas.y1 - s.canvas.y0).toNat:=by
  refine Nat.div_lt_of_lt_mul ?_;have:((s.canvas.x1 - s.canvas.x0).toNat * (s.canvas.y1 - s.canvas.y0).toNat:Nat)=((s.canvas.x1 - s.canvas.x0) * (s.canvas.y1 - s.canvas.y0)):=by rw [Int.natCast_mul,e,show (((s.canvas.y1 - s.canvas.y0).toNat:Nat):Int)=s.canvas.y1 - s.canvas.y0 by omega]
  omega
 have hin:ic s.canvas (DK s q) (xO s q):=by
  unfold ic DK xO;generalize q % (s.canvas.x1 - s.canvas.x0).toNat=a at *
  generalize q / (s.canvas.x1 - s.canvas.x0).toNat=b at *
  omega
 obtain ⟨t,ht,hxy⟩:=h.has hin;unfold rz;rw [if_pos];unfold yT;rw [List.any_eq_true];refine ⟨t,ht, ?_⟩;unfold BD;exact decide_eq_true hxy
theorem LQ {s : Script} {L : List Rect} {r : Rect} {W a lo n : Nat} {y : Int} (hi : InR r s.canvas) (hW : (W : Int) = s.canvas.x1 - s.canvas.x0) (hy : r.y0 ≤ y ∧ y < r.y1) (ha : (a : Int) = y - s.canvas.y0) (hlo : (lo : Int) = a * W + r.x0 - s.canvas.x0) (hn : (n : Int) = r.x1 - r.x0) (q : Nat) :
  ru s L r (y+1) q=if lo≤q∧q<lo+n then HR s q else ru s L r y q:=by
 obtain ⟨h1,h2,h3,h4,h5,h6⟩:=hi;have eW:(s.canvas.x1 - s.canvas.x0).toNat=W:=by omega
 have hWp:0<W:=by omega
 have hd:=Nat.div_add_mod q W;have hm:=Nat.mod_lt q hWp;have hlo':((a * W:Nat):Int)=a * W:=Int.natCast_mul ..;have key:(lo≤q∧q<lo+n)↔(BD r (DK s q) (xO s q)=true∧xO s q=y):=by
  unfold BD DK xO;rw [eW,decide_eq_true_eq];constructor
  ·intro ⟨k1,k2⟩;have k3:a * W≤q:=by omega
   have k4:q<(a+1) * W:=by rw [Nat.succ_mul];omega
   have k5:q / W=a:=by
    have q1:a≤q / W:=(Nat.le_div_iff_mul_le hWp).2 k3;have q2:q / W<a+1:=(Nat.div_lt_iff_lt_mul hWp).2 k4;omega
   grind
  ·grind
 grind [ru,yT,BD,DK,xO]
theorem Kh {s : Script} {r : Rect} {W a b lo n k : Nat} {y : Int} (hi : InR r s.canvas) (hW : (W : Int) = s.canvas.x1 - s.canvas.x0) (hy : r.y0 ≤ y ∧ y < r.y1) (ha : (a : Int) = y - s.canvas.y0) (hb : (b : Int) = y - r.y0) (hlo : (lo : Int) = a * W + r.x0 - s.canvas.x0) (hn : (n : Int) = r.x1 - r.x0) (hk : k < n) :
  zJ s r (b * n+k)=HR s (lo+k):=by
 obtain ⟨h1,h2,h3,h4,h5,h6⟩:=hi;have hlo':((a * W:Nat):Int)=a * W:=Int.natCast_mul ..;have e1:=Al (s:=s) (r:=r) (a:=b) hn hk;have e2:=Al (s:=s) (r:=s.canvas) (a:=a) (k:=(r.x0 - s.canvas.x0).toNat+k) hW (by omega);grind [zJ,HR,dS]
def ga (s:Script):Image:=if (aW s).1=0 then cN s else fB
def dV (s:Script) (r:Rect):Int:=if (aW s).1≠0 then (aW s).1 else if aP r=true∨gm s.canvas r=false then 20 else 0
def iR (s:Script) (r:Rect):Image:=if dV s r=0 then dd (r.x1 - r.x0) (r.y1 - r.y0) (bC s r ((r.x1 - r.x0) * (r.y1 - r.y0)).toNat) else fB
theorem qn {c r:Rect} (he:aP r=false) (h:gm c r=true):InR r c:=by
 unfold gm at h;rw [he,Bool.false_or] at h;simp only [Bool.and_eq_true,decide_eq_true_eq] at h;obtain ⟨⟨⟨⟨_,h1⟩,h2⟩,h3⟩,h4⟩:=h;have:=kC.1 he;exact ⟨by omega,by omega,by omega,by omega,by omega,by omega⟩
theorem EvOk.zero {s:Script} (E:EvOk s) (h:(aW s).1=0):bL s=0∧VOps s∧nQ s∧Full (bg s.bits):=by
 have hf:bL s=0:=by
  refine Decidable.byContradiction fun hf => ?_;unfold aW at h;rw [if_pos hf] at h;exact hf h
 obtain ⟨a,b,c,d⟩:=tL (E.im hf) h;grind [gC]
theorem EvOk.ptz {s:Script} (E:EvOk s) (h:(aW s).1=0) {x y:Int} (hx:ic s.canvas x y):Pt s (bg s.bits) x y:=by
 obtain ⟨a,b,c,d⟩:=E.zero h;exact ⟨b,d,rfl,c,E.op,(qj a).2,hx⟩
section
structure K4 where
 a:Int
 b:Int
 c:Int
 d:Int
def Lt (n:K4):List PV:=[PI n.a,PI n.b,PI n.c,PI n.d]
attribute [local go_sem] Int.toNat_natCast Lt
end
section
attribute [local go_sem] Nat.add_zero lq Nx cO fX Int.toNat_natCast cA
def wX {α:Type} (i:Nat) (q:Nat→α) (z:α):Nat→α:=fun a=>if a<i then q a else z
theorem Ma {α:Type} {i a:Nat} {q:Nat→α} {z:α} (e:a=i):wX (i+1) q z a=q i:=by rw [wX,if_pos (by omega),e]
theorem LF {α:Type} {i a:Nat} {q:Nat→α} {z:α} (e:¬ a=i):wX (i+1) q z a=wX i q z a:=by
 unfold wX;by_cases h:a<i
 ·rw [if_pos h,if_pos (by omega)]
 ·rw [if_neg h,if_neg (by omega)]
theorem pF {w:Nat}:∀ a,a<w→∀ j,j<6→(PV.val (([.int .u16 0, .int .u16 0, .int .u16 0, .int .u16 0, .int .u16 0, .int .u16 0]:List Value).getD j undef)).le ((cO sy).getD j .any):=fun a ha j hj=>by
 have hivl:j=0∨j=1∨j=2∨j=3∨j=4∨j=5:=by omega
 rcases hivl with rfl|rfl|rfl|rfl|rfl|rfl <;> exact PV.le_refl _
theorem pf {w:Nat}:∀ a,a<w→∀ j,j<5→(PV.val (([.int .u16 0, .int .u16 0, .int .u16 0, .int .u16 0, .int .u16 0]:List Value).getD j undef)).le ((aS bQ).getD j .any):=fun a ha j hj=>by
 have hivl:j=0∨j=1∨j=2∨j=3∨j=4:=by omega
 rcases hivl with rfl|rfl|rfl|rfl|rfl <;> exact PV.le_refl _
theorem mB {bx:Nat→Option Bx} {b k i:Nat} {x y:Bx} (hb:bx b=some x) (hk:bx k=some y):(if i=b then some x else if i=k then some y else bx i)=bx i:=by
 by_cases e0:i=b
 ·rw [if_pos e0,e0];exact hb.symm
 ·rw [if_neg e0];by_cases e1:i=k
  ·rw [if_pos e1,e1];exact hk.symm
  ·rw [if_neg e1]
def uw (n w:Nat) (f:Nat→Nat→PV) (t:Fr):Nat→Nat→PV:=fun i j=>if i=n+1 then (Nx w t).getD j .any else f i j
def yb (s:Script) (m:Int) (e:PV):List CV:=[.p (PI s.bits), .p (PI s.canvas.x0), .p (PI s.canvas.y0), .p (PI s.canvas.x1), .p (PI s.canvas.y1), .p (PI s.tileW), .p (PI s.tileH), .p (eI s.order), .p (tx s.images), .p (yU s.ops), .p (PU m), .p e]
theorem nD {s:Script} {m:Int} {e:PV}:∀ c ∈ yb s m e,CV.lt 0 c:=fun c hc=>by
 simp only [yb,List.mem_cons,List.not_mem_nil,or_false] at hc;rcases hc with rfl|rfl|rfl|rfl|rfl|rfl|rfl|rfl|rfl|rfl|rfl|rfl <;> trivial
theorem Ji (bx : Nat → Option Bx) (nx b k n w N : Nat) (f : Nat → Nat → PV) (s : Script) (m : Int) (e : PV) (o : Op) (t : Fr)
  (hb:bx b=some (.fix (lq s m e (.own k (n+1))))) (hk:bx k=some (.arr 170 14 N f)) (hbn:b<nx) (hkn:k<nx) (hbk:b≠k) (hn:n<N) (hN:N≤1000) (hw0:w≤1000) (hw1:0<w) (hf:Ol w (f n) t) :
  lU Sg bx nx 114 [.c (.ptr b 0),ag (fZ o)] (.tup []) (aJ b (.fix (lq s m e (.own nx (n+2)))) (aJ nx (.arr 170 14 (n+2) (uw n w f (jW o t))) (dr k bx))) (nx+1):=by
 have ht:True:=trivial;have eb:bx=aJ b (.fix (lq s m e (.own k (n+1)))) (aJ k (.arr 170 14 N f) bx):=by rw [← dv hk];exact dv hb
 have f11:f n 11=PB t.op.knockout:=hf 11 (by decide);have f12:f n 12=Js w t.acc:=hf 12 (by decide);have f13:f n 13=sW w t.back:=hf 13 (by decide);refine rR Tryz.func114 rfl (rs:=[]) rfl rfl fG (by decide +kernel) (Nat.le_of_ble_eq_true rfl) ?_ (fun kf hkf hbl => ?_)
 ·intro v hv;simp only [List.mem_cons,List.not_mem_nil,or_false] at hv;rcases hv with rfl|rfl
  ·exact hbn
  ·exact fun c hc=>by (obtain ⟨x,_,rfl⟩:=List.mem_map.1 hc;trivial)
 have hw:∀ i,nx≤i→bx i=none:=fun i hi=>by
  cases h:bx i with
  | none=>rfl
  | some y=>exact absurd (hbl i y h).1 (by omega)
 rw [eb];repeat' (first|(((with_reducible refine bT (id:=1) [(17,2)] (by decide +kernel) (by decide +kernel) ?_ (fun K hK => ?_));(first|(refine And.intro (fun iw hiw => ?_) ?_;(focus ((try simp (maxSteps:=999999)(disch:=omega) only [go_sem] at hiw ⊢);(repeat (refine Eq.trans (if_neg ?_) ?_;(focus omega)));(first|exact hw iw (by omega)|rfl)));(focus (first|exact Nat.zero_le _|(simp (maxSteps:=999999)(disch:=omega) only [go_sem];done)|(simp (maxSteps:=999999)(disch:=omega) only [go_sem];omega))))|exact FD));(try simp (maxSteps:=999999)(disch:=omega) only [go_sem]);and_intros;(all_goals first|(refine hK _ (by simp (maxSteps:=999999)(disch:=omega) only [go_sem]) ?_;clear hK K)|exact ai|skip))|(refine an (fun K hK => ?_);and_intros;all_goals first|(refine hK _ ?_;clear hK K)|try exact ai))
 simp only [f11,f12,f13];refine fw (id:=2) (.br 0 (.br 1 (.br 2 (.br 3 (.br 5 (.br 6 (.br 7 (.br 4 (.br 8 (.br 9 (.br 10 (.br 11 .leaf .nil) .nil) .nil) (.br 10 (.br 8 (.br 9 (.br 11 .leaf .nil) .nil) .nil) .nil)) (.br 8 (.br 4 (.br 9 (.br 10 (.br 11 .leaf .nil) .nil) .nil) (.br 10 (.br 4 (.br 9 (.br 11 .leaf .nil) .nil) .nil) .nil)) (.br 10 (.br 4 (.br 8 (.br 9 (.br 11 .leaf .nil) .nil) .nil) (.br 8 (.br 4 (.br 9 (.br 11 .leaf .nil) .nil) .nil) .nil)) .nil))) .nil) .nil) .nil) .nil) .nil) .nil) .nil) (by decide +kernel) (by (first|(refine And.intro (fun iw hiw => ?_) ?_;(focus ((try simp (maxSteps:=999999)(disch:=omega) only [go_sem] at hiw ⊢);(repeat (refine Eq.trans (if_neg ?_) ?_;(focus omega)));(first|exact hw iw (by omega)|rfl)));(focus (first|exact Nat.zero_le _|(simp (maxSteps:=999999)(disch:=omega) only [go_sem];done)|(simp (maxSteps:=999999)(disch:=omega) only [go_sem];omega))))|exact FD)) (fun K0 hW => ?_);refine (fun (tl:∀ st,Le st (vk [(0, .b (.c (.ptr b 0))),(3, .b (.c (.ptr nx 0))),(4, .b (.c (.ptr (nx+1) 0))),(5, .b (.c (.ptr (nx+2) 0)))] (CA nx bx [(nx, .fix ((fZ o).map CV.p)),(nx+1, .fix ((Nx w t).map CV.p)),(nx+2, .fix ((fZ o).map CV.p ++ [.own (nx+3) w, .own (nx+4) w])),(nx+3, .arr 147 6 w (oq cO fun _=>sy)),(nx+4, .arr 37 5 w (oq aS fun _=>bQ))]) (nx+5) kf)→K0 st) => ?_) (fun st hl=>hW st _ hl ?_)
 ·clear hW;repeat' (first|exact cg|(refine cH (fun K' hK' => ?_) ?_)|(refine bJ (tl _ ?_);clear tl)|(simp (maxSteps:=999999)(disch:=omega) only [go_sem];and_intros;(all_goals first|(refine hK' _ ?_;clear hK' K')|trivial|omega|exact Nat.le_of_ble_eq_true rfl|exact ai|skip)))
  all_goals first|(refine yh [(0,0),(1,1),(2,4),(3,2),(4,3)] rfl hkf (by omega) (by omega) ?_ ?_ ?_;(focus (intro i x hi hx;refine ⟨(hbl i x hx).2, .inl (Eq.trans ?_ hx)⟩;simp (maxSteps:=999999)(disch:=omega) only [go_sem];refine Eq.trans (if_neg (show ¬ i=nx by omega)) ?_;exact mB hb hk));(focus (simp (maxSteps:=999999)(disch:=omega) only [go_sem];done));(simp (maxSteps:=999999)(disch:=omega) only [go_sem];and_intros;(all_goals first|exact .inl (hf _ (by decide))|omega|exact .inr pF|exact .inr pf)))|(refine yh [(0,0),(1,1),(2,4),(3,3),(4,2)] rfl hkf (by omega) (by omega) ?_ ?_ ?_;(focus (intro i x hi hx;refine ⟨(hbl i x hx).2, .inl (Eq.trans ?_ hx)⟩;simp (maxSteps:=999999)(disch:=omega) only [go_sem];refine Eq.trans (if_neg (show ¬ i=nx by omega)) ?_;exact mB hb hk));(focus (simp (maxSteps:=999999)(disch:=omega) only [go_sem];done));(simp (maxSteps:=999999)(disch:=omega) only [go_sem];and_intros;(all_goals first|exact .inl (hf _ (by decide))|omega|exact .inr pF|exact .inr pf)))|(refine yh [(0,0),(1,1),(2,3),(3,2),(4,4)] rfl hkf (by omega) (by omega) ?_ ?_ ?_;(focus (intro i x hi hx;refine ⟨(hbl i x hx).2, .inl (Eq.trans ?_ hx)⟩;simp (maxSteps:=999999)(disch:=omega) only [go_sem];refine Eq.trans (if_neg (show ¬ i=nx by omega)) ?_;exact mB hb hk));(focus (simp (maxSteps:=999999)(disch:=omega) only [go_sem];done));(simp (maxSteps:=999999)(disch:=omega) only [go_sem];and_intros;(all_goals first|exact .inl (hf _ (by decide))|omega|exact .inr pF|exact .inr pf)))|(refine yh [(0,0),(1,1),(2,3),(3,4),(4,2)] rfl hkf (by omega) (by omega) ?_ ?_ ?_;(focus (intro i x hi hx;refine ⟨(hbl i x hx).2, .inl (Eq.trans ?_ hx)⟩;simp (maxSteps:=999999)(disch:=omega) only [go_sem];refine Eq.trans (if_neg (show ¬ i=nx by omega)) ?_;exact mB hb hk));(focus (simp (maxSteps:=999999)(disch:=omega) only [go_sem];done));(simp (maxSteps:=999999)(disch:=omega) only [go_sem];and_intros;(all_goals first|exact .inl (hf _ (by decide))|omega|exact .inr pF|exact .inr pf)))|(refine yh [(0,0),(1,1),(2,2),(3,3),(4,4)] rfl hkf (by omega) (by omega) ?_ ?_ ?_;(focus (intro i x hi hx;refine ⟨(hbl i x hx).2, .inl (Eq.trans ?_ hx)⟩;simp (maxSteps:=999999)(disch:=omega) only [go_sem];refine Eq.trans (if_neg (show ¬ i=nx by omega)) ?_;exact mB hb hk));(focus (simp (maxSteps:=999999)(disch:=omega) only [go_sem];done));(simp (maxSteps:=999999)(disch:=omega) only [go_sem];and_intros;(all_goals first|exact .inl (hf _ (by decide))|omega|exact .inr pF|exact .inr pf)))|(refine yh [(0,0),(1,1),(2,2),(3,4),(4,3)] rfl hkf (by omega) (by omega) ?_ ?_ ?_;(focus (intro i x hi hx;refine ⟨(hbl i x hx).2, .inl (Eq.trans ?_ hx)⟩;simp (maxSteps:=999999)(disch:=omega) only [go_sem];refine Eq.trans (if_neg (show ¬ i=nx by omega)) ?_;exact mB hb hk));(focus (simp (maxSteps:=999999)(disch:=omega) only [go_sem];done));(simp (maxSteps:=999999)(disch:=omega) only [go_sem];and_intros;(all_goals first|exact .inl (hf _ (by decide))|omega|exact .inr pF|exact .inr pf)))
 clear hW;repeat' (first|refine bU ?_|((with_reducible refine bN (id:=3) (fun K hW => ?_));(try simp (maxSteps:=999999)(disch:=omega) only [go_sem]);and_intros;all_goals first|(refine hK _ ?_;clear hK K)|try exact ai))
 refine hW _ (vk [(0, .b (.c (.ptr b 0))),(3, .b (.c (.ptr nx 0))),(4, .b (.c (.ptr (nx+1) 0))),(5, .b (.c (.ptr (nx+2) 0))),(31, .b (I w)),(32, .b (I 0))] (CA nx bx [(nx, .fix ((fZ o).map CV.p)),(nx+1, .fix ((Nx w t).map CV.p)),(nx+2, .fix ((fZ o).map CV.p ++ [.own (nx+3) w, .own (nx+4) w])),(nx+3, .arr 147 6 w (oq cO fun _=>sy)),(nx+4, .arr 37 5 w (oq aS fun _=>bQ))]) (nx+5) kf) ?_ ?_
 ·clear hW;refine yh [(0,0),(1,1),(2,2),(3,3),(4,4)] rfl hkf (by omega) (by omega) ?_ ?_ ?_
  ·exact fun i x hi hx=>⟨(hbl i x hx).2, .inl (by simp (maxSteps:=999999)(disch:=omega) only [go_sem];exact hx)⟩
  ·simp (maxSteps:=999999)(disch:=omega) only [go_sem];all_goals (first|exact .inl rfl|skip)
  ·simp (maxSteps:=999999)(disch:=omega) only [go_sem];and_intros;all_goals first|omega|exact .inl rfl|exact .inr (fun _ _ _ _=>PV.le_refl _)
 clear hW;refine eO fun KB hV => ?_;have tl:∀ st,Le st (vk [(0, .b (.c (.ptr b 0))),(5, .b (.c (.ptr nx 0)))] (CA nx (aJ b (.fix (lq s m e (.own k (n+1)))) (aJ k (.arr 170 14 N f) bx)) [(nx, .fix ((fZ o).map CV.p ++ [.p (Js w (jW o t).acc), .p (sW w (jW o t).back)]))]) (nx+1) kf)→KB st:=fun st hl=>hV st _ hl ?_
 ·refine aH (X:=Nat) (fun i=>vk [(0, .b (.c (.ptr b 0))),(3, .b (.c (.ptr nx 0))),(4, .b (.c (.ptr (nx+1) 0))),(5, .b (.c (.ptr (nx+2) 0))),(31, .b (I w)),(32, .b (I i))] (CA nx bx [(nx, .fix ((fZ o).map CV.p)),(nx+1, .fix ((Nx w t).map CV.p)),(nx+2, .fix ((fZ o).map CV.p ++ [.own (nx+3) w, .own (nx+4) w])),(nx+3, .arr 147 6 w (oq cO (wX i (jW o t).acc sy))),(nx+4, .arr 37 5 w (oq aS (wX i (jW o t).back bQ)))]) (nx+5) kf) (fun i=>i≤w) (fun i=>w - i) 0 ?_ ?_ ?_
  ·exact Nat.zero_le _
  ·refine yh [(0,0),(1,1),(2,2),(3,3),(4,4)] rfl hkf (by omega) (by omega) ?_ ?_ ?_
   ·exact fun i x hi hx=>⟨(hbl i x hx).2, .inl (by simp (maxSteps:=999999)(disch:=omega) only [go_sem];exact hx)⟩
   ·simp (maxSteps:=999999)(disch:=omega) only [go_sem];exact .inl rfl
   ·simp (maxSteps:=999999)(disch:=omega) only [go_sem];and_intros;all_goals first|omega|exact .inl rfl|exact .inr (fun _ _ _ _=>PV.le_refl _)
  ·intro i hi;rcases Nat.lt_or_ge i w with h|h
   ·have g:decide ((i:Int)<w)=true:=decide_eq_true (by omega);have hv:=Jl o.isolated t.op.knockout (t.acc i) (t.back i);repeat' (first|refine ah g ?_|(((with_reducible refine iM (id:=6) [(36,1),(39,1),(42,1),(45,1),(47,1),(50,3),(52,1),(55,3),(60,2),(61,2)] (by decide +kernel) (by decide +kernel) ?_ (fun K hK => ?_));(first|(refine And.intro (fun iw hiw => ?_) ?_;(focus ((try simp (maxSteps:=999999)(disch:=omega) only [go_sem] at hiw ⊢);(repeat (refine Eq.trans (if_neg ?_) ?_;(focus omega)));(first|exact hw iw (by omega)|rfl)));(focus (first|exact Nat.zero_le _|(simp (maxSteps:=999999)(disch:=omega) only [go_sem];done)|(simp (maxSteps:=999999)(disch:=omega) only [go_sem];omega))))|exact FD));(try simp (maxSteps:=999999)(disch:=omega) only [go_sem]);and_intros;(all_goals first|(refine hK _ (by simp (maxSteps:=999999)(disch:=omega) only [go_sem]) ?_;clear hK K)|exact ai|skip))|refine bU ?_|((first|refine an (fun K hK => ?_)|refine aa (hv) ?_);and_intros;all_goals first|(refine hK _ ?_;clear hK K)|try exact ai))
    refine hK _ (by simp (maxSteps:=999999)(disch:=omega) only [go_sem]) ?_;clear hK;repeat' (first|refine bU ?_|(refine an (fun K hK => ?_);and_intros;all_goals first|(refine hK _ ?_;clear hK K)|try exact ai))
    rw [ae];refine ak (i+1) ?_ (by omega) (by omega);refine yh [(0,0),(1,1),(2,2),(3,3),(4,4)] rfl hkf (by omega) (by omega) ?_ ?_ ?_
    ·exact fun i x hi hx=>⟨(hbl i x hx).2, .inl (by simp (maxSteps:=999999)(disch:=omega) only [go_sem];exact hx)⟩
    ·simp (maxSteps:=999999)(disch:=omega) only [go_sem];exact .inl rfl
    ·simp (maxSteps:=999999)(disch:=omega) only [go_sem];and_intros;all_goals first|omega|exact .inl rfl|skip
     ·refine .inr fun a ha j hj => ?_;by_cases e1:a=i
      ·rw [Ma e1];simp only [if_pos e1];rw [if_pos ⟨Nat.zero_le _,hj⟩];have hivl:j=0∨j=1∨j=2∨j=3∨j=4∨j=5:=by omega
       rcases hivl with rfl|rfl|rfl|rfl|rfl|rfl <;> exact PV.le_refl _
      ·rw [LF e1];simp only [if_neg e1];exact PV.le_refl _
     ·refine .inr fun a ha j hj => ?_;by_cases e1:a=i
      ·rw [Ma e1];simp only [if_pos e1];rw [if_pos ⟨Nat.zero_le _,hj⟩];have hivl:j=0∨j=1∨j=2∨j=3∨j=4:=by omega
       rcases hivl with rfl|rfl|rfl|rfl|rfl <;> exact PV.le_refl _
      ·rw [LF e1];simp only [if_neg e1];exact PV.le_refl _
   ·have g:decide ((i:Int)<w)=false:=decide_eq_false (by omega);obtain rfl:i=w:=by omega
    repeat' (first|refine ah g ?_|refine bU ?_|(refine an (fun K hK => ?_);and_intros;all_goals first|(refine hK _ ?_;clear hK K)|try exact ai))
    refine tl _ ?_;rw [← eb];refine yh [(0,2)] rfl hkf (by omega) (by omega) ?_ ?_ ?_
    ·exact fun i x hi hx=>⟨(hbl i x hx).2, .inl (by simp (maxSteps:=999999)(disch:=omega) only [go_sem];exact hx)⟩
    ·simp (maxSteps:=999999)(disch:=omega) only [go_sem];exact Nat.lt_succ_self _
    ·simp (maxSteps:=999999)(disch:=omega) only [go_sem];and_intros;all_goals first|omega|exact .inl rfl|skip
     ·refine DX (e:=147) (m:=i) (f:=oq cO (wX i (jW o t).acc sy)) (by simp (maxSteps:=999999)(disch:=omega) only [go_sem]) (Nat.le_refl _) (fun a ha j hj => ?_) (GS (c:=3) (ids:=[(0,2)]) rfl rfl);unfold oq wX;rw [if_pos ha];exact PV.le_refl _
     ·refine DX (e:=37) (m:=i) (f:=oq aS (wX i (jW o t).back bQ)) (by simp (maxSteps:=999999)(disch:=omega) only [go_sem]) (Nat.le_refl _) (fun a ha j hj => ?_) (GS (c:=4) (ids:=[(0,2)]) rfl rfl);unfold oq wX;rw [if_pos ha];exact PV.le_refl _
 clear hV;refine rQ (id:=8) (.br 0 (.br 1 (.br 2 (.br 3 (.br 4 (.br 5 (.br 6 (.br 7 (.br 8 (.br 9 (.br 10 .leaf .nil) .nil) .nil) .nil) .nil) .nil) .nil) .nil) .nil) .nil) .nil) (by decide +kernel) ?_ (fun K0 hW => ?_)
 ·refine ⟨fun iw hiw => ?_,Nat.zero_le _⟩;have hiw:nx+1≤iw:=hiw;show CA nx _ _ iw=none;unfold CA;rw [if_neg (by omega),kD,if_neg (by omega)];rfl
 replace hW:=iS hW;repeat' (first|exact cg|(refine cH (fun K' hK' => ?_) ?_)|(refine bJ (hW _ ?_);clear hW)|(simp (maxSteps:=999999)(disch:=omega) only [go_sem];and_intros;(all_goals first|(refine hK' _ ?_;clear hK' K')|trivial|omega|exact Nat.le_of_ble_eq_true rfl|exact ai|skip)))
 refine dJ ?_;refine ⟨_,Ld (l:=[]) (b:=b) (q:=nx+1+1) (n:=n+2) (T:=170) (sz:=14) (N:=n+2) (cs:=yb s m e) (f := ?ff) (f':=uw n w f (jW o t)) (base:=dr k (aJ b (.fix (lq s m e (.own k (n+1)))) (aJ k (.arr 170 14 N f) bx))) rfl hkf hbn (by omega) nD ?h1 ?h2 (.inr ?h3) ?h4 trivial,trivial,rfl,fun i y h=>h,rfl,rfl,fun v hv=>by cases hv⟩
 case h1=>(first|(simp (maxSteps:=999999)(disch:=omega) only [go_sem];done)|(simp (maxSteps:=999999)(disch:=omega) only [go_sem];rfl))
 case h2=>(first|(simp (maxSteps:=999999)(disch:=omega) only [go_sem];done)|(simp (maxSteps:=999999)(disch:=omega) only [go_sem];rfl))
 case h3 =>
  intro a ha j hj;unfold gY uw;by_cases e1:a=n+1
  ·rw [if_neg (by omega),if_pos e1,e1,Nat.sub_self];have hivl:j=0∨j=1∨j=2∨j=3∨j=4∨j=5∨j=6∨j=7∨j=8∨j=9∨j=10∨j=11∨j=12∨j=13:=by omega
   rcases hivl with rfl|rfl|rfl|rfl|rfl|rfl|rfl|rfl|rfl|rfl|rfl|rfl|rfl|rfl <;> exact PV.le_refl _
  ·rw [if_pos (by omega),if_neg e1];exact PV.le_refl _
 case h4 =>
  intro i x e1 hx;have hx:dr k bx i=some x:=by rw [← eb] at hx;exact hx
  unfold dr at hx;split at hx
  ·cases hx
  rename_i e2;obtain ⟨q1,q2⟩:=hbl i x hx;refine ⟨q1,q2, ?_⟩;simp (maxSteps:=999999)(disch:=omega) only [go_sem];exact hx
end
section
theorem DP {s:Script} {m:Int} (hm:Full m) (hmx:bg s.bits=m) (I:nQ s) (k:Nat) (x y:Int):PixV (cU (s.images.getD k default) x y) m:=by
 subst hmx;rcases Nat.lt_or_ge k s.images.length with h|h
 ·have:=I k (by omega) (by omega);unfold gV at this;rw [Int.toNat_natCast] at this;exact FM hm this
 ·rw [List.getD_eq_getElem?_getD,List.getElem?_eq_none h];have e:cU (default:Image) x y=bQ:=by
   unfold cU;rw [if_pos (.inl (by decide))]
  exact e ▸ ta hm
theorem Rf {s:Script} {o:Op} {x y:Int} {j:Nat} (hk:o.kind=1) (hi:0≤o.image∧o.image<s.images.length):(zR s x y j o).1=cU (s.images.getD o.image.toNat default) (x - o.x+j) (y - o.y):=by
 unfold zR cY;dsimp only;rw [if_pos ⟨hk,hi.1,hi.2⟩,pd,show x+(j:Int) - o.x=x - o.x+j by omega];rfl
theorem yk {s:Script} {m:Int} {o:Op} {p:Pixel} {x y:Int} {j:Nat} (hmk:0≤o.mask∧o.mask≤s.images.length):aM m o p (zR s x y j o).2=aM m o p (ja s o x y j):=by
 unfold aM;by_cases h:o.mask=0
 ·rw [if_pos h,if_pos h]
 ·rw [if_neg h,if_neg h];have e:(zR s x y j o).2=ja s o x y j:=by
   unfold zR cY ja;dsimp only;rw [if_pos (by omega),pd,show x+(j:Int) - o.maskX=x - o.maskX+j by omega];rfl
  rw [e]
structure PaintOk (s:Script) (m:Int) (o:Op) (x y:Int) (w:Nat) (t:Fr):Prop where
 op:1≤o.operator∧o.operator≤12
 mode:1≤o.mode∧o.mode≤12
 opac:0≤o.opacity∧o.opacity≤m
 mask:0≤o.mask∧o.mask≤s.images.length
 ox : -1048576≤o.x∧o.x≤1048576
 oy : -1048576≤o.y∧o.y≤1048576
 mx : -1048576≤o.maskX∧o.maskX≤1048576
 my : -1048576≤o.maskY∧o.maskY≤1048576
 mv:∀ j,j<w→0≤ja s o x y j∧ja s o x y j≤m
 v:∀ j,j<w→AccV (t.acc j) (t.back j) m
 ko:t.op.knockout=true→o.operator=4
section
variable {s:Script} {m x y:Int} {n i:Nat} {q:RS}
theorem Jv {o:Op} {j:Nat} (hm:Full m) (hmx:bg s.bits=m) (I:nQ s):0≤ja s o x y j∧ja s o x y j≤m:=by
 have:=DP hm hmx I (o.mask - 1).toNat (x - o.maskX+j) (y - o.maskY)
 exact ⟨this.a0,this.am⟩
theorem OT (hn : 0 < n) (C : ∀ j : Nat, j < n → Pt s m (x + j) y) (hi : i < s.ops.length) (hk : (aB s.ops i).kind = 1) {t : Fr} {r : List Fr} {jk : List Fr} (h : sw s m x y n ⟨t :: r, jk⟩ i) :
  PaintOk s m (aB s.ops i) x y n t∧0≤(aB s.ops i).image∧(aB s.ops i).image<s.images.length:=by
 have C0:=C 0 hn;obtain ⟨_,_,_,q4⟩:=ee.1 (C0.V.ok i hi);obtain ⟨_,_,_,q5,q6,_⟩:=q4 (by omega);simp only [ji,decide_eq_true_eq] at q5 q6;obtain ⟨b0,b1,b2,b3,b4,b5,b6⟩:=sL C0 hi (by omega);have ha:∀ j,j<n→At s m i (t.col j :: r.map fun u=>u.col j):=fun j hj=>Em C (by omega) h hj;have hf:=(ha 0 hn).fit C0 hi (by omega)
 exact ⟨⟨q5,q6,⟨hf.op0,hf.opm⟩,⟨b1,b2⟩,b3,b4,b5,b6,fun j _=>Jv C0.hm C0.mx C0.im,fun j hj=>(ha j hj).v.head.v,fun h=>hf.ctx.elim id fun q=>by
  have q2:t.op.knockout=false:=q.2
  rw [h] at q2;cases q2⟩,b0 hk⟩
theorem SN (hn : 0 < n) (C : ∀ j : Nat, j < n → Pt s m (x + j) y) (hi : i < s.ops.length) (hk : (aB s.ops i).kind = 3) {st jk : List Fr} (h : sw s m x y n ⟨st, jk⟩ i) :
  ∃ t u r,st=t :: u :: r∧PaintOk s m t.op x y n u∧(∀ j,j<n→AccV (t.acc j) (t.back j) m)∧∀ j,j<n→PixV (bI (t.acc j) (t.back j) m) m:=by
 have C0:=C 0 hn;have W:=C0.V.wf;obtain ⟨hl,ho⟩:=uT hn C (by omega) h;obtain ⟨g,sk,hsk⟩:∃ g sk,bZ s.ops i=g :: sk:=by
  cases hq:bZ s.ops i with
  | nil=>exact absurd hq (W.pops i hi hk)
  | cons g sk=>exact ⟨g,sk,rfl⟩
 rw [hsk] at hl ho
 match st,hl with
 | t :: u :: r,_ =>
  have hg:t.op=aB s.ops g:=(List.cons.inj ho).1;have hgl:g<i:=fg (ops:=s.ops) (by rw [hsk];exact List.mem_cons_self ..);have hgk:(aB s.ops g).kind=2:=il (i:=i) (by rw [hsk];exact List.mem_cons_self ..);obtain ⟨b0,b1,b2,b3,b4,b5,b6⟩:=sL C0 (show g<s.ops.length by omega) (by omega);obtain ⟨_,_,_,q4⟩:=ee.1 (C0.V.ok g (by omega));obtain ⟨_,_,_,q5,q6,_⟩:=q4 (by omega);rw [← hg] at b1 b2 b3 b4 b5 b6 q5 q6;simp only [ji,decide_eq_true_eq] at q5 q6;have ha:∀ j,j<n→At s m i (t.col j :: u.col j :: r.map fun u=>u.col j):=fun j hj=>Em C (by omega) h hj;obtain ⟨_,vf,_⟩:=(ha 0 hn).v;refine ⟨t,u,r,rfl,⟨q5,q6,⟨vf.op0,vf.opm⟩,⟨b1,b2⟩,b3,b4,b5,b6,fun j _=>Jv C0.hm C0.mx C0.im,fun j hj=>(ha j hj).v.2.2.head.v,fun h=>vf.ctx.elim id fun q => ?_⟩,fun j hj=>(ha j hj).v.head.v,fun j hj=>mN C0.hm (ha j hj).v.head.v⟩;have q2:u.op.knockout=false:=q.2;rw [h] at q2;cases q2
theorem Ot (hn:0<n) (C:∀ j:Nat,j<n→Pt s m (x+j) y) (hi:i<s.ops.length) (hk:(aB s.ops i).kind=2) {st jk:List Fr} (h:sw s m x y n ⟨st,jk⟩ i):∃ t r,st=t :: r∧r.length<64:=by
 have C0:=C 0 hn;obtain ⟨hl,ho⟩:=uT hn C (by omega) h;obtain ⟨_,_,_,q4⟩:=ee.1 (C0.V.ok i hi);obtain ⟨_,_,_,_,_,_,q7⟩:=q4 (by omega);have hd:=q7 hk;rw [List.length_map,List.length_reverse] at hd
 match st,hl with
 | t :: r,hl=>exact ⟨t,r,rfl,by simp only [List.length_cons] at hl;omega⟩
theorem Px (hn:0<n) (C:∀ j:Nat,j<n→Pt s m (x+j) y) (hi:i≤s.ops.length) {st jk:List Fr} (h:sw s m x y n ⟨st,jk⟩ i):∃ t r,st=t :: r∧r.length≤64:=by
 obtain ⟨hl,ho⟩:=uT hn C hi h;have:=MP (C 0 hn).V hi
 match st,hl with
 | t :: r,hl=>exact ⟨t,r,rfl,by simp only [List.length_cons] at hl;omega⟩
end
def oC (w:Nat) (f:Nat→Nat→Go.SL.PV):List Fr→Prop
 | []=>True
 | t :: r=>(∀ j,j<14→f r.length j=((fZ t.op ++ [Js w t.acc,sW w t.back]:List Go.SL.PV)).getD j .any)∧oC w f r
theorem nF {w:Nat} {f g:Nat→Nat→Go.SL.PV}:∀ {st:List Fr},(∀ i,i<st.length→∀ j,g i j=f i j)→oC w f st→oC w g st
 | [],_,_=>trivial
 | t :: r,h,⟨h1,h2⟩=>⟨fun j hj=>by rw [h r.length (by simp) j];exact h1 j hj,nF (fun i hi j=>h i (by simp;omega) j) h2⟩
end
section
attribute [local go_sem] Int.toNat_natCast qM
def Ak (s:Script) (r:Rect):PV := .lst 1 s.ops.length (fun a _=>PB (gn s r a))
def sH (s:Script) (r:Rect) (i:Nat):Nat→Nat→PV:=fun a _=>PB (decide (a<i) && gn s r a)
theorem vW {s:Script} {r:Rect} {i a:Nat} {v:Bool} (h:v=gn s r i):(if a=i then PB v else PB (decide (a<i) && gn s r a))=PB (decide (a<i+1) && gn s r a):=by
 by_cases e:a=i
 ·rw [if_pos e,decide_eq_true (by omega),Bool.true_and,h,e]
 ·rw [if_neg e];by_cases q:a<i
  ·rw [decide_eq_true q,decide_eq_true (by omega)]
  ·rw [decide_eq_false q,decide_eq_false (by omega)]
theorem Jo {s:Script} {r:Rect} {i e a:Nat} (hf:∀ j,i≤j→j≤e→gn s r j=false) (hi:i≤e):(if a=i then PB false else PB (decide (a<i) && gn s r a))=PB (decide (a<e+1) && gn s r a):=by
 by_cases q:a<i
 ·rw [if_neg (by omega),decide_eq_true q,decide_eq_true (by omega)]
 ·have h2:(decide (a<e+1) && gn s r a)=false:=by
   by_cases q2:a<e+1
   ·rw [hf a (by omega) (by omega),Bool.and_false]
   ·rw [decide_eq_false q2,Bool.false_and]
  rw [h2,decide_eq_false q,Bool.false_and];split <;> rfl
theorem BR {s:Script} {r:Rect} {a:Nat} (h:a<s.ops.length):sH s r s.ops.length a 0=PB (gn s r a):=by
 unfold sH;rw [decide_eq_true h,Bool.true_and]
theorem yn (s:Script) (r:Rect) (V:VOps s) (hs:ScriptLen s):aA Sg 55 [ag (aF s),ag (aQ r)] (fun x=>x = .tup [.c (.p (Ak s r)),I 0]):=by
 have ht:True:=trivial;have hn:=V.cnt;have W:=V.wf;have h1:=Ft s V hs;have h2:=qJ s V;refine dY ?_;refine aD Tryz.func55 [.tmp 4, .tmp 5] ?_;repeat' (first|refine ah ht ?_|refine ax ?_|refine an (fun K hK => ?_)|refine aa (h1) ?_|refine aa (h2) ?_|(refine aq hK ?_;try clear hK K))
 refine aH (X:=Nat) (fun i=>aT [(2, .b (.c (.ptr 0 0))),(3, .b (.c (.ptr 1 0))),(4, .b (.c (.p (.val (.slice none 0 0))))),(5, .b (I 0)),(6, .b (.c (.p (qM s.ops.length (bp s))))),(8, .b (.c (.p (eR s.ops.length (aN s.ops))))),(10, .b (.c (.own 2 s.ops.length))),(11, .b (I i))]
  [(0, .fix ((aF s).map CV.p)),(1, .fix ((aQ r).map CV.p)),(2, .arr 4 1 s.ops.length (sH s r i))] 3) (fun i=>i≤s.ops.length∧Reach s r i) (fun i=>s.ops.length - i) 0 ?_ ?_ ?_
 ·exact ⟨Nat.zero_le _,fun g hg=>by cases hg⟩
 ·refine au [(1,some 1),(2,some 2)] ?_ ?_;and_intros;all_goals try exact aj
  refine .inr fun a ha j hj => ?_;obtain rfl:j=0:=by omega
  exact PV.le_refl _
 rintro i ⟨hi,hR⟩;rcases Nat.lt_or_ge i s.ops.length with h|h
 ·have g1:decide ((i:Int)<s.ops.length)=true:=decide_eq_true (by omega);have h3:=nz (bp s i) r;have h4:=cG (fF (bp s i) r);have hact:gn s r i = !aP (fF (bp s i) r):=rf hR;by_cases hk:(aB s.ops i).kind=2
  ·have hk2:(s.ops.getD i default).kind=2:=hk;cases hm:aP (fF (bp s i) r) with
   | true =>
    rw [hm] at h4 hact;have hnm:fT s r i=false:=by unfold fT;rw [hm];rfl
    obtain ⟨e1,e2,e3,_⟩:=vS (m:=0) (z:=fun _ _=>(bQ,0)) W h (by omega) hR hnm;repeat' (first|refine ah (And.intro g1 hk2) ?_|refine ax ?_|refine an (fun K hK => ?_)|refine aa (h3) ?_|refine aa (h4) ?_|(refine aq hK ?_;try clear hK K))
    rw [ae];refine ak (aN s.ops i+1) ?_ ⟨by omega,e3⟩ (by omega);refine au [(1,some 1),(2,some 2)] ?_ ?_;and_intros;all_goals try exact aj
    refine .inr fun a ha j hj => ?_;obtain rfl:j=0:=by omega
    show PV.le _ (sH s r (aN s.ops i+1) a 0);unfold sH;rw [← Jo (fun j h1 h2 => ?_) e1]
    ·exact PV.le_refl _
    ·by_cases e:j=i
     ·rw [e];exact hact
     ·exact Mz W h hk hnm (by omega) h2
   | false =>
    rw [hm] at h4 hact;repeat' (first|refine ah (And.intro g1 hk2) ?_|refine ax ?_|refine an (fun K hK => ?_)|refine aa (h3) ?_|refine aa (h4) ?_|(refine aq hK ?_;try clear hK K))
    rw [ae];refine ak (i+1) ?_ ⟨by omega,nC W h hR hact⟩ (by omega);refine au [(1,some 1),(2,some 2)] ?_ ?_;and_intros;all_goals try exact aj
    refine .inr fun a ha j hj => ?_;obtain rfl:j=0:=by omega
    show PV.le _ (sH s r (i+1) a 0);unfold sH;rw [← vW hact.symm];exact PV.le_refl _
  ·have hk2:((s.ops.getD i default).kind == 2)=false:=beq_eq_false_iff_ne.2 hk;have hRn:Reach s r (i+1):=by
    rcases W.kinds i h with k|k|k
    ·unfold Reach;rw [dM k];exact hR
    ·exact absurd k hk
    ·exact nC W h hR (zp W h k hR)
   generalize aP (fF (bp s i) r)=v at *
   repeat' (first|refine ah (And.intro g1 hk2) ?_|refine ax ?_|refine an (fun K hK => ?_)|refine aa (h3) ?_|refine aa (h4) ?_|(refine aq hK ?_;try clear hK K))
   rw [ae];refine ak (i+1) ?_ ⟨by omega,hRn⟩ (by omega);refine au [(1,some 1),(2,some 2)] ?_ ?_;and_intros;all_goals try exact aj
   refine .inr fun a ha j hj => ?_;obtain rfl:j=0:=by omega
   show PV.le _ (sH s r (i+1) a 0);unfold sH;rw [← vW hact.symm];exact PV.le_refl _
 ·have g1:decide ((i:Int)<s.ops.length)=false:=decide_eq_false (by omega);obtain rfl:i=s.ops.length:=by omega
  repeat' (first|refine ah g1 ?_|refine aC ?_)
  refine dq ⟨oR (gX fun a ha j hj => ?_),cX trivial,trivial⟩;obtain rfl:j=0:=by omega
  rw [BR ha]
def BP (s:Script) (r:Rect) (i j:Nat):Bool:=fT s r i && (List.range j).all fun k => !(decide ((aB s.ops k).kind=2) && decide (i<aN s.ops k)) || fT s r k
def AY (s:Script) (r:Rect) (i k:Nat):Nat→Nat→PV:=fun a _=>if a=i then PB (BP s r i k) else PB (decide (a<i) && gn s r a)
theorem Gc {s:Script} {r:Rect} {i k j:Nat}:AY s r i k i j=PB (BP s r i k):=if_pos rfl
attribute [local go_sem] Gc
end
theorem Fv (m:Image) (mx:Int) (hm:Full mx) (h:AW m mx):aA Sg 69 [ag (aI m),U mx] (fun r=>r = .b (I (eJ m mx))):=by
 cases hf:bd m with
 | false=>exact FE m mx hf
 | true =>
  cases hs:m.solid with
  | true=>exact AB m mx hs hf
  | false =>
   rcases h with h|h|h
   ·rw [xa h];exact EF m mx hm hs h
   ·rw [hf] at h;cases h
   ·rw [hs] at h;cases h
theorem qB (s:Script) (hs:ScriptLen s) (hT:bL s=0→Full (bg s.bits)∧∀ m ∈ s.images,AW m (bg s.bits)):aA Sg 39 [ag (aF s)] (fun r=>r = .tup [I (aW s).1,I (aW s).2]):=by
 have h1:=wO s hs;have h2:=yX s hs;have h3:aA Sg 68 [I s.bits] (fun x=>x = .tup [U (bg s.bits),B (decide (s.bits=8∨s.bits=16))]):=gG s.bits;unfold aW;by_cases hf:bL s=0
 ·obtain ⟨hm,hi⟩:=hT hf;rw [if_neg (by rw [Decidable.not_not];exact hf)];rw [hf] at h1;have ht:True:=trivial;obtain ⟨R,hR⟩:∃ R,(if (fD (bg s.bits) 0 s.images).1≠0 then fD (bg s.bits) 0 s.images else kt s)=R:=⟨_,rfl⟩
  rw [hR];refine aD Tryz.func39 [.tmp 2, .tmp 3] ?_;repeat' (first|refine ah ht ?_|refine ax ?_|refine an (fun K hK => ?_)|refine aa (h1) ?_|refine aa (h3) ?_|(refine aq hK ?_;try clear hK K))
  refine aH (X:=Nat) (fun i=>aT [(1, .b (.c (.ptr 0 0))),(5, .b (U (bg s.bits))),(22, .b (.c (.p (tx s.images)))),(23, .b (I s.images.length)),(24, .b (I i))] [(0, .fix ((aF s).map CV.p))] 1) (fun i=>i≤s.images.length∧fD (bg s.bits) 0 s.images=fD (bg s.bits) i (s.images.drop i)) (fun i=>s.images.length - i) 0 ?_ ?_ ?_
  ·exact ⟨Nat.zero_le _,by rw [List.drop_zero]⟩
  ·refine au [] ?_ ?_;and_intros;all_goals try exact aj
  ·rintro i ⟨hil,hgo⟩;have hlen:=hs.images;rcases Nat.lt_or_ge i s.images.length with h|h
   ·rw [tD h] at hgo;have hmem:s.images.getD i default ∈ s.images:=by
     rw [List.getD_eq_getElem?_getD,List.getElem?_eq_getElem h];exact List.getElem_mem _
    have hv:=Fv (s.images.getD i default) (bg s.bits) hm (hi _ hmem);by_cases h0:eJ (s.images.getD i default) (bg s.bits)=0
    ·rw [if_pos h0] at hgo;rw [h0] at hv
     repeat' (first|refine ah ht ?_|refine ax ?_|refine an (fun K hK => ?_)|refine aa (hv) ?_|(refine aK (fun hb => ?_) (fun hb => ?_) <;> try exact aE)|(refine aq hK ?_;try clear hK K))
     rw [ae];refine ak (i+1) ?_ ⟨by omega,hgo⟩ (by omega);refine au [] ?_ ?_;and_intros;all_goals try exact aj
    ·rw [if_neg h0] at hgo;have g0:(eJ (s.images.getD i default) (bg s.bits) != 0)=true:=by rw [bne_iff_ne];exact h0
     have hR2:R=(eJ (s.images.getD i default) (bg s.bits),(i:Int)):=by rw [← hR,hgo,if_pos h0]
     rw [hR2]
     repeat' (first|with_reducible exact bq|refine ah g0 ?_|refine ax ?_|refine an (fun K hK => ?_)|refine aa (hv) ?_|(refine aK (fun hb => ?_) (fun hb => ?_) <;> try exact aE)|(refine aq hK ?_;try clear hK K))
   ·have e:s.images.drop i=[]:=List.drop_eq_nil_of_le h;rw [e] at hgo;have hR2:R=kt s:=by rw [← hR,hgo,if_neg (by simp [fD])]
    rw [← hR2] at h2
    repeat' (first|with_reducible exact bq|refine ax ?_|refine an (fun K hK => ?_)|refine aa (h2) ?_|(refine aK (fun hb => ?_) (fun hb => ?_) <;> try exact aE)|(refine aq hK ?_;try clear hK K))
 ·rw [if_pos hf];have g0:(bL s != 0)=true:=by rw [bne_iff_ne];exact hf
  refine aD Tryz.func39 [.tmp 2, .tmp 3] ?_;repeat' (first|with_reducible exact bq|refine ah g0 ?_|refine ax ?_|refine an (fun K hK => ?_)|refine aa (h1) ?_|(refine aq hK ?_;try clear hK K))
theorem Of.slen {c:Scene} {s:Script} (h:Of c s):ScriptLen s:=by
 have h1:=(ua c).order;exact ⟨by rw [h.o];exact h1,Nat.le_trans h.n2 (by decide),Nat.le_trans h.V.cnt (by decide)⟩
theorem Of.small {c:Scene} {s:Script} (h:Of c s):Small s.canvas:=by rw [h.cv];exact cJ c
theorem Of.render {c:Scene} {s:Script} (h:Of c s):aA Sg 11 [ag (aF s)] (fun r=>r = .tup [ag (aI (cN s)),I 0,I 0]) :=
 zG s h.slen h.small h.V (by rw [h.mx];exact Am c) h.im (fun x y q=>⟨_,h.pt (by rw [h.cv] at q;exact q)⟩)
def lT (s:Script) (r:Rect):Image:=dd (r.x1 - r.x0) (r.y1 - r.y0) (bC s r ((r.x1 - r.x0) * (r.y1 - r.y0)).toNat)
theorem uO {s:Script} {r:Rect} (hr:Small r):lT s r=gQ (r.x1 - r.x0) (r.y1 - r.y0) (bC s r ((r.x1 - r.x0) * (r.y1 - r.y0)).toNat)∧cK (r.x1 - r.x0) (r.y1 - r.y0)=true∧(((bC s r ((r.x1 - r.x0) * (r.y1 - r.y0)).toNat).length:Nat):Int)=(r.x1 - r.x0) * (r.y1 - r.y0):=by
 obtain ⟨x0,x1,y0,y1,hw,hh⟩:=hr;have h0:1≤(r.x1 - r.x0) * (r.y1 - r.y0):=by
  have:=Int.mul_le_mul hw.1 hh.1 (by omega) (by omega);omega
 have hok:cZ (r.x1 - r.x0) (r.y1 - r.y0) (bC s r ((r.x1 - r.x0) * (r.y1 - r.y0)).toNat).length=true:=by
  rw [eG];exact mK hw hh rfl
 have h2:=hok;unfold cZ at h2;rw [Bool.and_eq_true,decide_eq_true_eq] at h2;refine ⟨?_,h2.1,h2.2⟩;unfold lT dd;rw [if_pos hok]
theorem rE {s:Script} {r:Rect} (hr:Small r) {x y:Int} (h:ic r x y):cU (lT s r) (x - r.x0) (y - r.y0)=dS s x y:=by
 obtain ⟨e,hf,hl⟩:=uO (s:=s) hr;obtain ⟨x0,x1,y0,y1,hw,hh⟩:=hr;obtain ⟨p1,p2,p3,p4⟩:=h;rw [e];unfold cU;rw [zl hf hl];have hn:¬ (true=false∨x - r.x0<0∨(gQ (r.x1 - r.x0) (r.y1 - r.y0) (bC s r ((r.x1 - r.x0) * (r.y1 - r.y0)).toNat)).w≤x - r.x0∨y - r.y0<0∨(gQ (r.x1 - r.x0) (r.y1 - r.y0) (bC s r ((r.x1 - r.x0) * (r.y1 - r.y0)).toNat)).h≤y - r.y0):=by
  show ¬ (true=false∨x - r.x0<0∨r.x1 - r.x0≤x - r.x0∨y - r.y0<0∨r.y1 - r.y0≤y - r.y0);simp only [Bool.true_eq_false,false_or];omega
 rw [if_neg hn];obtain ⟨hi,e2⟩:=LU hl (x:=x - r.x0) (y:=y - r.y0) (by omega) (by omega) (by omega) (by omega);rw [e2];rw [eG] at hi;rw [nt hi];obtain ⟨W,hW⟩:∃ W:Nat,(W:Int)=r.x1 - r.x0:=⟨(r.x1 - r.x0).toNat,by omega⟩
 obtain ⟨X,hX⟩:∃ X:Nat,x - r.x0=X:=⟨(x - r.x0).toNat,by omega⟩
 obtain ⟨Y,hY⟩:∃ Y:Nat,y - r.y0=Y:=⟨(y - r.y0).toNat,by omega⟩
 have ei:((y - r.y0) * (r.x1 - r.x0)+(x - r.x0)).toNat=Y * W+X:=by rw [hX,hY,← hW,← Int.natCast_mul,← Int.natCast_add,Int.toNat_natCast]
 rw [ei,Al hW (by omega),← hX,← hY];rw [show r.x0+(x - r.x0)=x by omega,show r.y0+(y - r.y0)=y by omega]
theorem FJ {s:Script} {r:Rect} (hr:Small r):(lT s r).w=r.x1 - r.x0∧(lT s r).h=r.y1 - r.y0:=by rw [(uO hr).1];exact ⟨rfl,rfl⟩
theorem wH {s:Script} {r:Rect} (hr:Small r):ImgLen (lT s r):=by
 obtain ⟨e,hf,hl⟩:=uO (s:=s) hr;have hn := @eG s r ((r.x1 - r.x0) * (r.y1 - r.y0)).toNat
 have hb:((r.x1 - r.x0) * (r.y1 - r.y0)).toNat≤20:=by
  have:=Int.mul_le_mul hr.w.2 hr.h.2 (by have:=hr.h;omega) (by decide:(0:Int)≤5);omega
 rw [e];refine ⟨?_, ?_, ?_, ?_, ?_⟩ <;> (show (List.map _ _).length≤_;rw [List.length_map,hn];omega)
theorem zD:ImgLen fB:=⟨Nat.zero_le _,Nat.zero_le _,Nat.zero_le _,Nat.zero_le _,Nat.zero_le _⟩
theorem Of.sl {c:Scene} {s:Script} (h:Of c s):ScriptLen s:=by
 have h1:=(ua c).order;exact ⟨by rw [h.o];exact h1,Nat.le_trans h.n2 (by decide),Nat.le_trans h.V.cnt (by decide)⟩
theorem TT {m:Image} {mx:Int} (h:ImgV m mx):LX m:=by
 cases hs:m.solid with
 | true=>have p:=tw h hs;exact ⟨p.n0,p.n1,p.n2⟩
 | false =>
  have hf:=h.f;unfold bd at hf;simp only [hs,Bool.and_eq_true,Bool.false_or,decide_eq_true_eq] at hf;have e:m.color=bQ:=by simp_all
  unfold LX;rw [e];exact ⟨by decide,by decide,by decide⟩
theorem Of.ev {c:Scene} {s:Script} (h:Of c s):EvOk s:=⟨h.sl,h.op,fun _ m hm=>by
 obtain ⟨i,hi,rfl⟩:=List.mem_iff_getElem.1 hm;have:=h.im i (by omega) (by omega);unfold gV at this;rw [Int.toNat_natCast,List.getD_eq_getElem?_getD,List.getElem?_eq_getElem hi] at this
 exact ⟨.inl this,TT this⟩⟩
def VS:Pixel:=⟨1,2,3,255,255⟩
def awI:Image := { w:=1,h:=1,solid:=true,color:=VS,p0:=⟨0,0,0,[]⟩,p1:=⟨0,0,0,[]⟩,p2:=⟨0,0,0,[]⟩,p3:=⟨0,0,0,[]⟩,p4:=⟨0,0,0,[]⟩ }
def awO:Op := { kind:=1,image:=0,x:=1,y:=0,mask:=0,maskX:=0,maskY:=0,opacity:=255,operator:=4,mode:=1,isolated:=false,knockout:=false }
def Er:Script := { bits:=8,canvas:=⟨0,0,2,1⟩,tileW:=1,tileH:=1,order:=[],images:=[awI],ops:=[awO] }
theorem Wj:EvOk Er:=⟨⟨by decide,by decide,by decide⟩,fun o ho=>by rw [List.mem_singleton.1 ho];decide,fun _ m hm=>by rw [List.mem_singleton.1 hm];exact ⟨.inr (.inr rfl),by decide,by decide,by decide⟩⟩
end Go.Proofs.YtcbifofjjpfbcaaGreatDoor
