/- Part of the proof: VD, LP, R5, R6. -/
import Derived.Test.YtcbifofjjpfbcaaGreatDoorM27
set_option linter.unusedSimpArgs false
set_option linter.unusedVariables false
set_option maxHeartbeats 4000000
set_option maxRecDepth 16000
namespace Go.Proofs.YtcbifofjjpfbcaaGreatDoor
open Go Go.SL
open Go.RowKit (wrap64)
section
attribute [local go_sem] Int.toNat_natCast
def Qg (r:Rect) (x y:Int):Bool := !aP r && decide (r.x0≤x) && decide (x<r.x1) && decide (r.y0≤y) && decide (y<r.y1)
theorem QY {r:Rect} {x y:Int}:Qg r x y=true↔Ez r x y:=by
 unfold Qg Ez ic;simp only [Bool.and_eq_true,Bool.not_eq_true',decide_eq_true_eq,and_assoc]
end
section
theorem DT {S:Env} {f:FuncId} {args:List BV} {e sz n:Nat} {g:Nat→Nat→PV} (h:iV S f args e sz n g):aA S f args fun r=>r = .b (.c (.p (.lst sz n g))) :=
 ⟨h.1,fun ok w vs h1 h2 h3 h4=>(h.2 ok w vs h1 h2 h3 h4).mono fun ex w' ⟨v,xs,he,hB,h0,hown,hone,hd⟩=>by
  refine ⟨v,_,he,rfl,trivial,hB, ?_⟩;rcases hown.2 with ⟨e1,e2⟩|⟨b,cap,cur,hv,hge,hh,hnc,_,hcs,htk⟩
  ·rw [e1];exact ⟨none,0,by rw [e2],by omega,fun h=>by omega⟩
  ·rw [hv];refine ⟨_,cap,rfl,hnc,fun _=>⟨b,0,rfl,⟨ch hh,fun q=>by omega⟩,fun i hi j hj => ?_⟩⟩;have hlt:i * sz+j<n * sz:=ej hi hj;have hlt2:i * sz+j<cur.size:=by rw [hcs];exact Nat.lt_of_lt_of_le hlt (Nat.mul_le_mul_right _ hnc)
   have hlx:i * sz+j<xs.length:=by rw [hown.1];exact hlt
   have hxe:xs.getD (i * sz+j) undef=cur.getD (i * sz+j) undef:=by rw [← htk];simp [List.getElem?_take,hlt]
   refine ⟨cur.getD (i * sz+j) undef,by rw [Nat.zero_add];exact bP hh hlt2, ?_, ?_⟩
   ·rw [← hxe,List.getD_eq_getElem?_getD,List.getElem?_eq_getElem hlx];exact hone _ (List.getElem_mem hlx)
   ·rw [← hxe]
    exact bo.mono (fun b hb=>hb.elim) (hd i hi j hj)⟩
attribute [local go_sem] Int.toNat_natCast cA
theorem Xo {st : St} {bx : Nat → Option Bx} {nx q e sz n m : Nat} {F G : Nat → Nat → PV} {kf : Nat → SV} (hkf : st.kf = kf) (hkl : ∀ s, (kf s).lt nx) (hq : q < nx) (hbl : ∀ i y, bx i = some y → i < nx ∧ y.lt nx)
  (hoth:∀ i,i<nx→i≠q→st.bx i=bx i) (hqb:st.bx q=some (.arr e sz n F)) (hF:F=G∨∀ i,i<n→∀ j,j<sz→PV.le (F i j) (G i j)):Le st (vk [] (aJ q (.arr e sz n G) bx) (nx+m) kf):=by
 refine ZI nx [] [] hkf hkl (Nat.le_add_right _ _) (by omega) trivial (fun i hi hn => ?_) (fun i hi=>by cases hi) rfl (fun i x hx => ?_)
 ·unfold aJ at hi;rw [if_neg (by omega)] at hi;cases hb:bx i with
  | none=>exact absurd hb hi
  | some y=>have:=(hbl i y hb).1;omega
 ·unfold aJ at hx;by_cases hiq:i=q
  ·subst hiq;rw [if_pos rfl] at hx;cases hx;refine .inr ⟨?_,by omega,trivial⟩;unfold gh;rw [jm hq];exact ⟨_,hqb,rfl,rfl,rfl,hF⟩
  ·rw [if_neg hiq] at hx;obtain ⟨h1,h2⟩:=hbl i x hx;exact .inl ⟨h1,(hoth i h1 hiq).trans hx,h2⟩
end
section
def XW (s:Script) (m:Int) (e t:PV):BV := .c (.ipt 13 (fun j=>(aF s ++ [PU m,e,t]).getD j .any) 0)
attribute [local go_sem] Int.toNat_natCast XW
def yd (M:Image) (x y:Int) (k:Int):Nat→Pixel:=fun j=>if (j:Int)<k then cU M (x+j) y else bQ
theorem Ns {M:Image} {x y:Int} {a:Nat}:yd M x y (if 0 - x>0 then 0 - x else 0) a=bQ:=by
 have h:(a:Int)<(if 0 - x>0 then 0 - x else 0)→x+a<0:=by split <;> omega
 unfold yd;by_cases q:(a:Int)<(if 0 - x>0 then 0 - x else 0)
 ·have:=h q;rw [if_pos q,cU,if_pos (by omega)]
 ·rw [if_neg q]
theorem LP {M:Image} {x y k:Int} {a:Nat} (h:0≤k):yd M x y (k+1) a=if a=k.toNat then cU M (x+k) y else yd M x y k a:=by
 by_cases e:a=k.toNat
 ·rw [if_pos e,yd,if_pos (by omega),show (a:Int)=k by omega]
 ·rw [if_neg e,yd,yd];by_cases q:(a:Int)<k
  ·rw [if_pos q,if_pos (by omega)]
  ·rw [if_neg q,if_neg (by omega)]
theorem vQ (s : Script) (m : Int) (e t : PV) (i n : Nat) (x y : Int) (hi : i < s.images.length) (hl : s.images.length ≤ 1000) (hn : n ≤ 1000) (hx : -1099511627776 ≤ x ∧ x ≤ 1099511627776) :
  iV Sg 115 [XW s m e t,I i,I x,I y,I n] 37 5 n (oq aS fun k=>cU (s.images.getD i default) (x+k) y):=by
 have ht:True:=trivial;have hat:=fun a b=>Um (s.images.getD i default) a b;refine Ef Tryz.func115 rfl (rs:=[.tmp 10]) rfl rfl fG (by decide +kernel) (Nat.le_of_ble_eq_true rfl) (bS bG) ?_
 repeat' (first|refine aC ?_|(refine aK (fun hb => ?_) (fun hb => ?_) <;> try exact aE))
 ·have e:∀ a:Nat,cU (s.images.getD i default) (x+a) y=bQ:=fun a=>by unfold cU;rw [if_pos (by omega)]
  refine ⟨_,rfl,fun a ha j hj => ?_⟩;rw [e];have hivl:j=0∨j=1∨j=2∨j=3∨j=4:=by omega
  rcases hivl with rfl|rfl|rfl|rfl|rfl <;> exact ⟨_,rfl,rfl⟩
 refine aH (X:=Int) (fun k=>aT [(2, .b (I x)),(3, .b (I y)),(4, .b (I n)),(11, .b (.c (.ptr 0 0))),(12, .b (.c (.own 1 n))),(13, .b (I k))] [(0, .fix ((aI (s.images.getD i default)).map CV.p)),(1, .arr 37 5 n (oq aS (yd (s.images.getD i default) x y k)))] 2) (fun k=>0≤k ∧ -x≤k∧k≤1099511627776) (fun k=>((n:Int) - k).toNat) (if 0 - x>0 then 0 - x else 0) ?_ ?_ ?_
 ·split <;> omega
 ·refine au [(0,some 0),(1,some 1)] ?_ ?_;and_intros;all_goals try exact aj
  refine .inr fun a ha j hj => ?_;rw [Ns];have hivl:j=0∨j=1∨j=2∨j=3∨j=4:=by omega
  rcases hivl with rfl|rfl|rfl|rfl|rfl <;> exact PV.le_refl _
 intro k ⟨k0,k1,k2⟩;by_cases hk:k<n∧x+k<(s.images.getD i default).w
 ·have g1:decide (k<(n:Int))=true:=decide_eq_true hk.1;have g2:decide (x+k<(s.images.getD i default).w)=true:=decide_eq_true hk.2;have hv:=hat (x+k) y;repeat' (first|(apply gw;(case hc=>exact bM);(case ht=>(simp only [Int.toNat_natCast,Int.reduceBEq,Int.reduceBNe,Int.reduceLT,Int.reduceLE,decide_true,decide_false,ss,And.intro g1 g2];done)))|refine ax ?_|refine an (fun K hK => ?_)|refine aa (hv) ?_|(refine aq hK ?_;try clear hK K))
  rw [ae];refine ak (k+1) ?_ ⟨by omega,by omega,by omega⟩ (by omega);refine au [(0,some 0),(1,some 1)] ?_ ?_;and_intros;all_goals try exact aj
  refine .inr fun a ha j hj => ?_;rw [LP k0];by_cases e:a=k.toNat
  ·simp only [if_pos e];rw [if_pos ⟨Nat.zero_le _,hj⟩];have hivl:j=0∨j=1∨j=2∨j=3∨j=4:=by omega
   rcases hivl with rfl|rfl|rfl|rfl|rfl <;> exact PV.le_refl _
  ·simp only [if_neg e];exact PV.le_refl _
 ·repeat' (first|refine aC ?_|(refine aK (fun hb => ?_) (fun hb => ?_) <;> try exact aE))
  refine ⟨_,rfl,fun a ha j hj => ?_⟩;have e:yd (s.images.getD i default) x y k a=cU (s.images.getD i default) (x+a) y:=by
   unfold yd;split
   ·rfl
   ·unfold cU;rw [if_pos (by omega)]
  rw [← e];have hivl:j=0∨j=1∨j=2∨j=3∨j=4:=by omega
  rcases hivl with rfl|rfl|rfl|rfl|rfl <;> exact ⟨_,rfl,rfl⟩
def ja (s:Script) (o:Op) (x y:Int):Nat→Int:=fun j=>(cU (s.images.getD (o.mask - 1).toNat default) (x - o.maskX+j) (y - o.maskY)).a
theorem KY (s : Script) (m : Int) (e t : PV) (o : Op) (n : Nat) (x y : Int) (ho : 0 ≤ o.mask ∧ o.mask ≤ s.images.length) (hl : s.images.length ≤ 1000) (hn : n ≤ 1000) (hx : -1099511627776 ≤ x - o.maskX ∧ x - o.maskX ≤ 1099511627776) (hy : -1099511627776 ≤ y - o.maskY ∧ y - o.maskY ≤ 1099511627776) :
  iV Sg 156 [XW s m e t,ag (fZ o),I x,I y,I n] 34 1 (if o.mask=0 then 0 else n) (fun i _=>PU (ja s o x y i)):=by
 have ht:True:=trivial;by_cases h0:o.mask=0
 ·rw [if_pos h0];have g:(o.mask == 0)=true:=beq_iff_eq.2 h0;refine NO (by decide) ?_;refine aD Tryz.func156 [.tmp 10] ?_;repeat' (first|with_reducible exact bq|refine ah g ?_|refine aC ?_)
  all_goals rfl
 ·rw [if_neg h0];have g:(o.mask == 0)=false:=beq_eq_false_iff_ne.2 h0;have hp:=DT (vQ s m e t (o.mask - 1).toNat n (x - o.maskX) (y - o.maskY) (by omega) hl hn hx);rw [show (((o.mask - 1).toNat:Nat):Int)=o.mask - 1 by omega] at hp;obtain ⟨q,hq⟩:∃ q:Nat→Pixel,q=fun (k:Nat)=>cU (s.images.getD (o.mask - 1).toNat default) (x - o.maskX+k) (y - o.maskY):=⟨_,rfl⟩
  rw [← hq] at hp;have hm:ja s o x y=fun i=>(q i).a:=by rw [hq];rfl
  rw [hm];clear hq hm;refine Ef Tryz.func156 rfl (rs:=[.tmp 10]) rfl rfl fG (by decide +kernel) (Nat.le_of_ble_eq_true rfl) (bS bG) ?_;repeat' (first|refine ah g ?_|refine ax ?_|refine an (fun K hK => ?_)|refine aa (hp) ?_|(refine aq hK ?_;try clear hK K))
  refine aH (X:=Nat) (fun i=>aT [(11, .b (.c (.own 1 i))),(30, .b (.c (.p (sW n q)))),(31, .b (I n)),(32, .b (I i))] [(1, .arr 34 1 i (fun i _=>PU (q i).a))] 2) (fun i=>i≤n) (fun i=>n - i) 0 ?_ ?_ ?_
  ·exact Nat.zero_le _
  ·refine au [(1,none)] ?_ ?_;and_intros;all_goals try exact aj
  intro i hi;rcases Nat.lt_or_ge i n with hk|hk
  ·have g1:decide ((i:Int)<n)=true:=decide_eq_true (by omega);repeat' (first|refine ah g1 ?_|refine aC ?_)
   rw [ae];refine ak (i+1) ?_ (by omega) (by omega);refine au [(1,some 4)] ?_ ?_;and_intros;all_goals try exact aj
   refine .inr fun a ha j hj => ?_;unfold gY;split
   ·exact PV.le_refl _
   ·obtain rfl:a=i:=by omega
    obtain rfl:j=0:=by omega
    rw [Nat.sub_self];exact PV.le_refl _
  ·have g1:decide ((i:Int)<n)=false:=decide_eq_false (by omega);obtain rfl:i=n:=by omega
   repeat' (first|refine ah g1 ?_|refine aC ?_)
   exact ⟨_,rfl,fun a ha j hj=>⟨_,rfl,rfl⟩⟩
end
section
def lq (s:Script) (m:Int) (e:PV) (c:CV):List CV:=[.p (PI s.bits), .p (PI s.canvas.x0), .p (PI s.canvas.y0), .p (PI s.canvas.x1), .p (PI s.canvas.y1), .p (PI s.tileW), .p (PI s.tileH), .p (eI s.order), .p (tx s.images), .p (yU s.ops), .p (PU m), .p e,c]
theorem TI {n:Nat} {g g':Nat→PV} (h:∀ j,j<n→PV.le (g j) (g' j)):BV.le (.c (.ipt n g 0)) (.c (.ipt n g' 0)):=fun ρ ok w u ⟨b,o,h1,h2,h3⟩ =>
 ⟨b,o,h1,h2,fun j hj=>by
  obtain ⟨x,q1,q2,q3⟩:=h3 j hj
  exact ⟨x,q1,q2,h j hj _ _ _ q3⟩⟩
theorem RW {bx:Nat→Option Bx} {b:Nat} {s:Script} {m:Int} {e:PV} {c:CV} (hb:bx b=some (.fix (lq s m e c))):BV.le (ep bx (.c (.ptr b 0))) (XW s m e .any):=by
 have h:ep bx (.c (.ptr b 0)) = .c (.ipt 13 (fun j=>(fK bx ((lq s m e c).getD (0+j) .any)).toP) 0):=by
  simp only [ep,ml,hb];rw [if_pos (Nat.zero_le _)];rfl
 rw [h];refine TI fun j hj => ?_;have hivl:j=0∨j=1∨j=2∨j=3∨j=4∨j=5∨j=6∨j=7∨j=8∨j=9∨j=10∨j=11∨j=12:=by omega
 rcases hivl with rfl|rfl|rfl|rfl|rfl|rfl|rfl|rfl|rfl|rfl|rfl|rfl|rfl <;> first|exact PV.le_refl _|exact fun _ _ _ _=>trivial
theorem GC {S : Env} {f : FuncId} {args args' : List BV} {e sz n : Nat} {g : Nat → Nat → PV} (h : iV S f args' e sz n g) (bx : Nat → Option Bx) (nx : Nat) (ha : gq (args.map (ep bx)) args') (hl : ∀ x ∈ args', BV.lt 0 x) :
  lU S bx nx f args (.b (.c (.p (.lst sz n g)))) bx nx:=by
 refine ⟨h.1,fun E st ρ a w vs hbx hnx G hsz hden => ?_⟩;subst hbx;subst hnx;obtain ⟨q1,q2⟩:=gz (ρ:=ρ) (ok:=(· < w.heap.size)) (w:=w) ha
 have hq:=q2 (u:=fun j=>vs.getD j undef) (fun j hj=>by
  have hj':j<args.length:=by simpa using hj
  have e:(args.map (ep st.bx)).getD j .any=ep st.bx (args.getD j .any):=by simp [List.getD_eq_getElem?_getD,hj']
  rw [e]
  exact nv G (hden j))
 have hgl:nT S (· < w.heap.size) w:=fun k n f hg=>by
  obtain ⟨h1,h2⟩:=G.glb k n f hg;refine ⟨h1.1,fun j hj => ?_⟩;obtain ⟨x,hx,hx1,hdx⟩:=h2 j hj;exact ⟨x,hx,hx1,bo.mono (fun b hb=>⟨hb.1,fun _=>rfl⟩) hdx⟩
 refine (h.2 (· < w.heap.size) w vs (fun b hb=>hb) hgl (by rw [hsz,← q1];simp) (fun j => ?_)).mono fun ex w' ⟨v,xs,he,hB,h0,hown,hone,hd⟩ => ?_
 ·by_cases hj:j<args'.length
  ·refine fJ (hl _ ?_) (hq j);rw [List.getD_eq_getElem?_getD,List.getElem?_eq_getElem hj];exact List.getElem_mem hj
  ·rw [List.getD_eq_getElem?_getD,List.getElem?_eq_none (by omega)];trivial
 ·refine ⟨v,ρ,he, ?_,trivial,G.grow hB⟩;rcases hown.2 with ⟨e1,e2⟩|⟨b,cap,cur,hv,hge,hh,hnc,_,hcs,htk⟩
  ·rw [e1];exact ⟨none,0,by rw [e2],by omega,fun h=>by omega⟩
  ·rw [hv];have hsz2:=G.frm.size;refine ⟨_,cap,rfl,hnc,fun _=>⟨b,0,rfl,⟨ch hh,fun q=>by omega,fun id hid hbk => ?_⟩,fun i hi j hj => ?_⟩⟩
   ·cases hq:st.bx id with
    | none=>exact hid hq
    | some y =>
     have:=(G.new id y b hq hbk).1;omega
   have hlt:i * sz+j<n * sz:=ej hi hj;have hlt2:i * sz+j<cur.size:=by rw [hcs];exact Nat.lt_of_lt_of_le hlt (Nat.mul_le_mul_right _ hnc)
   have hlx:i * sz+j<xs.length:=by rw [hown.1];exact hlt
   have hxe:xs.getD (i * sz+j) undef=cur.getD (i * sz+j) undef:=by rw [← htk];simp [List.getElem?_take,hlt]
   refine ⟨cur.getD (i * sz+j) undef,by rw [Nat.zero_add];exact bP hh hlt2, ?_, ?_⟩
   ·rw [← hxe,List.getD_eq_getElem?_getD,List.getElem?_eq_getElem hlx];exact hone _ (List.getElem_mem hlx)
   ·rw [← hxe];exact bo.mono (fun b hb=>hb.elim) (hd i hi j hj)
theorem Gh {st : St} {f : FuncId} {rest : List BV} {K : SV → St → Prop} {E sz n b : Nat} {G : Nat → Nat → PV} {s : Script} {m : Int} {e : PV} {c : CV} {q : Prop} (h : iV Sg f (XW s m e .any :: rest) E sz n G) (hk : q)
  (hb:st.bx b=some (.fix (lq s m e c)):=by exact Nc) (hr:Sg.rcv f=true:=by rfl) (hl:gu rest:=by simp (maxSteps:=999999)(disch:=omega) only [go_sem]) (ha:rest.map (ep st.bx)=rest:=by simp (maxSteps:=999999)(disch:=omega) only [go_sem])
  (hwf:∀ i,st.nx≤i→st.bx i=none:=by (first|(intro iw hiw;(try simp (maxSteps:=999999)(disch:=omega) only [go_sem] at hiw ⊢);(repeat (refine Eq.trans (if_neg ?_) ?_;(focus omega)));apply_assumption;omega)|fail))
  (w:q→K (.b (.c (.p (.lst sz n G)))) st:=by (first|(intro h;first|(simp (maxSteps:=999999)(disch:=omega) only [go_sem];exact h)|exact h)|fail)):en Sg st f (.c (.ptr b 0) :: rest) (Sl.of K) :=
 .inl _ st.bx st.nx (GC h st.bx st.nx (by rw [List.map_cons,ha];exact ⟨RW hb,gp _⟩) (bS ⟨trivial,hl⟩)) hr hwf (w hk) (Nat.le_refl _)
def Nx (w:Nat) (t:Fr):List PV:=fZ t.op ++ [Js w t.acc,sW w t.back]
def Ol (w:Nat) (f:Nat→PV) (t:Fr):Prop:=∀ j,j<14→f j=(Nx w t).getD j .any
def me (n w:Nat) (f:Nat→Nat→PV) (q:Nat→Acc):Nat→Nat→PV:=fun i j=>if i=n then (if j=12 then Js w q else f n j) else f i j
attribute [local go_sem] lq cO fX Int.toNat_natCast cA
theorem EY (bx : Nat → Option Bx) (nx b k n w N : Nat) (f : Nat → Nat → PV) (s : Script) (m : Int) (e : PV) (o : Op) (src : Nat → Pixel) (x y : Int) (t : Fr)
  (hb:bx b=some (.fix (lq s m e (.own k (n+1))))) (hk:bx k=some (.arr 170 14 N f)) (hbn:b<nx) (hkn:k<nx) (hbk:b≠k) (hn:n<N) (hN:N≤1000) (hw0:w≤1000) (hw1:0<w) (hf:Ol w (f n) t)
  (hm:Full m) (ho:1≤o.operator∧o.operator≤12) (hmo:1≤o.mode∧o.mode≤12) (hop:0≤o.opacity∧o.opacity≤m) (hmk:0≤o.mask∧o.mask≤s.images.length) (hl:s.images.length≤1000)
  (hx : -1099511627776≤x - o.maskX∧x - o.maskX≤1099511627776) (hy : -1099511627776≤y - o.maskY∧y - o.maskY≤1099511627776)
  (hp:∀ j,j<w→PixV (src j) m) (hmv:∀ j,j<w→0≤ja s o x y j∧ja s o x y j≤m) (hv:∀ j,j<w→AccV (t.acc j) (t.back j) m) (hko:t.op.knockout=true→o.operator=4) :
  lU Sg bx nx 113 [.c (.ptr b 0),ag (fZ o), .c (.p (sW w src)),I x,I y] (.tup [])
   (aJ k (.arr 170 14 N (me n w f fun j=>cT t.op.knockout o.operator o.mode m (aM m o (src j) (ja s o x y j)) (t.acc j) (t.back j))) bx) (nx+1):=by
 have ht:True:=trivial;have hma:=KY s m e .any o w x y hmk hl hw0 hx hy;have eb:bx=aJ b (.fix (lq s m e (.own k (n+1)))) (aJ k (.arr 170 14 N f) bx):=by rw [← dv hk];exact dv hb
 have hkk:∀ i,i<(if o.mask=0 then 0 else w)→0≤ja s o x y i∧ja s o x y i≤m:=fun i hi=>hmv i (by split at hi <;> omega);have hsc:=HM w (if o.mask=0 then 0 else w) src (ja s o x y) o.opacity m hm hw0 (by split <;> omega) hp hkk hop.1 hop.2;have hfun:(fun i=>bF (bF (src i) (JE m (if o.mask=0 then 0 else w) (ja s o x y) i) m) o.opacity m)=fun i=>aM m o (src i) (ja s o x y i):=by
  funext i;unfold aM JE;by_cases h:o.mask=0
  ·simp only [if_pos h,if_true]
  ·simp only [if_neg h,if_neg (show ¬ w=0 by omega)]
 rw [hfun] at hsc;have hst:=KW t.op.knockout o.operator o.mode m w (fun i=>aM m o (src i) (ja s o x y i)) t.acc t.back hm hw0 ho hmo (fun i hi=>oI hm (hp i hi) (hmv i hi).1 (hmv i hi).2 hop.1 hop.2) hv hko;have hst:aA Sg 157 [.c (.p (f n 11)),I o.operator,I o.mode,U m, .c (.p (sW w fun i=>aM m o (src i) (ja s o x y i))), .c (.p (f n 12)), .c (.p (f n 13))] (fun r=>r = .tup [.c (.p (Js w fun k=>cT t.op.knockout o.operator o.mode m (aM m o (src k) (ja s o x y k)) (t.acc k) (t.back k))),B true]):=by
  rw [hf 11 (by decide),hf 12 (by decide),hf 13 (by decide)];exact hst
 obtain ⟨q,hq⟩:∃ q:Nat→Acc,q=fun k=>cT t.op.knockout o.operator o.mode m (aM m o (src k) (ja s o x y k)) (t.acc k) (t.back k):=⟨_,rfl⟩
 rw [← hq] at hst ⊢;clear hq hfun
 generalize (fun i=>aM m o (src i) (ja s o x y i))=sc at *
 refine rR Tryz.func113 rfl (rs:=[]) rfl rfl fG (by decide +kernel) (Nat.le_of_ble_eq_true rfl) ?_ (fun kf hkf hbl => ?_)
 ·intro v hv;simp only [List.mem_cons,List.not_mem_nil,or_false] at hv;rcases hv with rfl|rfl|rfl|rfl|rfl
  ·exact hbn
  ·exact fun c hc=>by (obtain ⟨x,_,rfl⟩:=List.mem_map.1 hc;trivial)
  ·trivial
  ·trivial
  ·trivial
 have hw:∀ i,nx≤i→bx i=none:=fun i hi=>by
  cases h:bx i with
  | none=>rfl
  | some y=>exact absurd (hbl i y h).1 (by omega)
 rw [eb];repeat' (refine aC ?_)
 refine lk (id:=1) (.br 0 (.br 1 (.br 2 (.br 3 (.br 4 (.br 5 (.br 6 (.br 8 (.br 10 (.br 11 (.br 12 (.br 7 (.br 9 (.br 13 (.br 14 (.br 15 (.br 16 (.br 17 (.br 18 .leaf .nil) .nil) .nil) .nil) .nil) .nil) .nil) (.br 9 (.br 7 (.br 13 (.br 14 (.br 15 (.br 16 (.br 17 (.br 18 .leaf .nil) .nil) .nil) .nil) .nil) .nil) (.br 13 (.br 7 (.br 14 (.br 15 (.br 16 (.br 17 (.br 18 .leaf .nil) .nil) .nil) .nil) .nil) .nil) .nil)) (.br 13 (.br 7 (.br 9 (.br 14 (.br 15 (.br 16 (.br 17 (.br 18 .leaf .nil) .nil) .nil) .nil) .nil) .nil) (.br 9 (.br 7 (.br 14 (.br 15 (.br 16 (.br 17 (.br 18 .leaf .nil) .nil) .nil) .nil) .nil) .nil) .nil)) .nil))) .nil) .nil) .nil) .nil) .nil) .nil) .nil) .nil) .nil) .nil) .nil) (by decide +kernel) ?_ (fun K0 hW => ?_)
 ·refine ⟨?_,Nat.zero_le _⟩;intro iw hiw
  (try simp (maxSteps:=999999)(disch:=omega) only [go_sem] at hiw ⊢)
  (repeat (refine Eq.trans (if_neg ?_) ?_;(focus omega)))
  exact hw iw (by omega)
 replace hW:=iS hW;repeat' (first|exact cg|(refine cH (fun K' hK' => ?_) ?_)|(refine bJ (hW _ ?_);clear hW)|((first|refine Gh (hma) ?_|refine aa (hsc) ?_);(try simp (maxSteps:=999999)(disch:=omega) only [go_sem]);and_intros;(all_goals first|(refine hK' _ ?_;clear hK' K')|trivial|omega|exact Nat.le_of_ble_eq_true rfl|exact ai|skip))|(simp (maxSteps:=999999)(disch:=omega) only [go_sem];and_intros;(all_goals first|(refine hK' _ ?_;clear hK' K')|trivial|omega|exact Nat.le_of_ble_eq_true rfl|exact ai|skip)))
 all_goals
  refine dJ ?_;repeat' (first|(((with_reducible refine bT (id:=2) [] (by decide +kernel) (by decide +kernel) ?_ (fun K hK => ?_));exact dK);(try simp (maxSteps:=999999)(disch:=omega) only [go_sem]);and_intros;(all_goals first|(refine hK _ bG ?_;clear hK K)|exact ai|skip))|(((with_reducible refine iM (id:=3) [(68,2)] (by decide +kernel) (by decide +kernel) ?_ (fun K hK => ?_));exact dK);(try simp (maxSteps:=999999)(disch:=omega) only [go_sem]);and_intros;(all_goals first|(refine hK _ bG ?_;clear hK K)|exact ai|skip))|(refine aa (hst) ?_;and_intros;all_goals first|(refine hK _ ?_;clear hK K)|try exact ai))
  refine hK _ bG ?_;clear hK
  skip
  rw [rn];refine ⟨_,Xo (m:=1) (G:=me n w f q) ?_ hkf hkn hbl (fun i hi hiq => ?_) na (.inr fun a ha j hj => ?_),trivial,rfl,(fun i y h=>(congrArg (fun B=>aJ k _ B i) eb).trans h),rfl,rfl,fun v hv=>by cases hv⟩
  ·rfl
  ·refine dz ?_;by_cases hib:i=b
   ·rw [if_pos hib,hib];exact hb.symm
   ·rw [if_neg hib]
  ·unfold me;by_cases e1:a=n
   ·simp only [if_pos e1];by_cases e2:j=12
    ·subst e2;exact PV.le_refl _
    ·rw [if_neg (by omega),if_neg e2];exact PV.le_refl _
   ·simp only [if_neg e1];exact PV.le_refl _
end
end Go.Proofs.YtcbifofjjpfbcaaGreatDoor
