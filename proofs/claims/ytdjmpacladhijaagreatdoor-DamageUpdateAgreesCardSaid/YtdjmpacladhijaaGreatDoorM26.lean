/- Part of the proof: R3, R5, R6. -/
import Derived.Test.YtdjmpacladhijaaGreatDoorM25
set_option linter.unusedSimpArgs false
set_option linter.unusedVariables false
set_option maxHeartbeats 4000000
set_option maxRecDepth 16000
namespace Go.Proofs.YtdjmpacladhijaaGreatDoor
open Go Go.SL
open Go.RowKit (wrap64)
section
attribute [local go_sem] Int.toNat_natCast fQ dA
theorem LH {a b:Pixel} (h0:a.c0=b.c0) (h1:a.c1=b.c1) (h2:a.c2=b.c2) (h3:a.a=b.a) (h4:a.f=b.f):a=b:=by cases a;cases b;simp only at h0 h1 h2 h3 h4;simp only [h0,h1,h2,h3,h4]
theorem Xj {a b:Acc} (h0:a.c0=b.c0) (h1:a.c1=b.c1) (h2:a.c2=b.c2) (h3:a.a=b.a) (h4:a.own=b.own) (h5:a.f=b.f):a=b:=by cases a;cases b;simp only at h0 h1 h2 h3 h4 h5;simp only [h0,h1,h2,h3,h4,h5]
theorem Ro (ko : Bool) (op mode m : Int) (n : Nat) (f : Nat → Pixel) (x : Nat → Acc) (b : Nat → Pixel) (hm : Full m) (hn : n ≤ 1000) (ho : 1 ≤ op ∧ op ≤ 12) (hmo : 1 ≤ mode ∧ mode ≤ 12) (hf : ∀ k, k < n → PixV (f k) m) (hx : ∀ k, k < n → AccV (x k) (b k) m) (hk : ko = true → op = 4) :
  aB Sg 192 [B ko,I op,I mode,U m, .c (.p (wE n f)), .c (.p (Qg n x)), .c (.p (wE n b))] (fun r=>r = .tup [.c (.p (Qg n fun k=>bQ ko op mode m (f k) (x k) (b k))),B true]):=by
 have ht:True:=trivial;have hr:∀ k,k<n→aB Sg 207 [B ko,I op,I mode,U m,ag (aU (f k)),ag (dA (x k)),ag (aU (b k))] (fun r=>r = .tup [ag (dA (bQ ko op mode m (f k) (x k) (b k))),B true]):=fun k hkn=>UX ko op mode m (f k) (x k) (b k) hm ho hmo (hf k hkn) (hx k hkn) hk;obtain ⟨q,hq⟩:∃ q:Nat→Acc,q=fun k=>bQ ko op mode m (f k) (x k) (b k):=⟨_,rfl⟩
 have hr:∀ k,k<n→aB Sg 207 [B ko,I op,I mode,U m,ag (aU (f k)),ag (dA (x k)),ag (aU (b k))] (fun r=>r = .tup [ag (dA (q k)),B true]):=by rw [hq];exact hr
 rw [← hq];have hs:∀ k,f (k+1)=f k→x (k+1)=x k→b (k+1)=b k→q (k+1)=q k:=fun k h1 h2 h3=>by rw [hq];simp only [h1,h2,h3]
 clear hq;have g0:((n:Int) != n)=false:=by simp
 refine az Tryz.func192 [.tmp 14, .tmp 15] ?_;repeat' (first|refine aj g0 ?_|refine aC ?_)
 refine aK (X:=Nat) (fun i=>aP [(0, .b (B ko)),(1, .b (I op)),(2, .b (I mode)),(3, .b (U m)),(4, .b (.c (.p (wE n f)))),(5, .b (.c (.p (Qg n x)))),(6, .b (.c (.p (wE n b)))),(16, .b (.c (.own 1 i))),(33, .b (I n)),(34, .b (I i))] [(1, .arr 202 6 i (rj dA q))] 2) (fun i=>i≤n) (fun i=>n - i) 0 ?_ ?_ ?_
 ·exact Nat.zero_le _
 ·refine ar [(1,none)] ?_ ?_;and_intros;all_goals try exact ak
 intro i hi;rcases Nat.lt_or_ge i n with hk|hk
 ·have g1:decide ((i:Int)<n)=true:=decide_eq_true (by omega);have hv:=hr i hk;cases i with
  | zero =>
   have g2:decide (((0:Nat):Int)>0)=false:=by decide
   repeat' (first|refine aj (And.intro g1 g2) ?_|(((with_reducible refine bT (id:=7) [] (by decide +kernel) (by decide +kernel) ?_ (fun K hK => ?_));exact bZ);(try simp (maxSteps:=999999)(disch:=omega) only [go_sem]);and_intros;(all_goals first|(refine hK _ ba ?_;clear hK K)|exact ai|skip))|(((with_reducible refine bT (id:=9) [(90,3),(94,3),(98,3)] (by decide +kernel) (by decide +kernel) ?_ (fun K hK => ?_));exact bZ);(try simp (maxSteps:=999999)(disch:=omega) only [go_sem]);and_intros;(all_goals first|(refine hK _ ba ?_;clear hK K)|exact ai|skip))|refine bL ?_|((first|refine an (fun K hK => ?_)|refine aa (hv) ?_);and_intros;all_goals first|(refine hK _ ?_;clear hK K)|try exact ai))
   refine hK _ ba ?_;clear hK;repeat' (first|refine aj ht ?_|refine aC ?_)
   rw [ae];refine ao 1 ?_ (by omega) (by omega);refine ar [(1,some 4)] ?_ ?_;and_intros;all_goals try exact ak
   refine .inr (pL (enc:=dA) (q:=q) (i:=0) fun j hj => ?_);have hivl:j=0∨j=1∨j=2∨j=3∨j=4∨j=5:=by omega
   rcases hivl with rfl|rfl|rfl|rfl|rfl|rfl <;> exact PV.le_refl _
  | succ k =>
   have g2:decide (((k+1:Nat):Int)>0)=true:=decide_eq_true (by omega);repeat' (first|refine aj (And.intro g1 g2) ?_|(((with_reducible refine bT (id:=7) [] (by decide +kernel) (by decide +kernel) ?_ (fun K hK => ?_));exact bZ);(try simp (maxSteps:=999999)(disch:=omega) only [go_sem]);and_intros;(all_goals first|(refine hK _ ba ?_;clear hK K)|exact ai|skip))|(((with_reducible refine bT (id:=9) [(90,3),(94,3),(98,3)] (by decide +kernel) (by decide +kernel) ?_ (fun K hK => ?_));exact bZ);(try simp (maxSteps:=999999)(disch:=omega) only [go_sem]);and_intros;(all_goals first|(refine hK _ ba ?_;clear hK K)|exact ai|skip))|refine bL ?_|((first|refine an (fun K hK => ?_)|refine aa (hv) ?_);and_intros;all_goals first|(refine hK _ ?_;clear hK K)|try exact ai)|(refine aH (fun hb => ?_) (fun hb => ?_);all_goals try exact ax))
   ·rw [ae];refine ao (k+2) ?_ (by omega) (by omega);refine ar [(1,some 3)] ?_ ?_;and_intros;all_goals try exact ak
    have e:q (k+1)=q k:=by
     refine hs k ?_ ?_ ?_
     ·exact LH (by omega) (by omega) (by omega) (by omega) (by omega)
     ·exact Xj (by omega) (by omega) (by omega) (by omega) (by omega) (by omega)
     ·exact LH (by omega) (by omega) (by omega) (by omega) (by omega)
    refine .inr (pL (enc:=dA) (q:=q) fun j hj => ?_);rw [e];have hivl:j=0∨j=1∨j=2∨j=3∨j=4∨j=5:=by omega
    rcases hivl with rfl|rfl|rfl|rfl|rfl|rfl <;> exact PV.le_refl _
   ·refine hK _ ba ?_;clear hK;repeat' (first|refine aj ht ?_|refine aC ?_)
    rw [ae];refine ao (k+2) ?_ (by omega) (by omega);refine ar [(1,some 4)] ?_ ?_;and_intros;all_goals try exact ak
    refine .inr (pL (enc:=dA) (q:=q) fun j hj => ?_);have hivl:j=0∨j=1∨j=2∨j=3∨j=4∨j=5:=by omega
    rcases hivl with rfl|rfl|rfl|rfl|rfl|rfl <;> exact PV.le_refl _
 ·have g1:decide ((i:Int)<n)=false:=decide_eq_false (by omega);obtain rfl:i=n:=by omega
  repeat' (first|with_reducible exact cz|refine aj g1 ?_|refine aC ?_)
end
section
def ptP (s:Script) (m:Int) (e t:PV):BV := .c (.ipt 13 (fun j=>(ay s ++ [PU m,e,t]).getD j .any) 0)
attribute [local go_sem] Int.toNat_natCast ptP
def CB (M:Image) (x y:Int) (k:Int):Nat→Pixel:=fun j=>if (j:Int)<k then dN M (x+j) y else bG
theorem TE {M:Image} {x y:Int} {a:Nat}:CB M x y (if 0 - x>0 then 0 - x else 0) a=bG:=by
 have h:(a:Int)<(if 0 - x>0 then 0 - x else 0)→x+a<0:=by split <;> omega
 unfold CB;by_cases q:(a:Int)<(if 0 - x>0 then 0 - x else 0)
 ·have:=h q;rw [if_pos q,dN,if_pos (by omega)]
 ·rw [if_neg q]
theorem Vi {M:Image} {x y k:Int} {a:Nat} (h:0≤k):CB M x y (k+1) a=if a=k.toNat then dN M (x+k) y else CB M x y k a:=by
 by_cases e:a=k.toNat
 ·rw [if_pos e,CB,if_pos (by omega),show (a:Int)=k by omega]
 ·rw [if_neg e,CB,CB];by_cases q:(a:Int)<k
  ·rw [if_pos q,if_pos (by omega)]
  ·rw [if_neg q,if_neg (by omega)]
theorem Ca (s : Script) (m : Int) (e t : PV) (i n : Nat) (x y : Int) (hi : i < s.images.length) (hl : s.images.length ≤ 1000) (hn : n ≤ 1000) (hx : -1099511627776 ≤ x ∧ x ≤ 1099511627776) :
  gC Sg 159 [ptP s m e t,I i,I x,I y,I n] 43 5 n (rj aU fun k=>dN (s.images.getD i default) (x+k) y):=by
 have ht:True:=trivial;have hat:=fun a b=>a4e (s.images.getD i default) a b;refine wY Tryz.func159 rfl (rs:=[.tmp 10]) rfl rfl dI (by decide +kernel) (Nat.le_of_ble_eq_true rfl) (bN ba) ?_
 repeat' (first|refine aC ?_|(refine aH (fun hb => ?_) (fun hb => ?_) <;> try exact ax))
 ·have e:∀ a:Nat,dN (s.images.getD i default) (x+a) y=bG:=fun a=>by unfold dN;rw [if_pos (by omega)]
  refine ⟨_,rfl,fun a ha j hj => ?_⟩;rw [e];have hivl:j=0∨j=1∨j=2∨j=3∨j=4:=by omega
  rcases hivl with rfl|rfl|rfl|rfl|rfl <;> exact ⟨_,rfl,rfl⟩
 refine aK (X:=Int) (fun k=>aP [(2, .b (I x)),(3, .b (I y)),(4, .b (I n)),(11, .b (.c (.ptr 0 0))),(12, .b (.c (.own 1 n))),(13, .b (I k))] [(0, .fix ((aF (s.images.getD i default)).map CV.p)),(1, .arr 43 5 n (rj aU (CB (s.images.getD i default) x y k)))] 2) (fun k=>0≤k ∧ -x≤k∧k≤1099511627776) (fun k=>((n:Int) - k).toNat) (if 0 - x>0 then 0 - x else 0) ?_ ?_ ?_
 ·split <;> omega
 ·refine ar [(0,some 0),(1,some 1)] ?_ ?_;and_intros;all_goals try exact ak
  refine .inr fun a ha j hj => ?_;rw [TE];have hivl:j=0∨j=1∨j=2∨j=3∨j=4:=by omega
  rcases hivl with rfl|rfl|rfl|rfl|rfl <;> exact PV.le_refl _
 intro k ⟨k0,k1,k2⟩;by_cases hk:k<n∧x+k<(s.images.getD i default).w
 ·have g1:decide (k<(n:Int))=true:=decide_eq_true hk.1;have g2:decide (x+k<(s.images.getD i default).w)=true:=decide_eq_true hk.2;have hv:=hat (x+k) y;repeat' (first|(apply iL;(case hc=>exact du);(case ht=>(simp only [Int.toNat_natCast,Int.reduceBEq,Int.reduceBNe,Int.reduceLT,Int.reduceLE,decide_true,decide_false,ur,And.intro g1 g2];done)))|refine aw ?_|refine an (fun K hK => ?_)|refine aa (hv) ?_|(refine aq hK ?_;try clear hK K))
  rw [ae];refine ao (k+1) ?_ ⟨by omega,by omega,by omega⟩ (by omega);refine ar [(0,some 0),(1,some 1)] ?_ ?_;and_intros;all_goals try exact ak
  refine .inr fun a ha j hj => ?_;rw [Vi k0];by_cases e:a=k.toNat
  ·simp only [if_pos e];rw [if_pos ⟨Nat.zero_le _,hj⟩];have hivl:j=0∨j=1∨j=2∨j=3∨j=4:=by omega
   rcases hivl with rfl|rfl|rfl|rfl|rfl <;> exact PV.le_refl _
  ·simp only [if_neg e];exact PV.le_refl _
 ·repeat' (first|refine aC ?_|(refine aH (fun hb => ?_) (fun hb => ?_) <;> try exact ax))
  refine ⟨_,rfl,fun a ha j hj => ?_⟩;have e:CB (s.images.getD i default) x y k a=dN (s.images.getD i default) (x+a) y:=by
   unfold CB;split
   ·rfl
   ·unfold dN;rw [if_pos (by omega)]
  rw [← e];have hivl:j=0∨j=1∨j=2∨j=3∨j=4:=by omega
  rcases hivl with rfl|rfl|rfl|rfl|rfl <;> exact ⟨_,rfl,rfl⟩
def kI (s:Script) (o:Op) (x y:Int):Nat→Int:=fun j=>(dN (s.images.getD (o.mask - 1).toNat default) (x - o.maskX+j) (y - o.maskY)).a
theorem Uf (s : Script) (m : Int) (e t : PV) (o : Op) (n : Nat) (x y : Int) (ho : 0 ≤ o.mask ∧ o.mask ≤ s.images.length) (hl : s.images.length ≤ 1000) (hn : n ≤ 1000) (hx : -1099511627776 ≤ x - o.maskX ∧ x - o.maskX ≤ 1099511627776) (hy : -1099511627776 ≤ y - o.maskY ∧ y - o.maskY ≤ 1099511627776) :
  gC Sg 191 [ptP s m e t,ag (cC o),I x,I y,I n] 31 1 (if o.mask=0 then 0 else n) (fun i _=>PU (kI s o x y i)):=by
 have ht:True:=trivial;by_cases h0:o.mask=0
 ·rw [if_pos h0];have g:(o.mask == 0)=true:=beq_iff_eq.2 h0;refine LQ (by decide) ?_;refine az Tryz.func191 [.tmp 10] ?_;repeat' (first|with_reducible exact cz|refine aj g ?_|refine aC ?_)
  all_goals rfl
 ·rw [if_neg h0];have g:(o.mask == 0)=false:=beq_eq_false_iff_ne.2 h0;have hp:=GS (Ca s m e t (o.mask - 1).toNat n (x - o.maskX) (y - o.maskY) (by omega) hl hn hx);rw [show (((o.mask - 1).toNat:Nat):Int)=o.mask - 1 by omega] at hp;obtain ⟨q,hq⟩:∃ q:Nat→Pixel,q=fun (k:Nat)=>dN (s.images.getD (o.mask - 1).toNat default) (x - o.maskX+k) (y - o.maskY):=⟨_,rfl⟩
  rw [← hq] at hp;have hm:kI s o x y=fun i=>(q i).a:=by rw [hq];rfl
  rw [hm];clear hq hm;refine wY Tryz.func191 rfl (rs:=[.tmp 10]) rfl rfl dI (by decide +kernel) (Nat.le_of_ble_eq_true rfl) (bN ba) ?_;repeat' (first|refine aj g ?_|refine aw ?_|refine an (fun K hK => ?_)|refine aa (hp) ?_|(refine aq hK ?_;try clear hK K))
  refine aK (X:=Nat) (fun i=>aP [(11, .b (.c (.own 1 i))),(30, .b (.c (.p (wE n q)))),(31, .b (I n)),(32, .b (I i))] [(1, .arr 31 1 i (fun i _=>PU (q i).a))] 2) (fun i=>i≤n) (fun i=>n - i) 0 ?_ ?_ ?_
  ·exact Nat.zero_le _
  ·refine ar [(1,none)] ?_ ?_;and_intros;all_goals try exact ak
  intro i hi;rcases Nat.lt_or_ge i n with hk|hk
  ·have g1:decide ((i:Int)<n)=true:=decide_eq_true (by omega);repeat' (first|refine aj g1 ?_|refine aC ?_)
   rw [ae];refine ao (i+1) ?_ (by omega) (by omega);refine ar [(1,some 4)] ?_ ?_;and_intros;all_goals try exact ak
   refine .inr fun a ha j hj => ?_;unfold dV;split
   ·exact PV.le_refl _
   ·obtain rfl:a=i:=by omega
    obtain rfl:j=0:=by omega
    rw [Nat.sub_self];exact PV.le_refl _
  ·have g1:decide ((i:Int)<n)=false:=decide_eq_false (by omega);obtain rfl:i=n:=by omega
   repeat' (first|refine aj g1 ?_|refine aC ?_)
   exact ⟨_,rfl,fun a ha j hj=>⟨_,rfl,rfl⟩⟩
end
section
def nK (s:Script) (m:Int) (e:PV) (c:CV):List CV:=[.p (PI s.bits), .p (PI s.canvas.x0), .p (PI s.canvas.y0), .p (PI s.canvas.x1), .p (PI s.canvas.y1), .p (PI s.tileW), .p (PI s.tileH), .p (dq s.order), .p (qq s.images), .p (kU s.ops), .p (PU m), .p e,c]
theorem a4i {n:Nat} {g g':Nat→PV} (h:∀ j,j<n→PV.le (g j) (g' j)):BV.le (.c (.ipt n g 0)) (.c (.ipt n g' 0)):=fun ρ ok w u ⟨b,o,h1,h2,h3⟩ =>
 ⟨b,o,h1,h2,fun j hj=>by
  obtain ⟨x,q1,q2,q3⟩:=h3 j hj
  exact ⟨x,q1,q2,h j hj _ _ _ q3⟩⟩
theorem ZF {bx:Nat→Option Bx} {b:Nat} {s:Script} {m:Int} {e:PV} {c:CV} (hb:bx b=some (.fix (nK s m e c))):BV.le (gq bx (.c (.ptr b 0))) (ptP s m e .any):=by
 have h:gq bx (.c (.ptr b 0)) = .c (.ipt 13 (fun j=>(iV bx ((nK s m e c).getD (0+j) .any)).toP) 0):=by
  simp only [gq,qD,hb];rw [if_pos (Nat.zero_le _)];rfl
 rw [h];refine a4i fun j hj => ?_;have hivl:j=0∨j=1∨j=2∨j=3∨j=4∨j=5∨j=6∨j=7∨j=8∨j=9∨j=10∨j=11∨j=12:=by omega
 rcases hivl with rfl|rfl|rfl|rfl|rfl|rfl|rfl|rfl|rfl|rfl|rfl|rfl|rfl <;> first|exact PV.le_refl _|exact fun _ _ _ _=>trivial
theorem XR {S : Env} {f : FuncId} {args args' : List BV} {e sz n : Nat} {g : Nat → Nat → PV} (h : gC S f args' e sz n g) (bx : Nat → Option Bx) (nx : Nat) (ha : ju (args.map (gq bx)) args') (hl : ∀ x ∈ args', BV.lt 0 x) :
  lj S bx nx f args (.b (.c (.p (.lst sz n g)))) bx nx:=by
 refine ⟨h.1,fun E st ρ a w vs hbx hnx G hsz hden => ?_⟩;subst hbx;subst hnx;obtain ⟨q1,q2⟩:=iZ (ρ:=ρ) (ok:=(· < w.heap.size)) (w:=w) ha
 have hq:=q2 (u:=fun j=>vs.getD j undef) (fun j hj=>by
  have hj':j<args.length:=by simpa using hj
  have e:(args.map (gq st.bx)).getD j .any=gq st.bx (args.getD j .any):=by simp [List.getD_eq_getElem?_getD,hj']
  rw [e]
  exact pW G (hden j))
 have hgl:oP S (· < w.heap.size) w:=fun k n f hg=>by
  obtain ⟨h1,h2⟩:=G.glb k n f hg;refine ⟨h1.1,fun j hj => ?_⟩;obtain ⟨x,hx,hx1,hdx⟩:=h2 j hj;exact ⟨x,hx,hx1,bq.mono (fun b hb=>⟨hb.1,fun _=>rfl⟩) hdx⟩
 refine (h.2 (· < w.heap.size) w vs (fun b hb=>hb) hgl (by rw [hsz,← q1];simp) (fun j => ?_)).mono fun ex w' ⟨v,xs,he,hB,h0,hown,hone,hd⟩ => ?_
 ·by_cases hj:j<args'.length
  ·refine gO (hl _ ?_) (hq j);rw [List.getD_eq_getElem?_getD,List.getElem?_eq_getElem hj];exact List.getElem_mem hj
  ·rw [List.getD_eq_getElem?_getD,List.getElem?_eq_none (by omega)];trivial
 ·refine ⟨v,ρ,he, ?_,trivial,G.grow hB⟩;rcases hown.2 with ⟨e1,e2⟩|⟨b,cap,cur,hv,hge,hh,hnc,_,hcs,htk⟩
  ·rw [e1];exact ⟨none,0,by rw [e2],by omega,fun h=>by omega⟩
  ·rw [hv];have hsz2:=G.frm.size;refine ⟨_,cap,rfl,hnc,fun _=>⟨b,0,rfl,⟨cm hh,fun q=>by omega,fun id hid hbk => ?_⟩,fun i hi j hj => ?_⟩⟩
   ·cases hq:st.bx id with
    | none=>exact hid hq
    | some y =>
     have:=(G.new id y b hq hbk).1;omega
   have hlt:i * sz+j<n * sz:=eE hi hj;have hlt2:i * sz+j<cur.size:=by rw [hcs];exact Nat.lt_of_lt_of_le hlt (Nat.mul_le_mul_right _ hnc)
   have hlx:i * sz+j<xs.length:=by rw [hown.1];exact hlt
   have hxe:xs.getD (i * sz+j) undef=cur.getD (i * sz+j) undef:=by rw [← htk];simp [List.getElem?_take,hlt]
   refine ⟨cur.getD (i * sz+j) undef,by rw [Nat.zero_add];exact cr hh hlt2, ?_, ?_⟩
   ·rw [← hxe,List.getD_eq_getElem?_getD,List.getElem?_eq_getElem hlx];exact hone _ (List.getElem_mem hlx)
   ·rw [← hxe];exact bq.mono (fun b hb=>hb.elim) (hd i hi j hj)
theorem Mk {st : St} {f : FuncId} {rest : List BV} {K : SV → St → Prop} {E sz n b : Nat} {G : Nat → Nat → PV} {s : Script} {m : Int} {e : PV} {c : CV} {q : Prop} (h : gC Sg f (ptP s m e .any :: rest) E sz n G) (hk : q)
  (hb:st.bx b=some (.fix (nK s m e c)):=by exact QF) (hr:Sg.rcv f=true:=by rfl) (hl:iy rest:=by simp (maxSteps:=999999)(disch:=omega) only [go_sem]) (ha:rest.map (gq st.bx)=rest:=by simp (maxSteps:=999999)(disch:=omega) only [go_sem])
  (hwf:∀ i,st.nx≤i→st.bx i=none:=by (first|(intro iw hiw;(try simp (maxSteps:=999999)(disch:=omega) only [go_sem] at hiw ⊢);(repeat (refine Eq.trans (if_neg ?_) ?_;(focus omega)));apply_assumption;omega)|fail))
  (w:q→K (.b (.c (.p (.lst sz n G)))) st:=by (first|(intro h;first|(simp (maxSteps:=999999)(disch:=omega) only [go_sem];exact h)|exact h)|fail)):dY Sg st f (.c (.ptr b 0) :: rest) (Sl.of K) :=
 .inl _ st.bx st.nx (XR h st.bx st.nx (by rw [List.map_cons,ha];exact ⟨ZF hb,ik _⟩) (bN ⟨trivial,hl⟩)) hr hwf (w hk) (Nat.le_refl _)
def Vs (w:Nat) (t:Fr):List PV:=cC t.op ++ [Qg w t.acc,wE w t.back]
def VU (w:Nat) (f:Nat→PV) (t:Fr):Prop:=∀ j,j<14→f j=(Vs w t).getD j .any
def oY (n w:Nat) (f:Nat→Nat→PV) (q:Nat→Acc):Nat→Nat→PV:=fun i j=>if i=n then (if j=12 then Qg w q else f n j) else f i j
attribute [local go_sem] nK dA fQ Int.toNat_natCast dQ
theorem JW (bx : Nat → Option Bx) (nx b k n w N : Nat) (f : Nat → Nat → PV) (s : Script) (m : Int) (e : PV) (o : Op) (src : Nat → Pixel) (x y : Int) (t : Fr)
  (hb:bx b=some (.fix (nK s m e (.own k (n+1))))) (hk:bx k=some (.arr 221 14 N f)) (hbn:b<nx) (hkn:k<nx) (hbk:b≠k) (hn:n<N) (hN:N≤1000) (hw0:w≤1000) (hw1:0<w) (hf:VU w (f n) t)
  (hm:Full m) (ho:1≤o.operator∧o.operator≤12) (hmo:1≤o.mode∧o.mode≤12) (hop:0≤o.opacity∧o.opacity≤m) (hmk:0≤o.mask∧o.mask≤s.images.length) (hl:s.images.length≤1000)
  (hx : -1099511627776≤x - o.maskX∧x - o.maskX≤1099511627776) (hy : -1099511627776≤y - o.maskY∧y - o.maskY≤1099511627776)
  (hp:∀ j,j<w→PixV (src j) m) (hmv:∀ j,j<w→0≤kI s o x y j∧kI s o x y j≤m) (hv:∀ j,j<w→AccV (t.acc j) (t.back j) m) (hko:t.op.knockout=true→o.operator=4) :
  lj Sg bx nx 157 [.c (.ptr b 0),ag (cC o), .c (.p (wE w src)),I x,I y] (.tup [])
   (aJ k (.arr 221 14 N (oY n w f fun j=>bQ t.op.knockout o.operator o.mode m (aL m o (src j) (kI s o x y j)) (t.acc j) (t.back j))) bx) (nx+1):=by
 have ht:True:=trivial;have hma:=Uf s m e .any o w x y hmk hl hw0 hx hy;have eb:bx=aJ b (.fix (nK s m e (.own k (n+1)))) (aJ k (.arr 221 14 N f) bx):=by rw [← eL hk];exact eL hb
 have hkk:∀ i,i<(if o.mask=0 then 0 else w)→0≤kI s o x y i∧kI s o x y i≤m:=fun i hi=>hmv i (by split at hi <;> omega);have hsc:=PT w (if o.mask=0 then 0 else w) src (kI s o x y) o.opacity m hm hw0 (by split <;> omega) hp hkk hop.1 hop.2;have hfun:(fun i=>bY (bY (src i) (Vp m (if o.mask=0 then 0 else w) (kI s o x y) i) m) o.opacity m)=fun i=>aL m o (src i) (kI s o x y i):=by
  funext i;unfold aL Vp;by_cases h:o.mask=0
  ·simp only [if_pos h,if_true]
  ·simp only [if_neg h,if_neg (show ¬ w=0 by omega)]
 rw [hfun] at hsc;have hst:=Ro t.op.knockout o.operator o.mode m w (fun i=>aL m o (src i) (kI s o x y i)) t.acc t.back hm hw0 ho hmo (fun i hi=>pc hm (hp i hi) (hmv i hi).1 (hmv i hi).2 hop.1 hop.2) hv hko;have hst:aB Sg 192 [.c (.p (f n 11)),I o.operator,I o.mode,U m, .c (.p (wE w fun i=>aL m o (src i) (kI s o x y i))), .c (.p (f n 12)), .c (.p (f n 13))] (fun r=>r = .tup [.c (.p (Qg w fun k=>bQ t.op.knockout o.operator o.mode m (aL m o (src k) (kI s o x y k)) (t.acc k) (t.back k))),B true]):=by
  rw [hf 11 (by decide),hf 12 (by decide),hf 13 (by decide)];exact hst
 obtain ⟨q,hq⟩:∃ q:Nat→Acc,q=fun k=>bQ t.op.knockout o.operator o.mode m (aL m o (src k) (kI s o x y k)) (t.acc k) (t.back k):=⟨_,rfl⟩
 rw [← hq] at hst ⊢;clear hq hfun
 generalize (fun i=>aL m o (src i) (kI s o x y i))=sc at *
 refine vM Tryz.func157 rfl (rs:=[]) rfl rfl dI (by decide +kernel) (Nat.le_of_ble_eq_true rfl) ?_ (fun kf hkf hbl => ?_)
 ·intro v hv;simp only [List.mem_cons,List.not_mem_nil,or_false] at hv;rcases hv with rfl|rfl|rfl|rfl|rfl
  ·exact hbn
  ·exact fun c hc=>by (obtain ⟨x,_,rfl⟩:=List.mem_map.1 hc;trivial)
  ·trivial
  ·trivial
  ·trivial
 have hw:∀ i,nx≤i→bx i=none:=fun i hi=>by
  cases h:bx i with
  | none=>rfl
  | some y=>exact absurd (hbl i y h).1 (by omega)
 rw [eb];repeat' (refine aC ?_)
 refine ni (id:=1) (.br 0 (.br 1 (.br 2 (.br 3 (.br 4 (.br 5 (.br 6 (.br 8 (.br 10 (.br 11 (.br 12 (.br 7 (.br 9 (.br 13 (.br 14 (.br 15 (.br 16 (.br 17 (.br 18 .leaf .nil) .nil) .nil) .nil) .nil) .nil) .nil) (.br 9 (.br 7 (.br 13 (.br 14 (.br 15 (.br 16 (.br 17 (.br 18 .leaf .nil) .nil) .nil) .nil) .nil) .nil) (.br 13 (.br 7 (.br 14 (.br 15 (.br 16 (.br 17 (.br 18 .leaf .nil) .nil) .nil) .nil) .nil) .nil) .nil)) (.br 13 (.br 7 (.br 9 (.br 14 (.br 15 (.br 16 (.br 17 (.br 18 .leaf .nil) .nil) .nil) .nil) .nil) .nil) (.br 9 (.br 7 (.br 14 (.br 15 (.br 16 (.br 17 (.br 18 .leaf .nil) .nil) .nil) .nil) .nil) .nil) .nil)) .nil))) .nil) .nil) .nil) .nil) .nil) .nil) .nil) .nil) .nil) .nil) .nil) (by decide +kernel) ?_ (fun K0 hW => ?_)
 ·refine ⟨?_,Nat.zero_le _⟩;intro iw hiw
  (try simp (maxSteps:=999999)(disch:=omega) only [go_sem] at hiw ⊢)
  (repeat (refine Eq.trans (if_neg ?_) ?_;(focus omega)))
  exact hw iw (by omega)
 replace hW:=ka hW;repeat' (first|exact bp|(refine bO (fun K' hK' => ?_) ?_)|(refine aZ (hW _ ?_);clear hW)|((first|refine Mk (hma) ?_|refine aa (hsc) ?_);(try simp (maxSteps:=999999)(disch:=omega) only [go_sem]);and_intros;(all_goals first|(refine hK' _ ?_;clear hK' K')|trivial|omega|exact Nat.le_of_ble_eq_true rfl|exact ai|skip))|(simp (maxSteps:=999999)(disch:=omega) only [go_sem];and_intros;(all_goals first|(refine hK' _ ?_;clear hK' K')|trivial|omega|exact Nat.le_of_ble_eq_true rfl|exact ai|skip)))
 all_goals
  refine gi ?_;repeat' (first|(((with_reducible refine bT (id:=2) [] (by decide +kernel) (by decide +kernel) ?_ (fun K hK => ?_));exact bZ);(try simp (maxSteps:=999999)(disch:=omega) only [go_sem]);and_intros;(all_goals first|(refine hK _ ba ?_;clear hK K)|exact ai|skip))|(((with_reducible refine gx (id:=3) [(68,2)] (by decide +kernel) (by decide +kernel) ?_ (fun K hK => ?_));exact bZ);(try simp (maxSteps:=999999)(disch:=omega) only [go_sem]);and_intros;(all_goals first|(refine hK _ ba ?_;clear hK K)|exact ai|skip))|(refine aa (hst) ?_;and_intros;all_goals first|(refine hK _ ?_;clear hK K)|try exact ai))
  refine hK _ ba ?_;clear hK
  skip
  rw [vT];refine ⟨_,a5x (m:=1) (G:=oY n w f q) ?_ hkf hkn hbl (fun i hi hiq => ?_) qS (.inr fun a ha j hj => ?_),trivial,rfl,(fun i y h=>(congrArg (fun B=>aJ k _ B i) eb).trans h),rfl,rfl,fun v hv=>by cases hv⟩
  ·rfl
  ·refine bV ?_;by_cases hib:i=b
   ·rw [if_pos hib,hib];exact hb.symm
   ·rw [if_neg hib]
  ·unfold oY;by_cases e1:a=n
   ·simp only [if_pos e1];by_cases e2:j=12
    ·subst e2;exact PV.le_refl _
    ·rw [if_neg (by omega),if_neg e2];exact PV.le_refl _
   ·simp only [if_neg e1];exact PV.le_refl _
end
end Go.Proofs.YtdjmpacladhijaaGreatDoor
