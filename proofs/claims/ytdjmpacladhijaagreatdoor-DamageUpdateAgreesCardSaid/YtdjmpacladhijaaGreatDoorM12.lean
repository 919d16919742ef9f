/- Part of the proof: SlN, SlZ, F0, F6, D1, D4, D3, SlZd, SlRf. -/
import Derived.RangeFuncLeaves
import Derived.Test.YtdjmpacladhijaaGreatDoorM11
set_option linter.unusedSimpArgs false
set_option linter.unusedVariables false
set_option maxHeartbeats 1000000
set_option maxRecDepth 16000
namespace Go.SL
open Go
section
section
variable {S:Env} {ops:Array Oper} {rest:List Oper} {st:St} {K:St→Prop} {d:Option Nat} {ty:TypeId} {pos:String} {af:Array Edge} {gd:Nat × Bool}
end
section
variable {S:Env} {ops:Array Oper} {rest:List Oper} {st:St} {K:St→Prop} {d:Option Nat} {ty:TypeId} {pos:String} {af:Array Edge} {j:Nat} {want:Bool} {bx:Nat→Option Bx} {ev:Operand→SV}
end
section
variable {S:Env} {ops:Array Oper} {rest:List Oper} {st:St} {K:St→Prop} {d:Option Nat} {ty:TypeId} {pos:String} {af:Array Edge} {j:Nat} {want:Bool}
end
section
variable {S:Env} {ops:Array Oper} {rest:List Oper} {st:St} {K:St→Prop} {d:Option Nat} {ty:TypeId} {pos:String} {af:Array Edge} {gd:Nat × Bool}
end
section
variable {S:Env} {st:St} {Q:AExit→St→Prop}
end
section
variable {S:Env} {st:St} {f:FuncId} {args args':List BV} {K:SV→St→Prop}
theorem ZM {X:SV} (h:aB S f args' (fun r=>r=X)) (ha:ju args args') (hl:iy args') (hk:K X st):dY S st f args (Sl.of K) :=
 .pure args' _ h ha (bN hl) hk
end
section
variable {nx:Nat}
end
end
section
section
variable {r:Nat→Option Nat} {bx bx':Nat→Option Bx} {n:Nat}
end
def Ag (r:Nat→Option Nat):Nat→Bool
 | 0=>true
 | n+1=>r n == some n && Ag r n
theorem yf {r:Nat→Option Nat}:∀ {n:Nat},Ag r n=true→∀ id,id<n→r id=some id
 | n+1,h,id,hid=>by
  simp only [Ag,Bool.and_eq_true,beq_iff_eq] at h;by_cases e:id=n
  ·grind
  ·exact yf h.2 id (by omega)
theorem a2Z {st : St} {l : List (Nat × SV)} {b : List (Nat × Bx)} {nx : Nat} {kf : Nat → SV} (n0 : Nat) (r : List (Nat × Option Nat)) (hkf : st.kf = kf) (hkl : ∀ s, (kf s).lt n0) (hid : Ag (tE r) n0 = true) (hn0 : n0 ≤ nx) (h0 : tE r 0 = some 0) (hnx : 0 < nx)
  (hinj:IX (tE r) (b.map (·.1))=true) (hfr:qV (tE r) st (iP b) nx l) (hb:Cm (tE r) st (iP b) nx b):Le st (mkK l b nx kf):=by
 have H:=tP r h0 hnx hinj hfr hb;obtain ⟨⟨r',h1,h2,h3,h4,h5,h6⟩,h7,h8,h9⟩:=H;have key:∀ i,iP b i≠none→i ∈ b.map (·.1):=fun i hi=>by
  cases hx:iP b i with
  | none=>grind
  | some x=>exact List.mem_map.2 ⟨_,jJ hx,rfl⟩
 refine ⟨⟨tE r,h0,fun _=>hnx,fun i j k hi hj h1 h2=>sL hinj i j k (key i hi) (key j hj) h1 h2,fun s => ?_,fun i x hx=>(su hb (jJ hx)).1,fun s => ?_⟩,h7,h8,fun s=>SV.lt_mono hn0 (hkl s)⟩
 ·show Ck _ _ _ _ (ma l s);rcases lS (s:=s) (l:=l) with h|h
  ·grind [Ck,vK]
  ·exact (lV hfr h).1
 ·rw [hkf];exact Lc (yf hid) (hkl s)
section
variable {S:Env}
end
end
end Go.SL
namespace Go.Proofs.YtdjmpacladhijaaGreatDoor
open Go Go.SL
open Go.RowKit (wrap64)
theorem a6A {st : St} {l : List (Nat × SV)} {b : List (Nat × Bx)} {nx : Nat} {kf : Nat → SV} (n0 : Nat) (r : List (Nat × Option Nat)) (hkl : ∀ s, (kf s).lt n0) {q1 q2 : Prop} (h1 : q1) (h2 : q2) (hkf : st.kf = kf := by (first | rfl | (simp (maxSteps := 1000000) (disch := omega) only [go_sem]; done) | fail)) (hid : Ag (tE r) n0 = true := by rfl) (hn0 : n0 ≤ nx := by decide) (h0 : tE r 0 = some 0 := by rfl) (hnx : 0 < nx := by decide) (hinj : IX (tE r) (b.map (·.1)) = true := by rfl)
  (w1:q1→qV (tE r) st (iP b) nx l:=by (first|(intro h;first|(simp (maxSteps:=999999)(disch:=omega) only [go_sem];exact h)|(have h0:True:=h;simp (maxSteps:=999999)(disch:=omega) only [go_sem]))|fail)) (w2:q2→Cm (tE r) st (iP b) nx b:=by (first|(intro h;first|(simp (maxSteps:=999999)(disch:=omega) only [go_sem];exact h)|(have h0:True:=h;simp (maxSteps:=999999)(disch:=omega) only [go_sem]))|fail)):Le st (mkK l b nx kf):=a2Z n0 r hkf hkl hid hn0 h0 hnx hinj (w1 h1) (w2 h2)
theorem tL (r:Rect):aB Sg 99 [ag (aS r)] (fun x=>x = .b (ag (aS (gr r)))):=by
 refine az Tryz.func99 [.cell 2 35] ?_
 repeat' (first|refine aw ?_|refine an (fun K hK => ?_)|refine aa (fK _) ?_|(refine aH (fun hb => ?_) (fun hb => ?_) <;> try exact ax)|(refine aq hK ?_;try clear hK K))
 ·rw [gr,if_pos hb];rfl
 ·rw [gr,if_neg (by simp [hb])];rfl
theorem qI (r:Rect):aB Sg 56 [ag (aS r)] (fun x=>x = .b (I (eM r))):=by
 refine az Tryz.func56 [.tmp 2] ?_;repeat' (first|refine an (fun K hK => ?_)|refine aa (tL _) ?_|refine aw ?_|(refine aq hK ?_;try clear hK K))
 rw [Dg]
def vV (r:Rect) (dx dy:Int):Rect:=if aM r=true∨¬ (-2147483648≤dx∧dx≤2147483648 ∧ -2147483648≤dy∧dy≤2147483648) then dz else gr ⟨r.x0+dx,r.y0+dy,r.x1+dx,r.y1+dy⟩
theorem HO {a b:Rect} (h0:a.x0=b.x0) (h1:a.y0=b.y0) (h2:a.x1=b.x1) (h3:a.y1=b.y1):a=b:=by cases a;simp_all
def rb (P:Nat→Bool):Nat→Nat→Nat
 | 0,k=>k
 | f+1,k=>if P k=true then rb P f (k+1) else k
theorem te {P:Nat→Bool} {n k:Nat} (hk:k<n):rb P (n - k) k=if P k=true then rb P (n - (k+1)) (k+1) else k:=by rw [show n - k=(n - (k+1))+1 by omega];rfl
theorem zo {P:Nat→Bool}:∀ (f k:Nat),k≤rb P f k∧rb P f k≤k+f∧∀ j,k≤j→j<rb P f k→P j=true
 | 0,k=>⟨Nat.le_refl _,Nat.le_refl _,fun j h1 h2=>absurd h2 (by grind [rb])⟩
 | f+1,k=>by
  rw [rb];split
  ·rename_i h;obtain ⟨a,b,c⟩:=zo (P:=P) f (k+1);grind
  grind
def nM (a b:List Op):Nat:=rb (fun k=>decide (k<a.length∧k<b.length∧ah a k=ah b k)) a.length 0
def yT (a b:List Op) (p:Nat):Nat:=rb (fun k=>decide (p+k<a.length∧p+k<b.length∧ah a (a.length - 1 - k)=ah b (b.length - 1 - k))) a.length 0
theorem Va (a b:List Op):nM a b≤a.length∧nM a b≤b.length:=by grind [rb,ah,nM,zo]
theorem a4s (a b:List Op) {p:Nat} (h1:p≤a.length) (h2:p≤b.length):p+yT a b p≤a.length∧p+yT a b p≤b.length:=by
 obtain ⟨q1,q2,h3⟩:=zo (P:=fun k=>decide (p+k<a.length∧p+k<b.length∧ah a (a.length - 1 - k)=ah b (b.length - 1 - k))) a.length 0;unfold yT;by_cases h:rb (fun k=>decide (p+k<a.length∧p+k<b.length∧ah a (a.length - 1 - k)=ah b (b.length - 1 - k))) a.length 0=0
 ·omega
 ·have:=h3 (rb (fun k=>decide (p+k<a.length∧p+k<b.length∧ah a (a.length - 1 - k)=ah b (b.length - 1 - k))) a.length 0 - 1) (by omega) (by omega);grind
theorem GW {P:Nat→Bool}:∀ (f k:Nat),(∀ j,k≤j→j<k+f→P j=true)→rb P f k=k+f
 | 0,k,h=>rfl
 | f+1,k,h=>by
  rw [rb,if_pos (h k (Nat.le_refl _) (by omega)),GW f (k+1) fun j h1 h2=>h j (by omega) (by omega)];omega
theorem Mj {a b:List Op}:(nM a b=a.length∧nM a b=b.length)↔a=b:=by grind [nM,Hc,rb,ah,zo,GW]
def Ae (s t:Script):Bool:=decide (s.bits=t.bits∧s.canvas=t.canvas∧s.images.length=t.images.length) &&
 (List.range s.images.length).all fun i=>decide ((s.images.getD i default).w=(t.images.getD i default).w∧(s.images.getD i default).h=(t.images.getD i default).h)
def fk (s:Script) (p q:Nat):List Rect:=(List.range' p (s.ops.length - q - p)).map (dr s) ++ (bE s.ops p).reverse.map (dr s)
def kN (s t:Script):Rect × Int :=
 if (gu s).1≠0 then (dz,(gu s).1) else if (gu t).1≠0 then (dz,(gu t).1) else if Ae s t=false then (dz,20) else if s.ops=t.ops then (dz,0)
 else (fu (fk s (nM s.ops t.ops) (yT s.ops t.ops (nM s.ops t.ops)) ++ fk t (nM s.ops t.ops) (yT s.ops t.ops (nM s.ops t.ops))),0)
section
attribute [local go_sem] HQ Jh
theorem GY (r q:Rect):aB Sg 92 [ag (aS r),ag (aS q)] (fun x=>x = .b (ag (aS (ed r q)))):=by
 refine az Tryz.func92 [.cell 4 35] ?_;repeat' (first|refine bL ?_|((first|refine an (fun K hK => ?_)|refine aa (fK _) ?_|refine aA (fun hg=>fK _) ?_|refine aa (tL ⟨max r.x0 q.x0,max r.y0 q.y0,min r.x1 q.x1,min r.y1 q.y1⟩) ?_);and_intros;all_goals first|(refine hK _ ?_;clear hK K)|try exact ai)|(refine aH (fun hb => ?_) (fun hb => ?_);all_goals try exact ax)|(refine bF ?_;(try clear hB KB);(try clear hK K)))
 ·rw [ed,if_pos hb];rfl
 grind [ed]
theorem NR (r:Rect) (dx dy:Int):aB Sg 63 [ag (aS r),I dx,I dy] (fun x=>x = .b (ag (aS (vV r dx dy)))):=by
 refine az Tryz.func63 [.cell 6 35] ?_;repeat' (first|refine bL ?_|((with_reducible refine aX (id:=1) (fun K hW => ?_));(try simp (maxSteps:=999999)(disch:=omega) only [go_sem]);and_intros;all_goals first|(refine hK _ ?_;clear hK K)|try exact ai)|((first|refine an (fun K hK => ?_)|refine aa (cq _) ?_);and_intros;all_goals first|(refine hK _ ?_;clear hK K)|try exact ai))
 refine xL (.c .any) ?_ ?_ trivial ?_ (fun hg => ?_) (fun hg => ?_)
 ·rfl
 ·rfl
 ·(first|(simp (maxSteps:=999999)(disch:=omega) only [go_sem];done)|(simp (maxSteps:=999999)(disch:=omega) only [go_sem];rfl))
 ·have hg2:aM r=false:=by simpa using hg
  simp (maxSteps:=999999)(disch:=omega) only [go_sem];and_intros;all_goals first|(refine hK _ ?_;clear hK K)|exact ai|skip
  refine BJ (args':=[I 2147483648, .c (.p (dq [dx,dy]))]) hg ?_ (xO 2147483648 [dx,dy] (by omega) (by omega) (by simp)) ?_ (by trivial) trivial ?_
  ·simp (maxSteps:=999999)(disch:=omega) only [go_sem]
  ·simp (maxSteps:=1000000) (disch:=omega) only [go_sem,fi,fY];refine ⟨jm,qJ (gX fun i hi j hj => ?_)⟩;have h1:i=0∨i=1:=by omega
   have h2:j=0:=by omega
   subst h2;rcases h1 with rfl|rfl <;> rfl
  simp (maxSteps:=999999)(disch:=omega) only [go_sem];and_intros;all_goals first|(refine hK _ ?_;clear hK K)|exact ai|skip
  refine hW _ (aP [(1, .b (I dx)),(2, .b (I dy)),(3, .b (.c (.ptr 0 0))),(6, .b (.c (.ptr 1 0))),(15, .b (B (!bu 2147483648 [dx,dy])))] [(0, .fix ((aS r).map CV.p)),(1, .fix ((aS dz).map CV.p))] 2) ?_ ?_
  ·clear hW;refine ar [(1,some 1)] ?_ ?_;and_intros;all_goals first|exact ak|skip
   rw [hg2];exact .inl rfl
  ·clear hW;cases hq:bu 2147483648 [dx,dy] with
   | false =>
    repeat' (first|refine bL ?_|(refine an (fun K hK => ?_);and_intros;all_goals first|(refine hK _ ?_;clear hK K)|try exact ai)|(refine aH (fun hb => ?_) (fun hb => ?_);all_goals try exact ax)|(refine bF ?_;(try clear hB KB);(try clear hK K)))
    rw [vV,if_pos (.inr (by simp only [bu,List.all_cons,List.all_nil,Bool.and_true,Bool.and_eq_false_iff,decide_eq_false_iff_not] at hq;omega))];rfl
   | true =>
    simp only [bu,List.all_cons,List.all_nil,Bool.and_true,Bool.and_eq_true,decide_eq_true_eq] at hq;have hv:=gw.1 hg2;repeat' (first|refine bL ?_|((first|refine an (fun K hK => ?_)|refine aa (rX ⟨r.x0+dx,r.y0+dy,r.x1+dx,r.y1+dy⟩) ?_);and_intros;all_goals first|(refine hK _ ?_;clear hK K)|try exact ai)|(refine aH (fun hb => ?_) (fun hb => ?_);all_goals try exact ax)|(refine bF ?_;(try clear hB KB);(try clear hK K)))
    ·cases hb
    ·rw [vV,if_neg (by rw [hg2];simp;omega)];rfl
 ·have hg2:aM r=true:=by simpa using hg
  simp (maxSteps:=999999)(disch:=omega) only [go_sem];and_intros;all_goals first|(refine hK _ ?_;clear hK K)|exact ai|skip
  refine Df (B true) hg trivial ?_;simp (maxSteps:=999999)(disch:=omega) only [go_sem];and_intros;all_goals first|(refine hK _ ?_;clear hK K)|exact ai|skip
  refine hW _ (aP [(1, .b (I dx)),(2, .b (I dy)),(3, .b (.c (.ptr 0 0))),(6, .b (.c (.ptr 1 0))),(15, .b (B true))] [(0, .fix ((aS r).map CV.p)),(1, .fix ((aS dz).map CV.p))] 2) ?_ ?_
  ·clear hW;refine ar [(1,some 1)] ?_ ?_;and_intros;all_goals first|exact ak|skip
   rw [hg2];exact .inl rfl
  ·clear hW;repeat' (first|refine bL ?_|(refine an (fun K hK => ?_);and_intros;all_goals first|(refine hK _ ?_;clear hK K)|try exact ai)|(refine aH (fun hb => ?_) (fun hb => ?_);all_goals try exact ax)|(refine bF ?_;(try clear hB KB);(try clear hK K)))
   rw [vV,if_pos (.inl hg2)];rfl
def a5X (a b c d:Int) (k:Nat):Int:=[a,b,c,d].getD k 0
end
end Go.Proofs.YtdjmpacladhijaaGreatDoor
namespace Go.SL
section
open Go
def dj (ops:Array Oper) (x y:Oper):Bool :=
 (match x.dst with|some d => !(cc ops y).contains d|none=>true) && (match y.dst with|some d => !(cc ops x).contains d|none=>true) &&
 (match x.dst,y.dst with|some d,some e=>d != e|_,_=>true)
def LG (ops:Array Oper) (x y:Oper):Bool :=
 (match y.dst with|some d => !(cc ops x).contains d|none=>true) && (match x.dst,y.dst with|some d,some e=>d != e|_,_=>true)
theorem a9z {ops:Array Oper} {x y:Oper} (h:dj ops x y=true):LG ops x y=true:=by grind [LG,dj]
def Hg (S:Env) (ops:Array Oper):List Oper→St→Prop
 | [],_=>True
 | h :: r,s=>bj S ops [h] s (fun s2=>s2=s)∧Hg S ops r s
def rq (S:Env) (ops:Array Oper) (H:List Oper):Nat→Array Bool→St→(St→Prop)→Prop
 | 0,listed,st,K=>Hg S ops H st∧Region.ready .any ops listed=[]∧K st
 | fuel + 1, listed, st, K => Hg S ops H st ∧ (Region.ready .any ops listed = [] → K st) ∧
   ∀ i ∈ Region.ready .any ops listed,match ops[i]? with
    | some o=>gh S ops st o fun st'=>rq S ops H fuel (listed.setIfInBounds i true) st' K
    | none=>rq S ops H fuel (listed.setIfInBounds i true) st K
section
variable {S:Env} {ops:Array Oper} {st s1 s2 s':St} {H:List Oper} {K:St→Prop}
theorem zx {o:Oper} {K:St→Prop}:bj S ops [o] st K=gh S ops st o K:=rfl
theorem MV {h:Oper} {r:List Oper}:Hg S ops (h :: r) st=(gh S ops st h (fun s2=>s2=st)∧Hg S ops r st):=rfl
theorem Ub {H:List Oper} (q:Hg S ops H st):∀ h ∈ H,Ex S ops st h st:=by
 induction H with
 | nil=>grind
 | cons h r ih =>
  grind [Ex,gh,Hg,MV]
theorem a0E {H:List Oper} (q:∀ h ∈ H,Ex S ops st h st):Hg S ops H st:=by
 induction H with
 | nil=>trivial
 | cons h r ih =>
  rw [MV];exact ⟨q h (List.mem_cons_self ..),ih fun x hx=>q x (List.mem_cons_of_mem _ hx)⟩
theorem Mm:∀ {fuel:Nat} {listed:Array Bool},rq S ops H fuel listed st K→Hg S ops H st
 | 0,_,h=>h.1
 | _+1,_,h=>h.1
theorem Lf:∀ (fuel:Nat) (listed:Array Bool) (st:St),rq S ops [] fuel listed st K→iY S ops fuel listed st K
 | 0,_,_,h=>h.2
 | fuel+1,listed,st,h=>⟨h.2.1,fun i hi=>by
  have:=h.2.2 i hi;cases ho:ops[i]? with
  | some o =>
   rw [ho] at this;exact sB (fun s hs=>Lf fuel _ s hs) this
  | none =>
   rw [ho] at this
   exact Lf fuel _ _ this⟩
theorem Ch {x:Oper} {s t:St} (hc:qp S.rcv x≤1) (h:Ex S ops s x s) (hn:∀ d ∈ cc ops x,t.fr d=s.fr d) (hd:∀ d,x.dst=some d→t.fr d=s.fr d) (hb:qp S.rcv x=0∨t.bx=s.bx∧t.nx=s.nx):Ex S ops t x t:=by
 obtain ⟨v,b,n,e,k,p,z⟩:=fF h;obtain ⟨rfl,rfl⟩:=k hc;have hv:∀ d,x.dst=some d→v=t.fr d:=fun d q=>by grind [St.set]
 have same:St.set ⟨t.fr,t.bx,t.nx,t.kf⟩ x.dst v=t:=by
  rw [dO];have:(fun s=>if some s=x.dst then v else t.fr s)=t.fr:=by
   funext s;by_cases q:some s=x.dst
   ·grind
   ·grind
  rw [this]
 rcases hb with h0|⟨h1,h2⟩
 ·have:=z h0 t (fun d hd=>(hn d hd).symm);rw [show t.set x.dst v=St.set ⟨t.fr,t.bx,t.nx,t.kf⟩ x.dst v from rfl,same] at this;exact this
 grind
theorem KM {x:Oper} (hc:qp S.rcv x≤1) (hd:(match x.dst with|some d => !(cc ops x).contains d|none=>true)=true) (h:Ex S ops st x s'):Ex S ops s' x s':=by
 obtain ⟨v,b,n,e,k,p,z⟩:=fF h;obtain ⟨rfl,rfl⟩:=k hc;have hn:∀ d ∈ cc ops x,st.fr d=s'.fr d:=fun d q=>by rw [e];exact (iG (nx':=0) (bx':=st.bx) hd d q).symm
 grind [St.set,eR,gV,dO,St.mk.injEq]
theorem QX {x y:Oper} (h:dj ops x y=true) {v:SV} {bx:Nat→Option Bx} {nx:Nat}:∀ d ∈ cc ops y,(St.set ⟨st.fr,bx,nx,st.kf⟩ x.dst v).fr d=st.fr d:=by
 simp only [dj,Bool.and_eq_true] at h;exact iG (nx':=0) (bx':=st.bx) h.1.1
theorem Gr {x y:Oper} (h:LG ops x y=true) {v:SV} {bx:Nat→Option Bx} {nx:Nat}:∀ d,x.dst=some d→(St.set ⟨st.fr,bx,nx,st.kf⟩ y.dst v).fr d=st.fr d:=fun d hd=>by grind [LG,dO]
theorem tC {x y:Oper} (h:LG ops x y=true) {v:SV} {bx:Nat→Option Bx} {nx:Nat}:∀ d ∈ cc ops x,(St.set ⟨st.fr,bx,nx,st.kf⟩ y.dst v).fr d=st.fr d:=by
 simp only [LG,Bool.and_eq_true] at h;exact iG (nx':=0) (bx':=st.bx) h.1
theorem a0p {x h:Oper} (hx:qp S.rcv x≤1) (hh:qp S.rcv h≤1) (hd:LG ops h x=true) (h1:Ex S ops st x s1) (h2:Ex S ops s1 h s1):Ex S ops st h st:=by grind [fF,Ch,tC,Gr,eR,gV]
theorem a3D {x h:Oper} (hx:qp S.rcv x≤1) (hh:qp S.rcv h≤1) (hd:LG ops h x=true) (h1:Ex S ops st x s1) (h2:Ex S ops st h st):Ex S ops s1 h s1:=by grind [fF,Ch,tC,Gr,eR,gV]
theorem Xz {x y:Oper} (hx:qp S.rcv x=0) (hd:LG ops x y=true) (h1:Ex S ops st x st) (h2:Ex S ops st y s1):Ex S ops s1 x s1:=by grind [fF,Ch,tC,Gr]
theorem Kl {x y:Oper} (hx:qp S.rcv x≤1) (hs:(match x.dst with|some d => !(cc ops x).contains d|none=>true)=true) (hd:dj ops x y=true) (h1:Ex S ops st x s1) (h2:Ex S ops s1 y s2) (h3:Ex S ops s2 x s2):∃ s3,Ex S ops st y s3∧Ex S ops s3 x s2:=by
 obtain ⟨v1,b1,n1,rfl,k1,p1,z1⟩:=fF h1;obtain ⟨rfl,rfl⟩:=k1 hx;obtain ⟨v2,b2,n2,e2,k2,p2,z2⟩:=fF h2;obtain ⟨v3,b3,n3,e3,k3,p3,z3⟩:=fF h3;obtain ⟨rfl,rfl⟩:=k3 hx;have q2:=p2 st (fun d hd'=>QX hd d hd') eR.symm gV.symm;refine ⟨_,q2, ?_⟩;have hs2:∀ s,s2.fr s=if some s=y.dst then v2 else (if some s=x.dst then v1 else st.fr s):=fun s=>by grind [dO]
 have hbn:s2.bx=b2∧s2.nx=n2∧s2.kf=st.kf:=by
  rw [e2];refine ⟨eR,gV, ?_⟩;rw [dO,dO]
 have hw:∀ s,some s=x.dst→¬ some s=y.dst:=fun s hs hs'=>by grind [dj]
 have hn:∀ d ∈ cc ops x,s2.fr d=(St.set ⟨st.fr,b2,n2,st.kf⟩ y.dst v2).fr d:=fun d hd'=>by
  rw [hs2,tC (a9z hd) d hd'];grind [dj]
 have:=p3 (St.set ⟨st.fr,b2,n2,st.kf⟩ y.dst v2) hn (by grind [eR]) (by grind [gV]);have e:St.set ⟨(St.set ⟨st.fr,b2,n2,st.kf⟩ y.dst v2).fr,s2.bx,s2.nx,(St.set ⟨st.fr,b2,n2,st.kf⟩ y.dst v2).kf⟩ x.dst v3=s2:=by
  rw [show s2=⟨s2.fr,s2.bx,s2.nx,s2.kf⟩ from rfl,dO];rw [St.mk.injEq];refine ⟨?_,rfl,rfl, ?_⟩
  ·funext s;grind [dO]
  ·grind [dO]
 grind
end
def mO (ops:Array Oper) (m:Nat→Nat) (listed:Array Bool) (p:Nat):Bool :=
 match ops[p]? with
 | none=>false
 | some x=>(match x.dst with|some d => !(cc ops x).contains d|none=>true) && (List.range ops.size).all fun i=>listed.getD i true || Nat.beq i p || (match ops[i]? with
  | some o=>LG ops x o && (((m i).testBit p && Nat.blt p i) || dj ops x o)
  | none=>false)
section
variable {S:Env} {ops:Array Oper} {st s1 s2 s':St} {H:List Oper} {K:St→Prop}
theorem xD {m:Nat→Nat} {listed:Array Bool} {i p:Nat} (hi:i<listed.size) (h:mO ops m listed p=true):mO ops m (listed.setIfInBounds i true) p=true:=by
 unfold mO at h ⊢;split at h
 ·cases h
 ·simp only [Bool.and_eq_true] at h ⊢;refine ⟨h.1,List.all_eq_true.2 fun k hk => ?_⟩;have:=List.all_eq_true.1 h.2 k hk;simp only [Bool.or_eq_true] at this ⊢;rw [qn hi];grind
theorem OY {m : Nat → Nat} {x : Oper} {p : Nat} (hm : dc ops m = true) (hed : ∀ i o, ops[i]? = some o → ∀ e ∈ o.after, Region.binds .any e = true → e.on < i) (hx : ops[p]? = some x) (hc : qp S.rcv x ≤ 1) (hH : ∀ h ∈ H, LG ops h x = true ∧ qp S.rcv h ≤ 1) : ∀ (fuel : Nat) (listed : Array Bool) (st : St),
  listed.size=ops.size→iv ops listed→mO ops m listed p=true→p ∈ Region.ready .any ops listed→(∃ s,Ex S ops st x s∧rq S ops (x :: H) fuel (listed.setIfInBounds p true) s K)→rq S ops H (fuel+1) listed st K:=by
 have back:∀ {st s:St} {fuel:Nat} {listed:Array Bool},Ex S ops st x s→rq S ops (x :: H) fuel listed s K→Hg S ops H st:=fun h1 h2=>by
  have:=Mm h2;grind [a0E,a0p,Ub]
 have self:∀ {s:St} {fuel:Nat} {listed:Array Bool},rq S ops (x :: H) fuel listed s K→Ex S ops s x s:=fun h2=>Ub (Mm h2) x (List.mem_cons_self ..);have drop:∀ (fuel:Nat) (listed:Array Bool) (s:St),rq S ops (x :: H) fuel listed s K→rq S ops H fuel listed s K:=by
  intro fuel
  induction fuel with
  | zero=>exact fun listed s h=>⟨h.1.2,h.2⟩
  | succ f ih => exact fun listed s h => ⟨h.1.2, h.2.1, fun i hi => by
    have:=h.2.2 i hi
    grind [gh,sB]⟩
 intro fuel
 induction fuel with
 | zero =>
  intro listed st hs hcl hp hr ⟨s,h1,h2⟩;have hplt:=gB hs hr;refine ⟨back h1 h2,fun hno=>(by grind),fun i hi => ?_⟩;by_cases e:i=p
  ·grind [gh,jT]
  ·have:=jc hs (by omega) hi e;rw [h2.2.1] at this;grind
 | succ f ih =>
  intro listed st hs hcl hp hr ⟨s,h1,h2⟩;have hplt:=gB hs hr;obtain ⟨_,_,hpl,_⟩:=(de hs).1 hr;refine ⟨back h1 h2,fun hno=>(by grind),fun i hi => ?_⟩;by_cases e:i=p
  ·grind [gh,jT]
  obtain ⟨o,ho,hl,hdep⟩:=(de hs).1 hi;have hlt:=gB hs hi;rw [ho];have h3:=h2.2.2 i (jc hs (by omega) hi e);rw [ho] at h3;obtain ⟨s2,h4,h5⟩:=nC h3;have hq:=hp;unfold mO at hq;rw [hx] at hq;simp only [Bool.and_eq_true] at hq;have hself:=hq.1;have hq:=List.all_eq_true.1 hq.2 i (List.mem_range.2 hlt);rw [ho] at hq;simp only [Bool.or_eq_true,Nat.beq_eq,Bool.and_eq_true] at hq;have hdj:dj ops x o=true:=by
   rcases hq with (q|q)|q
   ·grind
   ·omega
   ·rcases q.2 with q|q
    ·exact absurd hi (xH hm hs hed hcl (by simp_all) q.1 hpl)
    ·exact q
  obtain ⟨s3,h6,h7⟩:=Kl hc hself hdj h1 h4 (self h5);grind [jT,jW,xD,jc,zM]
theorem Qy {m : Nat → Nat} {x : Oper} {p : Nat} (hx : ops[p]? = some x) (hc : qp S.rcv x = 0) : ∀ (fuel : Nat) (listed : Array Bool) (st : St),
  listed.size=ops.size→mO ops m listed p=true→listed.getD p true=true→Ex S ops st x st→rq S ops H fuel listed st K→rq S ops (x :: H) fuel listed st K:=by
 intro fuel
 induction fuel with
 | zero=>exact fun listed st hs hp hl h1 h2=>⟨⟨by rw [zx];exact h1,h2.1⟩,h2.2⟩
 | succ f ih =>
  intro listed st hs hp hl h1 h2;refine ⟨⟨by rw [zx];exact h1,h2.1⟩,h2.2.1,fun i hi => ?_⟩;have h3:=h2.2.2 i hi;obtain ⟨o,ho,hil,hdep⟩:=(de hs).1 hi;have hlt:=gB hs hi;rw [ho] at h3 ⊢;obtain ⟨s2,h4,h5⟩:=nC h3;have hq:=hp;unfold mO at hq;rw [hx] at hq;simp only [Bool.and_eq_true] at hq;have hq:=List.all_eq_true.1 hq.2 i (List.mem_range.2 hlt);rw [ho] at hq;simp only [Bool.or_eq_true,Nat.beq_eq,Bool.and_eq_true] at hq;have hw:LG ops x o=true:=by
   rcases hq with (q|q)|q
   ·grind
   ·grind
   ·exact q.1
  refine jT h4 (ih _ s2 (by grind) (xD (by omega) hp) ?_ (Xz hc hw h1 h4) h5);rw [qn (by omega)];grind
end
inductive Th where
 | leaf
 | nil
 | br (i:Nat) (t r:Th)
 | ho (i:Nat) (b:Bool) (t:Th)
def HZ (S:Env) (ops:Array Oper) (L:List Oper):Th→List Nat→St→(St→Prop)→Prop
 | .leaf,_,st,K=>K st
 | .nil,_,_,_=>True
 | .br i t r,H,st,K=>bj S ops [L.getD i default] st (fun s=>Hg S ops (H.map fun k=>L.getD k default) s∧HZ S ops L t H s K)∧HZ S ops L r H st K
 | .ho i b t,H,st,K=>bj S ops [L.getD i default] st (fun s=>HZ S ops L t (if b=true then H else i :: H) s K)
def vx:Th→List Nat
 | .br i _ r=>i :: vx r
 | _=>[]
def ln:Th→Nat
 | .br _ t r=>max (ln t+1) (ln r)
 | .ho _ _ t=>ln t+1
 | _=>0
def Vv (rcv:Nat→Bool) (ops:Array Oper) (m:Nat→Nat) (listed:Array Bool) (H:List Nat):Th→Bool
 | .leaf=>Region.ready .any ops listed == []
 | .nil=>false
 | .br i t r=>Region.ready .any ops listed == vx (.br i t r)
 | .ho i _ _=>(Region.ready .any ops listed).contains i && mO ops m listed i && Nat.ble (qp rcv (ops.getD i default)) 1 && H.all fun k=>LG ops (ops.getD k default) (ops.getD i default) && Nat.ble (qp rcv (ops.getD k default)) 1
def yW (rcv:Nat→Bool) (ops:Array Oper) (m:Nat→Nat):Array Bool→List Nat→Th→Bool
 | _,_, .leaf=>true
 | _,_, .nil=>true
 | listed,H, .br i t r=>Nat.blt i ops.size && Vv rcv ops m (listed.setIfInBounds i true) H t && yW rcv ops m (listed.setIfInBounds i true) H t && yW rcv ops m listed H r
 | listed, H, .ho i b t => Nat.blt i ops.size && (if b = true then Nat.beq (qp rcv (ops.getD i default)) 0 && Vv rcv ops m (listed.setIfInBounds i true) H t && yW rcv ops m (listed.setIfInBounds i true) H t
   else Vv rcv ops m (listed.setIfInBounds i true) (i :: H) t && yW rcv ops m (listed.setIfInBounds i true) (i :: H) t)
section
variable {S:Env} {l:List Oper} {m:Nat→Nat} {K:St→Prop}
theorem Yd (hm : dc l.toArray m = true) (hf : oE l.toArray = true) (t : Th) :
  (∀ (H:List Nat) (listed:Array Bool) (fuel:Nat) (st:St),listed.size=l.toArray.size→iv l.toArray listed→Vv S.rcv l.toArray m listed H t=true→yW S.rcv l.toArray m listed H t=true→Hg S l.toArray (H.map fun k=>l.getD k default) st →
   HZ S l.toArray l t H st K→ln t≤fuel→rq S l.toArray (H.map fun k=>l.getD k default) fuel listed st K) ∧
  (∀ (H:List Nat) (listed:Array Bool) (fuel:Nat) (st:St),listed.size=l.toArray.size→iv l.toArray listed→(∀ i ∈ vx t,i ∈ Region.ready .any l.toArray listed)→yW S.rcv l.toArray m listed H t=true →
   HZ S l.toArray l t H st K→ln t≤fuel+1→∀ i ∈ vx t,match l.toArray[i]? with
    | some o=>gh S l.toArray st o fun st'=>rq S l.toArray (H.map fun k=>l.getD k default) fuel (listed.setIfInBounds i true) st' K
    | none=>rq S l.toArray (H.map fun k=>l.getD k default) fuel (listed.setIfInBounds i true) st K):=by
 have hget:∀ i,i<l.toArray.size→l.toArray[i]?=some (l.getD i default):=fun i hlt=>by grind
 have hgd:∀ i,l.toArray.getD i default=l.getD i default:=fun i=>by simp_all
 induction t with
 | leaf =>
  refine ⟨fun H listed fuel st hs hcl hn ht hr h hd => ?_,fun _ _ _ _ _ _ _ _ _ _ i hi=>by cases hi⟩;have hno:Region.ready .any l.toArray listed=[]:=by simpa [Vv] using hn
  cases fuel with
  | zero=>exact ⟨hr,hno,h⟩
  | succ f=>exact ⟨hr,fun _=>h,fun i hi=>by grind⟩
 | nil=>exact ⟨fun _ _ _ _ _ _ hn=>(by cases hn),fun _ _ _ _ _ _ _ _ _ _ i hi=>(by cases hi)⟩
 | br k t r iht ihr =>
  have alts : ∀ (H : List Nat) (listed : Array Bool) (fuel : Nat) (st : St), listed.size = l.toArray.size → iv l.toArray listed → (∀ i ∈ vx (.br k t r), i ∈ Region.ready .any l.toArray listed) → yW S.rcv l.toArray m listed H (.br k t r) = true →
    HZ S l.toArray l (.br k t r) H st K→ln (.br k t r)≤fuel+1→∀ i ∈ vx (.br k t r),match l.toArray[i]? with
     | some o=>gh S l.toArray st o fun st'=>rq S l.toArray (H.map fun k=>l.getD k default) fuel (listed.setIfInBounds i true) st' K
     | none=>rq S l.toArray (H.map fun k=>l.getD k default) fuel (listed.setIfInBounds i true) st K:=by
   intro H listed fuel st hs hcl hsub hok h hd i hi;have hkr:k ∈ Region.ready .any l.toArray listed:=hsub k (by grind [vx]);simp only [yW,Bool.and_eq_true] at hok;obtain ⟨⟨⟨hk,hn⟩,ht⟩,hr⟩:=hok;simp only [ln] at hd;rcases List.mem_cons.1 hi with rfl|hi
   ·have hlt:i<l.toArray.size:=by simp [Nat.blt] at hk ⊢;omega
    rw [hget i hlt];have h1:=h.1;grind [gh,nC,zx,jT,jW,tX]
   ·exact ihr.2 H listed fuel st hs hcl (fun j hj=>hsub j (by grind [vx])) hr h.2 (by omega) i hi
  refine ⟨fun H listed fuel st hs hcl hn ht hr h hd => ?_,alts⟩;have hrd:Region.ready .any l.toArray listed=vx (.br k t r):=by simpa [Vv] using hn
  cases fuel with
  | zero=>simp only [ln] at hd;omega
  | succ f=>exact ⟨hr,fun h0=>by (rw [hrd] at h0;cases h0),fun j hj=>alts H listed f st hs hcl (fun i hi=>by grind) ht h hd j (by grind)⟩
 | ho p b t iht =>
  refine ⟨fun H listed fuel st hs hcl hn ht hr h hd => ?_,fun _ _ _ _ _ _ _ _ _ _ i hi=>by cases hi⟩;cases fuel with
  | zero=>simp only [ln] at hd;omega
  | succ f =>
   simp only [ln] at hd;simp only [Vv,Bool.and_eq_true,hgd] at hn;obtain ⟨⟨⟨h1,h2⟩,h3⟩,h4⟩:=hn;have hpr:p ∈ Region.ready .any l.toArray listed:=List.contains_iff_mem.1 h1;have hlt:=gB hs hpr;have h3:qp S.rcv (l.getD p default)≤1:=Nat.le_of_ble_eq_true h3;have hdjs:∀ h ∈ H.map fun k=>l.getD k default,LG l.toArray h (l.getD p default)=true∧qp S.rcv h≤1:=fun h hh=>by
    obtain ⟨k,hk,rfl⟩:=List.mem_map.1 hh;simp_all
   have h5:gh S l.toArray st (l.getD p default) fun s=>HZ S l.toArray l t (if b=true then H else p :: H) s K:=h;obtain ⟨s,h6,h7⟩:=nC h5;have hself:(match (l.getD p default).dst with|some d => !(cc l.toArray (l.getD p default)).contains d|none=>true)=true:=by
    have hq:=h2;unfold mO at hq;rw [hget p hlt] at hq;simp only [Bool.and_eq_true] at hq;exact hq.1
   have hag:=KM h3 hself h6;have hrs:Hg S l.toArray (H.map fun k=>l.getD k default) s:=a0E fun h hh=>a3D h3 (hdjs h hh).2 (hdjs h hh).1 h6 (Ub hr h hh);have hs2:(listed.setIfInBounds p true).size=l.toArray.size:=by simpa using hs
   have hcl2:=jW hs (tX hf) hcl hpr;refine OY hm (tX hf) (hget p hlt) h3 hdjs f listed st hs hcl h2 hpr ⟨s,h6, ?_⟩;simp only [yW,Bool.and_eq_true,hgd] at ht;obtain ⟨_,ht⟩:=ht;cases b with
   | true =>
    simp only [if_true,Bool.and_eq_true] at ht h7;refine Qy (hget p hlt) (Nat.eq_of_beq_eq_true ht.1.1) f _ s hs2 (xD (by omega) h2) ?_ hag (iht.1 H _ f s hs2 hcl2 ht.1.2 ht.2 hrs h7 (by omega));simp_all
   | false =>
    simp only [Bool.false_eq_true,if_false,Bool.and_eq_true] at ht h7;exact iht.1 (p :: H) _ f s hs2 hcl2 ht.1 ht.2 ⟨by rw [zx];exact hag,hrs⟩ h7 (by omega)
theorem zF {t : Th} {st : St} (hok : (oE l.toArray && dc l.toArray m && Vv S.rcv l.toArray m (Array.replicate l.toArray.size false) [] t && yW S.rcv l.toArray m (Array.replicate l.toArray.size false) [] t && Nat.ble (ln t) l.toArray.size) = true) (h : HZ S l.toArray l t [] st K) :
  iY S l.toArray l.toArray.size (Array.replicate l.toArray.size false) st K:=by
 simp only [Bool.and_eq_true] at hok;obtain ⟨⟨⟨⟨hf,hm⟩,h1⟩,h2⟩,h3⟩:=hok;have h3:=Nat.le_of_ble_eq_true h3;have hs:(Array.replicate l.toArray.size false).size=l.toArray.size:=by simp
 have hcl:iv l.toArray (Array.replicate l.toArray.size false):=fun i o ho hi=>by
  exfalso;have hlt:i<l.toArray.size:=by
   rcases Nat.lt_or_ge i l.toArray.size with h|h
   ·exact h
   ·grind
  unfold mw at hi;simp_all
 exact Lf _ _ _ ((Yd hm hf t).1 [] _ _ st hs hcl h1 h2 trivial h h3)
theorem Uw {id : Nat} {y : Code} {Q : AExit → St → Prop} {st : St} (t : Th)
  (hok:(oE l.toArray && dc l.toArray (fun i=>(Region.before l.toArray).getD i 0) && Vv S.rcv l.toArray (fun i=>(Region.before l.toArray).getD i 0) (Array.replicate l.toArray.size false) [] t && yW S.rcv l.toArray (fun i=>(Region.before l.toArray).getD i 0) (Array.replicate l.toArray.size false) [] t && Nat.ble (ln t) l.toArray.size)=true)
  (h:∀ K:St→Prop,(∀ s,cw S y Q s→K s)→HZ S l.toArray l t [] st K):cw S (.seq (.region id l.toArray true) y) Q st:=by
 grind [fJ,ku,Wk,cw,iY,zF]
theorem Sf {ops:Array Oper} {L:List Oper} {i:Nat} {t r:Th} {H:List Nat} {st:St} (h:∀ K':St→Prop,(∀ s,Hg S ops (H.map fun k=>L.getD k default) s→HZ S ops L t H s K→K' s)→bj S ops [L.getD i default] st K') (hr:HZ S ops L r H st K):HZ S ops L (.br i t r) H st K :=
 ⟨h _ (fun _ h1 h2=>⟨h1,h2⟩),hr⟩
theorem Kq {ops:Array Oper} {L:List Oper} {i:Nat} {t:Th} {H:List Nat} {st:St} (h:∀ K':St→Prop,(∀ s,HZ S ops L t H s K→K' s)→bj S ops [L.getD i default] st K'):HZ S ops L (.ho i true t) H st K:=h _ (fun _ h=>h)
theorem Fh {ops:Array Oper} {L:List Oper} {H:List Nat} {st:St} (h:K st):HZ S ops L .leaf H st K:=h
theorem KY {ops:Array Oper} {L:List Oper} {H:List Nat} {st:St}:HZ S ops L .nil H st K:=trivial
theorem xF {ops:Array Oper} {st:St}:Hg S ops [] st:=trivial
theorem pR {ops:Array Oper} {st:St} {h:Oper} {r:List Oper}:Hg S ops (h :: r) st=(bj S ops [h] st (fun s2=>s2=st)∧Hg S ops r st):=rfl
theorem pI {st:St} {d:Nat} {v:SV} (h:st.fr d=v):st.set (some d) v=st:=by
 rw [dO];have:(fun s=>if some s=some d then v else st.fr s)=st.fr:=by
  funext s;split
  ·grind
  ·rfl
 rw [this]
end
end
section
open Go Go.RowKit
theorem a3J (o:Obj):isC o=Obj.isCells o:=by cases o <;> rfl
structure Turned (B:Nat) (w w':World):Prop where
 os:w'.os=w.os
 tape:w'.tape=w.tape
 output:w'.output=w.output
 size:w.heap.size≤w'.heap.size
 low:∀ k,k<B→w'.heap[k]?=w.heap[k]?
 cells:∀ (k:Nat) (o:Obj),w.heap[k]?=some o→o.isCells=true→w'.heap[k]?=some o
theorem Uq {ρ:iN} {ok:Nat→Prop} {w:World} {x:Bx} {v:Value} {b:Nat} (h:jC ρ ok w x v) (hb:mW v=some b):∃ o,w.heap[b]?=some o∧o.isCells=true:=by
 cases x with
 | fix cs =>
  obtain ⟨b',o,cells,t,rfl,hh,_⟩:=h;cases hb;exact ⟨_,hh,rfl⟩
 | arr e sz n f =>
  obtain ⟨_,xs,hown,_⟩:=h;rcases hown.2 with ⟨rfl,_⟩|⟨q,cap,cur,rfl,_,hh,_⟩
  ·cases hb
  ·cases hb;exact ⟨_,hh,rfl⟩
section
variable {S:Env} {E:Ent} {st:St} {ρ:iN} {a:Act} {w:World}
theorem Gam.turned {w':World} (g:Gam S E st ρ a w) (h:Turned E.w0.heap.size w w') (hh:∀ k o,E.hd k=some o→isC o=false→w.heap[k]?=some o→w'.heap[k]?=some o):Gam S E st ρ a w':=by
 have hk:Aw (cd E st.bx ρ w) (cd E st.bx ρ w') w w':=fun b ⟨h1,h2,h3⟩=>⟨⟨Nat.lt_of_lt_of_le h1 h.size,h2,h3⟩,fun o x hx=>by
  obtain ⟨ob,ho,hc⟩:=cells_of_cell hx;rw [World.cell?_of_block ((h.cells _ _ ho hc).trans ho.symm)]
  exact hx⟩
 have hρ:∀ id,id<st.nx→ρ id=ρ id:=fun _ _=>rfl
 refine ⟨⟨g.dfr.1,Nat.le_trans g.dfr.2.1 h.size,fun k o h1 h2=>hh k o h1 h2 (g.dfr.2.2 k o h1 h2)⟩,g.sz,⟨h.os.trans g.frm.os,h.tape.trans g.frm.tape,h.output.trans g.frm.output,Nat.le_trans g.frm.size h.size,fun k hk hx=>(h.low k hk).trans (g.frm.block k hk hx),fun b o l hr => ?_⟩,g.wfs,g.wfb,
  fun id b hb => ?_,fun id x b h1 h2=>⟨Nat.lt_of_lt_of_le (g.new id x b h1 h2).1 h.size,(g.new id x b h1 h2).2⟩,g.inj,g.rx0,fun s=>bB.monoI hk hρ (g.wfs s) (g.slt s),fun gg n f hg => ?_,fun s=>⟨(g.kept s).1,bB.monoI hk hρ (g.kept s).1 (g.kept s).2⟩⟩
 ·obtain ⟨c,c0,t,h1,h2,h3⟩:=g.frm.rxb b o l hr;exact ⟨c,c0,t,h.cells _ _ h1 rfl,h2,h3⟩
 ·refine jC.monoI hk hρ (g.wfb id b hb).2 (fun c hc => ?_) (g.bxs id b hb);obtain ⟨o,ho,h1⟩:=Uq (g.bxs id b hb) hc;exact (h.cells c o ho h1).trans ho.symm
 ·obtain ⟨h1,h2⟩:=g.glb gg n f hg;refine ⟨(hk gg h1).1,fun j hj => ?_⟩;obtain ⟨x,hx,h3,hd⟩:=h2 j hj;exact ⟨x,(hk gg h1).2 j x hx,h3,bq.monoI hk hd⟩
def a0Q (bx:Nat→Option Bx) (nx:Nat) (kf:Nat→SV):AExit→St→Prop
 | .normal,st=>Wk (fun s=>s.bx=bx∧s.nx=nx∧s.kf=kf) st
 | _,_=>False
theorem FR {bx:Nat→Option Bx} {nx:Nat} {kf:Nat→SV} {st:St}:a0Q bx nx kf .normal st=Wk (fun s=>s.bx=bx∧s.nx=nx∧s.kf=kf) st:=rfl
attribute [go_sem] FR
theorem Vk {α : Type} (hm : S.P.follows .mixedOrders = true) (g : Gam S E st ρ a w) (hdf : E.df = []) (hhd : E.hd = fun _ => none)
  (B:List α→(Nat→Option Bx) × Nat) (hB:B []=(st.bx,st.nx)) {n0:Nat} (hn0:∀ s,(st.fr s).lt n0∧(st.kf s).lt n0) (hnx:∀ pre,n0≤(B pre).2)
  {gop:Operand} {ps:Array Tmp} {assign body:Code} {Q:Exit→Act→World→Prop} {gf:Nat} {lb:Array Value} {encs:α→Array Value} (hg:a.eval gop = .func (.func gf) #[] lb)
  (eg:∀ args w,(callFunc gf args).run S.P w = .ok (.enter gf args) w) {Kp:World→World→Prop} {Sx:List α→Prop} {NN:Nat} (hseq:SeqStopsK Fence.wide 3 S.P gf lb encs Kp Sx (fun _=>True) NN w)
  (hKt:∀ {A B C:World},Kp A B→Kp B C→Kp A C) (hKb:∀ (W:World) (l:Nat) (o o':Obj),w.heap.size≤l→W.heap[l]?=some o→o.isCells=false→o.isWalk=false→Kp W (W.putObj l o')) (hps:∀ x,(encs x).size=ps.size)
  (a1:α→Act) (f:α→Nat→SV)
  (hassign:∀ (l:Nat) (x:α) (W:World) (K:Act→World→Prop),K (a1 x) W→assign.wpIn (Fence.wide.inRound l) 2 S.P (Exit.then K (fun _ _ _=>False)) { tmps:=(ps.zip (encs x)).foldl (fun t (p,v)=>t.setIfInBounds p v) a.tmps,defers:=[] } W)
  (ha1:∀ x,(a1 x).defers=[]∧(a1 x).tmps.size=E.N)
  (hfr:∀ x pre ρ' W,Gam S E ⟨st.fr,(B pre).1,(B pre).2,st.kf⟩ ρ' a W→∀ s,(f x s).lt (B pre).2∧bB ρ' (cd E (B pre).1 ρ' W) W (f x s) ((a1 x).tmps.getD s undef))
  (hKp:∀ {X Y ρ1 ρ2 W1 W2},Gam S E ⟨st.fr,(B X).1,(B X).2,st.kf⟩ ρ1 a W1→Gam S E ⟨st.fr,(B Y).1,(B Y).2,st.kf⟩ ρ2 a W2→Kp W1 W2)
  (hN:cX E.N body=true) (hnd:mA body=true)
  (hcw:∀ pre x (kf:Nat→SV),pre.length<NN→(∀ s,(kf s).lt n0)→cw S body (a0Q (B (pre ++ [x])).1 (B (pre ++ [x])).2 kf) ⟨f x,(B pre).1,(B pre).2,kf⟩)
  (hdone:∀ (D:Nat) (xs:List α) (W:World) (ρ':iN),w.heap.size≤D→Sx xs→W.heap[D]?=some (.deferred (some []))→Gam S E ⟨st.fr,(B xs).1,(B xs).2,st.kf⟩ ρ' a W→Q .normal { a with defers := { target := .collected D,args := #[] } :: a.defers } W) :
  (Code.rangeFunc gop ps assign body).wp S.P Q a w:=by
 have had:a.defers=[]:=g.dfr.1.trans hdf;refine (wpIn_wide (n:=4)).1 ?_;refine wpIn_rangeFunc_ownG (F:=Fence.wide) (n:=4) (w0:=w) rfl (by omega) hg trivial eg hseq hKt hKb (Below.refl _ _) hps
  (fun pre W=>∃ ρ',Gam S E ⟨st.fr,(B pre).1,(B pre).2,st.kf⟩ ρ' a W) (fun _ _ _=>False) (fun s A A' row hs hg' hr => ?_) (fun _ _ _ _ _ hs _ _=>hs) ⟨ρ, ?_⟩ a1 hassign ?_ ?_ ?_
 ·obtain ⟨ρ',g'⟩:=hs;refine ⟨ρ',g'.turned ⟨hg'.os,hg'.tape,hg'.output,hg'.size,fun k hk => ?_,fun k o ho hc=>(grownBy_keeps_cells hg' (fun r e=>(hr r e).2) ho hc).trans ho⟩ fun k o h1=>by rw [hhd] at h1;cases h1⟩;refine hg'.block k (Nat.lt_of_lt_of_le hk g'.frm.size) fun e => ?_;have:=(hr k e.symm).1;have:=g.frm.size;omega
 ·rw [hB];exact g
 ·rintro l pre x W ⟨ρ',g'⟩ hlen
  let kf:Nat→SV:=fun s=>if s % 2=0 then st.fr (s / 2) else st.kf (s / 2)
  let E2:Ent := { w0:=E.w0,ok0:=E.ok0,rx:=E.rx,N:=E.N,kp:=fun s=>if s % 2=0 then a.tmps.getD (s / 2) undef else E.kp (s / 2),hd:=fun k=>if w.heap.size≤k then W.heap[k]? else none,hn:=W.heap.size }
  have hkl:∀ s,(kf s).lt n0:=fun s=>by
   simp only [kf];split
   ·exact (hn0 _).1
   ·exact (hn0 _).2
  have g1:Gam S E2 ⟨f x,(B pre).1,(B pre).2,kf⟩ ρ' (a1 x) W:=by
   refine ⟨⟨(ha1 x).1,Nat.le_refl _,fun k o h1 _ => ?_⟩,(ha1 x).2,⟨g'.frm.os,g'.frm.tape,g'.frm.output,g'.frm.size,g'.frm.block,g'.frm.rxb⟩,fun s=>(hfr x pre ρ' W g' s).1,g'.wfb,g'.bxs,g'.new,g'.inj,g'.rx0,fun s=>(hfr x pre ρ' W g' s).2,g'.glb,fun s => ?_⟩
   ·simp only [E2] at h1;split at h1
    ·exact h1
    ·cases h1
   ·show (kf s).lt _∧bB ρ' (cd E (B pre).1 ρ' W) W (kf s) (E2.kp s);simp only [kf,E2];split
    ·exact ⟨g'.wfs _,g'.slt _⟩
    ·exact g'.kept _
  refine wpIn_mono (jh (S:=S) (E:=E2) hm l 2 body hN hnd (hcw pre x kf hlen hkl) g1) fun e a3 W3 hq => ?_;cases e with
  | normal =>
   obtain ⟨st',ρ2,g2,hk⟩:=hq;obtain ⟨⟨fr3,bx3,nx3,kf3⟩,ρ3,g3,hb3,hn3,hk3⟩:=Wk.nxt hk g2;dsimp only at hb3 hn3 hk3;subst hb3 hn3 hk3;have hk0:∀ s,(st.fr s).lt (B (pre ++ [x])).2∧bB ρ3 (cd E (B (pre ++ [x])).1 ρ3 W3) W3 (st.fr s) (a.tmps.getD s undef):=fun s=>by
    have:=g3.kept (2 * s);have e1:2 * s % 2=0:=by omega
    have e2:2 * s / 2=s:=by omega
    simp only [kf,E2,e1,e2,if_true] at this;exact this
   have hk1:∀ s,(st.kf s).lt (B (pre ++ [x])).2∧bB ρ3 (cd E (B (pre ++ [x])).1 ρ3 W3) W3 (st.kf s) (E.kp s):=fun s=>by
    have:=g3.kept (2 * s+1);have e1:¬ (2 * s+1) % 2=0:=by omega
    have e2:(2 * s+1) / 2=s:=by omega
    simp only [kf,E2,e1,e2,if_false] at this;exact this
   have g4:Gam S E ⟨st.fr,(B (pre ++ [x])).1,(B (pre ++ [x])).2,st.kf⟩ ρ3 a W3 :=
    ⟨⟨g.dfr.1,Nat.le_trans g'.dfr.2.1 g3.dfr.2.1,fun k o h1=>by rw [hhd] at h1;cases h1⟩,g.sz,⟨g3.frm.os,g3.frm.tape,g3.frm.output,g3.frm.size,g3.frm.block,g3.frm.rxb⟩,fun s=>(hk0 s).1,g3.wfb,g3.bxs,g3.new,g3.inj,g3.rx0,fun s=>(hk0 s).2,g3.glb,hk1⟩
   exact ⟨⟨g3.dfr.2.1,fun k o hB hk ho=>g3.dfr.2.2 k o (by simp only [E2];rw [if_pos hB];exact hk) (by rw [a3J];exact ho)⟩,hKp g' g4,ρ3,g4⟩
  | exit id=>obtain ⟨_,_,_,h⟩:=hq;exact h.elim
  | ret=>obtain ⟨_,_,_,h⟩:=hq;exact h.elim
  | _=>exact hq.elim
 ·rintro D xs W hD hS ⟨ρ',g'⟩ hd;exact hdone D xs W ρ' hD hS hd g'
 ·grind
def a0G (S:Env) (E:Ent) (Q:AExit→St→Prop):Exit→Act→World→Prop
 | .normal,a,w | .ret,a,w=>∃ D,a.defers=[{ target := .collected D,args := #[] }]∧w.heap[D]?=some (.deferred (some []))∧∃ st ρ,Gam S E st ρ { a with defers:=[] } (w.putObj D (.deferred none))∧Q .ret st
 | _,_,_=>False
theorem WG (hm : S.P.follows .mixedOrders = true) (g : Gam S E st ρ a w) (hdf : E.df = []) (hhd : E.hd = fun _ => none) {D : Nat} (hD : w.heap[D]? = some (.deferred (some []))) (hD0 : E.w0.heap.size ≤ D) {c : Code} (hN : cX E.N c = true) {Q : AExit → St → Prop} (hQ : ∀ st, Q .normal st = Q .ret st) (hQe : ∀ id st, ¬ Q (.exit id) st)
  (hc:cw S c Q st):c.wp S.P (a0G S E Q) { a with defers := { target := .collected D,args := #[] } :: a.defers } w:=by
 have had:a.defers=[]:=g.dfr.1.trans hdf
 let E2:Ent := { w0:=E.w0,ok0:=E.ok0,rx:=E.rx,N:=E.N,kp:=E.kp,df:=[{ target := .collected D,args := #[] }],hd:=fun k=>if k=D then some (.deferred (some [])) else none,hn:=E.hn }
 have g2:Gam S E2 st ρ { a with defers := { target := .collected D,args := #[] } :: a.defers } w :=
  ⟨⟨by rw [had],g.dfr.2.1,fun k o h1 _=>by
   simp only [E2] at h1;split at h1
   ·rename_i e;cases h1;rw [e];exact hD
   ·cases h1⟩,g.sz,⟨g.frm.os,g.frm.tape,g.frm.output,g.frm.size,g.frm.block,g.frm.rxb⟩,g.wfs,g.wfb,g.bxs,g.new,g.inj,g.rx0,g.slt,g.glb,g.kept⟩
 have fin:∀ {a':Act} {w':World} {st':St} {ρ':iN},Gam S E2 st' ρ' a' w'→Q .ret st'→∃ D,a'.defers=[{ target := .collected D,args := #[] }]∧w'.heap[D]?=some (.deferred (some []))∧∃ st ρ,Gam S E st ρ { a' with defers:=[] } (w'.putObj D (.deferred none))∧Q .ret st:=fun {a' w' st' ρ'} g' hq=>by
  have hd':=g'.dfr.2.2 D (.deferred (some [])) (if_pos rfl) rfl;refine ⟨D,g'.dfr.1,hd',st',ρ', ?_,hq⟩;have g3:Gam S E st' ρ' { a' with defers:=[] } w' :=
   ⟨⟨hdf.symm,g'.dfr.2.1,fun k o h1=>by rw [hhd] at h1;cases h1⟩,g'.sz,⟨g'.frm.os,g'.frm.tape,g'.frm.output,g'.frm.size,g'.frm.block,g'.frm.rxb⟩,g'.wfs,g'.wfb,g'.bxs,g'.new,g'.inj,g'.rx0,g'.slt,g'.glb,g'.kept⟩
  have hg:=grownBy_putObj' w' D (.deferred none);exact g3.turned ⟨hg.os,hg.tape,hg.output,hg.size,fun k hk=>World.putObj_heap_other (by omega),fun k o ho hc=>(World.putObj_heap_other (fun e=>by rw [e,hd'] at ho;cases ho;cases hc)).trans ho⟩ fun k o h1=>by rw [hhd] at h1;cases h1
 refine wp_mono (fB (E:=E2) hm c hN hc g2) fun e a' w' hq => ?_;cases e with
 | normal=>obtain ⟨st',ρ',g',h⟩:=hq;exact fin g' (hQ st' ▸ h)
 | ret=>obtain ⟨st',ρ',g',h⟩:=hq;exact fin g' h
 | exit id=>obtain ⟨_,_,_,h⟩:=hq;exact absurd h (hQe _ _)
 | _=>exact hq.elim
theorem Nn {F : Fence} {n : Nat} {fn : Func} {R : Ending → World → Prop} {a' : Act} {w' : World} {D : Nat} (hd : a'.defers = [{ target := .collected D, args := #[] }]) (hD : w'.heap[D]? = some (.deferred (some [])))
  (h:∃ v,(results fn a'.tmps).run S.P (w'.putObj D (.deferred none)) = .ok v (w'.putObj D (.deferred none))∧R (.returned v) (w'.putObj D (.deferred none))):LeavesInM F n S.P fn a'.tmps R a'.defers .returning w':=by
 rw [hd];exact ⟨by simp, .inl ⟨_,_,rfl,run_takeDeferred hD,h⟩⟩
theorem XX {f : FuncId} {fn : Func} {c : Code} {rs : List ResultVar} {args : List BV} {e sz n : Nat} {gg : Nat → Nat → PV} (hf : S.P.funcs[f]? = some fn) (hb : fn.body = some c) (hrs : fn.results.toList = rs) (hname : (fn.name == "runtime.NumGoroutine") = false)
  (hlen:args.length≤fn.ntmps) (hl:∀ x ∈ args,BV.lt 0 x) (h:∀ (ok:Nat→Prop) (w:World) (a:Act),Gam S { w0:=w,ok0:=ok,rx:=none,N:=fn.ntmps } (zy args) dd a w→c.wp S.P (a0G S { w0:=w,ok0:=ok,rx:=none,N:=fn.ntmps } (Wc rs e sz n gg)) a w):gC S f args e sz n gg:=by
 subst hrs;refine ⟨⟨fn,hf,hname,by grind⟩,fun ok w vs hok hgl hsz hden => ?_⟩;have g0:=Di (S:=S) (N:=fn.ntmps) hok hgl hsz hden hlen hl;have fin : ∀ {a' : Act} {w' : World} {st' : St} {ρ' : iN}, Gam S { w0 := w, ok0 := ok, rx := none, N := fn.ntmps } st' ρ' { a' with defers := [] } w' → FI fn.results.toList e sz n gg st' → ∃ v, (results fn a'.tmps).run S.P w' = .ok v w' ∧
   ∃ v2 xs,Ending.returned v = .returned v2∧RowKit.Below w.heap.size w w'∧0<sz∧w'.ownsRow w.heap.size e sz v2 n xs∧(∀ x ∈ xs,x.oneCell'=true) ∧
    ∀ i,i<n→∀ j,j<sz→bq (fun _=>False) w' (gg i j) (xs.getD (i * sz+j) undef):=fun {a' w' st' ρ'} g' hq=>by
  unfold FI at hq;split at hq
  ·rename_i t hrs;split at hq
   ·rename_i id n' hfr;obtain ⟨f2,hbx,rfl,hgf⟩:=hq;have hs:=g'.slt t;rw [hfr] at hs;obtain ⟨A,m,cp,hr,h1,h2,h3,hu⟩:=hs;obtain ⟨h0,xs,hown,hone,hd⟩:=g'.bxs id _ hbx;have hmn:m=n':=by
     rcases hown.2 with ⟨e1,e2⟩|⟨b,cap,cur,e1,_⟩
     ·grind
     ·grind
    subst hmn;have hv:a'.tmps.getD t undef=ρ' id:=by rw [hr];exact hu
    have hres:(fn.results.toList.mapM (tG a'.tmps)).run S.P w' = .ok [ρ' id] w':=by rw [hrs,← hv];rfl
    refine ⟨ρ' id,lR hres,ρ' id,xs,rfl,⟨g'.frm.os,g'.frm.tape,g'.frm.output,g'.frm.size,fun k hk=>g'.frm.block k hk (fun _ _ h=>by cases h)⟩,h0,⟨hown.1, ?_⟩,hone,fun i hi j hj => ?_⟩
    ·rcases hown.2 with h|⟨b,cap,cur,e1,e2,e3⟩
     ·grind
     ·refine .inr ⟨b,cap,cur,e1, ?_,e3⟩;rcases (g'.new id _ b hbx (by rw [e1];rfl)).2 with h|⟨_,_,_,h,_⟩
      ·exact h
      ·cases h
    grind [bq,undef,cd]
   grind
  grind
 refine callsIn_wide.1 (callsIn_of_wp_marks (F:=Fence.wide) (n:=5) hf hb trivial (wpIn_wide.2 (wp_mono (h ok w _ g0) fun e a' w' hq => ?_)));cases e with
 | normal=>obtain ⟨D,hd,hD,st',ρ',g',hq⟩:=hq;exact Nn hd hD (fin g' hq)
 | ret=>obtain ⟨D,hd,hD,st',ρ',g',hq⟩:=hq;exact Nn hd hD (fin g' hq)
 | _=>exact hq.elim
end
end
end Go.SL
