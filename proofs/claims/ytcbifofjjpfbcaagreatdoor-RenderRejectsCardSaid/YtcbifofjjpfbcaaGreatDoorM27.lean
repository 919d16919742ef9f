/- Part of the proof: VC, R2, R3. -/
import Derived.Test.YtcbifofjjpfbcaaGreatDoorM25
import Derived.Test.YtcbifofjjpfbcaaGreatDoorM26
set_option linter.unusedSimpArgs false
set_option linter.unusedVariables false
set_option maxHeartbeats 8000000
set_option maxRecDepth 16000
namespace Go.Proofs.YtcbifofjjpfbcaaGreatDoor
open Go Go.SL
open Go.RowKit (wrap64)
section
attribute [local go_sem] Gx HD Int.toNat_natCast
theorem xe (s:Script) (x y m:Int) (C:Pt s m x y) (hs:ScriptLen s) (hx:i64 x) (hy:i64 y):aA Sg 66 [ag (aF s),I x,I y] (fun r=>r = .b (ag (aS (dS s x y)))):=by
 have ht:True:=trivial;have hr:=PX s x y m C hs hx hy;have ha:=EW C s.ops.length (Nat.le_refl _);obtain ⟨t,r,e⟩:=ha.ne;have hv:dS s x y=bI t.acc t.back m:=by
  have e2:mJ m (cY s x y) s.ops [base]=t :: r:=by rw [← e];unfold jP;rw [List.take_length]
  unfold dS;rw [C.mx,e2];rfl
 rw [e] at ha hr;have hre:=FB m (fun _ j=>(LL t).getD j .any) t (fun j _=>rfl) C.hm ha.v.head.v;rw [hv];have hr:aA Sg 103 [ag (aF s),I x,I y] (fun q=>q = .tup [.c (.p .any),Gx m t]):=hr;generalize bI t.acc t.back m=q at *
 refine aD Tryz.func66 [.cell 6 37] ?_;repeat' (first|refine an (fun K hK => ?_)|refine aa (hr) ?_|refine aa (hre) ?_|refine ax ?_|(refine aq hK ?_;try clear hK K))
 rfl
def HR (s:Script) (q:Nat):Pixel:=dS s (s.canvas.x0+((q % (s.canvas.x1 - s.canvas.x0).toNat:Nat):Int)) (s.canvas.y0+((q / (s.canvas.x1 - s.canvas.x0).toNat:Nat):Int))
def dI (s:Script) (n:Nat):List Pixel:=(List.range n).map (HR s)
theorem jo {s:Script} {n:Nat}:(dI s n).length=n:=by simp [dI]
theorem Cd {s:Script} {n:Nat}:dI s (n+1)=dI s n ++ [HR s n]:=by simp [dI,List.range_succ]
theorem Hy (s : Script) (hs : ScriptLen s) (hc : Small s.canvas) (hP : ∀ x y, ic s.canvas x y → ∃ m, Pt s m x y) :
  aA Sg 38 [ag (aF s),ag (aQ s.canvas)] (fun r=>r = .b (.c (.p (pX (dI s ((s.canvas.x1 - s.canvas.x0) * (s.canvas.y1 - s.canvas.y0)).toNat))))):=by
 obtain ⟨x0,x1,y0,y1,hw,hh⟩:=hc;have ht:True:=trivial;obtain ⟨W,hW⟩:∃ W:Nat,(W:Int)=s.canvas.x1 - s.canvas.x0:=⟨(s.canvas.x1 - s.canvas.x0).toNat,by omega⟩
 obtain ⟨H,hH⟩:∃ H:Nat,(H:Int)=s.canvas.y1 - s.canvas.y0:=⟨(s.canvas.y1 - s.canvas.y0).toNat,by omega⟩
 have eWH:((s.canvas.x1 - s.canvas.x0) * (s.canvas.y1 - s.canvas.y0)).toNat=H * W:=by rw [← hW,← hH,← Int.natCast_mul,Int.toNat_natCast,Nat.mul_comm]
 have eW:(s.canvas.x1 - s.canvas.x0).toNat=W:=by omega
 have hle:∀ a,a≤H→a * W≤20:=fun a ha=>Nat.le_trans (Nat.mul_le_mul ha (Nat.le_refl W)) (Nat.le_trans (Nat.mul_le_mul (show H≤4 by omega) (show W≤5 by omega)) (by decide));have hval:∀ a k,a<H→k<W→aA Sg 66 [ag (aF s),I (s.canvas.x0+(k:Nat)),I (s.canvas.y0+(a:Nat))] (fun r=>r = .b (ag (aS (HR s (a * W+k))))):=fun a k ha hk=>by
  obtain ⟨m,C⟩:=hP (s.canvas.x0+k) (s.canvas.y0+a) (by unfold ic;omega);have e1:(a * W+k) % W=k:=by rw [Nat.mul_comm,Nat.mul_add_mod];exact Nat.mod_eq_of_lt hk
  have e2:(a * W+k) / W=a:=by rw [Nat.mul_comm,Nat.mul_add_div (by omega),Nat.div_eq_of_lt hk];omega
  have:=xe s _ _ m C hs ⟨by omega,by omega⟩ ⟨by omega,by omega⟩;unfold HR;rw [eW,e1,e2];exact this
 rw [eWH];refine aD Tryz.func38 [.tmp 4] ?_;repeat' (refine aC ?_)
 refine aH (X:=Nat) (fun a=>aT [(2, .b (.c (.ptr 0 0))),(3, .b (.c (.ptr 1 0))),(5, .b (.c (.own 2 (a * W)))),(6, .b (I (s.canvas.y0+a)))] [(0, .fix ((aF s).map CV.p)),(1, .fix ((aQ s.canvas).map CV.p)),(2, .arr 37 5 (a * W) (bK aS (dI s (a * W))))] 3) (fun a=>a≤H) (fun a=>H - a) 0 ?_ ?_ ?_
 ·exact Nat.zero_le _
 ·refine au [(1,some 1),(2,none)] ?_ ?_;and_intros;all_goals try exact aj
  all_goals exact .inl (congrArg (fun z=>PV.val (Value.int IntKind.i64 z)) (by omega))
 intro a haH;rcases Nat.lt_or_ge a H with ha|ha
 ·have g1:decide (s.canvas.y0+(a:Int)<s.canvas.y1)=true:=decide_eq_true (by omega);repeat' (first|refine ah g1 ?_|refine aC ?_)
  refine aH (X:=Nat) (fun k=>aT [(2, .b (.c (.ptr 0 0))),(3, .b (.c (.ptr 1 0))),(5, .b (.c (.own 2 (a * W+k)))),(6, .b (I (s.canvas.y0+a))),(7, .b (I (s.canvas.x0+k)))] [(0, .fix ((aF s).map CV.p)),(1, .fix ((aQ s.canvas).map CV.p)),(2, .arr 37 5 (a * W+k) (bK aS (dI s (a * W+k))))] 3) (fun k=>k≤W) (fun k=>W - k) 0 ?_ ?_ ?_
  ·exact Nat.zero_le _
  ·refine au [(1,some 1),(2,some 2)] ?_ ?_;and_intros;all_goals try exact aj
   all_goals exact .inl (congrArg (fun z=>PV.val (Value.int IntKind.i64 z)) (by omega))
  intro k hkW;have hb1:=hle (a+1) (by omega);rw [Nat.succ_mul] at hb1;rcases Nat.lt_or_ge k W with hk|hk
  ·have g2:decide (s.canvas.x0+(k:Int)<s.canvas.x1)=true:=decide_eq_true (by omega);have hv:=hval a k ha hk;generalize hq:HR s (a * W+k)=q at *
   repeat' (first|refine ah g2 ?_|refine ax ?_|refine an (fun K hK => ?_)|refine aa (hv) ?_|(refine aq hK ?_;try clear hK K))
   rw [ae];refine ak (k+1) ?_ (by omega) (by omega);have key:=fun g hg=>cL (enc:=aS) (xs:=dI s (a * W+k)) (x:=q) (s:=5) (g:=g) hg;simp only [jo] at key;have e:dI s (a * W+(k+1))=dI s (a * W+k) ++ [q]:=by rw [← hq];exact Cd
   refine au [(1,some 1),(2,some 4)] ?_ ?_;and_intros;all_goals try exact aj
   ·exact .inl (congrArg (fun z=>PV.val (Value.int IntKind.i64 z)) (by omega))
   ·refine .inr fun i hi j hj => ?_;rw [e];refine key _ (fun j hj => ?_) i hi j hj;have:j=0∨j=1∨j=2∨j=3∨j=4:=by omega
    rcases this with rfl|rfl|rfl|rfl|rfl <;> rfl
  ·have g2:decide (s.canvas.x0+(k:Int)<s.canvas.x1)=false:=decide_eq_false (by omega);repeat' (first|refine ah g2 ?_|refine aC ?_)
   rw [ae];refine ak (a+1) ?_ (by omega) (by omega);have hkW2:k=W:=by omega
   have e2:a * W+k=(a+1) * W:=by rw [hkW2,Nat.succ_mul]
   rw [e2];refine au [(1,some 1),(2,some 2)] ?_ ?_;and_intros;all_goals try exact aj
   all_goals exact .inl (congrArg (fun z=>PV.val (Value.int IntKind.i64 z)) (by omega))
 ·have g1:decide (s.canvas.y0+(a:Int)<s.canvas.y1)=false:=decide_eq_false (by omega);have:a=H:=by omega
  subst this;repeat' (first|refine ah g1 ?_|refine aC ?_)
  rw [jo]
def cN (s:Script):Image:=dd (s.canvas.x1 - s.canvas.x0) (s.canvas.y1 - s.canvas.y0) (dI s ((s.canvas.x1 - s.canvas.x0) * (s.canvas.y1 - s.canvas.y0)).toNat)
theorem zG (s : Script) (hs : ScriptLen s) (hc : Small s.canvas) (V : VOps s) (hm : Full (bg s.bits)) (hi : nQ s) (hP : ∀ x y, ic s.canvas x y → ∃ m, Pt s m x y) :
  aA Sg 11 [ag (aF s)] (fun r=>r = .tup [ag (aI (cN s)),I 0,I 0]):=by
 have ht:True:=trivial;have h1:=LJ s V hs hm hi;have h2:=Hy s hs hc hP;obtain ⟨x0,x1,y0,y1,hw,hh⟩:=hc;have hl:((s.canvas.x1 - s.canvas.x0) * (s.canvas.y1 - s.canvas.y0)).toNat≤20:=by
  have:=Int.mul_le_mul hw.2 hh.2 (by omega) (by decide:(0:Int)≤5);omega
 have hok:cZ (s.canvas.x1 - s.canvas.x0) (s.canvas.y1 - s.canvas.y0) (dI s ((s.canvas.x1 - s.canvas.x0) * (s.canvas.y1 - s.canvas.y0)).toNat).length=true:=by
  rw [jo];exact mK hw hh rfl
 have h3:=kh (s.canvas.x1 - s.canvas.x0) (s.canvas.y1 - s.canvas.y0) (dI s ((s.canvas.x1 - s.canvas.x0) * (s.canvas.y1 - s.canvas.y0)).toNat) (by rw [jo];omega);rw [hok] at h3;unfold cN;generalize dI s ((s.canvas.x1 - s.canvas.x0) * (s.canvas.y1 - s.canvas.y0)).toNat=l at *
 generalize dd (s.canvas.x1 - s.canvas.x0) (s.canvas.y1 - s.canvas.y0) l=img at *
 refine aD Tryz.func11 [.cell 2 43, .tmp 3, .tmp 4] ?_;repeat' (first|refine ah ht ?_|refine ax ?_|refine an (fun K hK => ?_)|refine aa (h1) ?_|(refine aq hK ?_;try clear hK K))
 refine sO (id:=4) (aT [(2, .b (.c (.ptr 1 0))),(3, .b (I 0)),(4, .b (I 0)),(7, .b (.c (.ptr 2 0))),(8, .b (B true))] [(1, .fix (List.replicate 28 (.p .any))),(2, .fix ((aI img).map CV.p))] 3) (.ho 0 true (.ho 1 true (.ho 3 true (.ho 4 true (.ho 7 true (.ho 8 true (.ho 10 true (.ho 11 true (.ho 15 true (.ho 2 false (.ho 5 false (.ho 6 true (.ho 9 false (.ho 12 false (.ho 13 true (.ho 14 false (.ho 16 false (.br 17 (.br 18 (.ho 19 true (.ho 20 true (.ho 21 true (.br 22 (.br 23 (.ho 24 true .leaf) .nil) .nil)))) (.br 22 (.br 18 (.ho 19 true (.ho 20 true (.ho 21 true (.br 23 (.ho 24 true .leaf) .nil)))) .nil) .nil)) (.br 22 (.br 17 (.br 18 (.ho 19 true (.ho 20 true (.ho 21 true (.br 23 (.ho 24 true .leaf) .nil)))) .nil) .nil) .nil))))))))))))))))))) (by decide +kernel) (fun K0 hW => ?_) ?_
 ·repeat' (first|exact sQ|(refine sT (fun K' hK' => ?_))|(refine th_ho1 (fun K' hK' => ?_))|(refine zE (fun K' hK' => ?_) ?_)|(refine pk (hW _ ?_);clear hW)|((first|refine aa (h2) ?_|refine aw (fun hg=>h2) ?_|refine aa (h3) ?_|refine aw (fun hg=>h3) ?_);(try simp (maxSteps:=999999)(disch:=omega) only [go_sem]);and_intros;(all_goals first|(refine hK' _ ?_;clear hK' K')|(refine hK' _ ?_ ?_;clear hK' K';focus ((try simp only [List.map_cons,List.map_nil,fS]);and_intros;(all_goals first|exact jZ|(simp (maxSteps:=999999)(disch:=omega) only [go_sem];and_intros;(all_goals first|exact fU (by (first|(simp (maxSteps:=999999)(disch:=omega) only [go_sem];done)|(simp (maxSteps:=999999)(disch:=omega) only [go_sem];rfl)|rfl))|trivial|omega|skip))|skip)))|trivial|omega|exact Nat.le_of_ble_eq_true rfl|exact ai|skip))|(simp (maxSteps:=999999)(disch:=omega) only [go_sem];and_intros;(all_goals first|(refine hK' _ ?_;clear hK' K')|(refine hK' _ ?_ ?_;clear hK' K';focus ((try simp only [List.map_cons,List.map_nil,fS]);and_intros;(all_goals first|exact jZ|(simp (maxSteps:=999999)(disch:=omega) only [go_sem];and_intros;(all_goals first|exact fU (by (first|(simp (maxSteps:=999999)(disch:=omega) only [go_sem];done)|(simp (maxSteps:=999999)(disch:=omega) only [go_sem];rfl)|rfl))|trivial|omega|skip))|skip)))|trivial|omega|exact Nat.le_of_ble_eq_true rfl|exact ai|skip)))
  all_goals
   refine au [(1,some 1),(2,some 2)] ?_ ?_;and_intros;all_goals try exact aj
 repeat' (first|with_reducible exact bq|refine ah ht ?_|refine bU ?_|((first|refine an (fun K hK => ?_)|refine fc ?_);and_intros;all_goals first|(refine hK _ ?_;clear hK K)|try exact ai)|((first|apply bn|apply ba);(case hf=>rfl);(case hc=>exact bM);(all_goals first|(intro hb;(try simp only [gL] at hb))|skip))|exact aG|(refine aK (fun hb => ?_) (fun hb => ?_);all_goals try exact aE)|refine aU (fun KB hB => ?_)|(refine hB _ ?_;clear hB KB)|refine bt (S:=Sg) (by assumption) ?_|(refine ct ?_;(try clear hB KB);(try clear hK K)))
 rfl
end
section
attribute [local go_sem] Int.toNat_natCast cO
def oq {α:Type} (enc:α→List PV) (f:Nat→α):Nat→Nat→PV:=fun i j=>(enc (f i)).getD j .any
theorem PY {α:Type} {enc:α→List PV} {f:Nat→α} {i j:Nat}:oq enc f i j=(enc (f i)).getD j .any:=rfl
def sW (n:Nat) (f:Nat→Pixel):PV := .lst 5 n (oq aS f)
def Js (n:Nat) (f:Nat→Acc):PV := .lst 6 n (oq cO f)
def OA (n:Nat) (f:Nat→Int):PV := .lst 1 n (fun i _=>PU (f i))
attribute [go_sem] PY sW Js OA
theorem mP {α:Type} {enc:α→List PV} {q:Nat→α} {i s:Nat} {g:Nat→Nat→PV} (hg:∀ j,j<s→(g 0 j).le ((enc (q i)).getD j .any)):∀ a,a<i+1→∀ j,j<s→(gY i (oq enc q) g a j).le (oq enc q a j):=fun a ha j hj=>by
 unfold gY;split
 ·exact PV.le_refl _
 ·have e:a=i:=by omega
  subst e;rw [Nat.sub_self];exact hg j hj
theorem wD (n : Nat) (f : Nat → Acc) (b : Nat → Pixel) (m : Int) (hm : Full m) (hn : n ≤ 1000) (h : ∀ k, k < n → AccV (f k) (b k) m) :
  aA Sg 112 [.c (.p (Js n f)), .c (.p (sW n b)),U m] (fun r=>r = .tup [.c (.p (sW n fun k=>bI (f k) (b k) m)),B true]):=by
 have ht:True:=trivial;have hr:∀ k,k<n→aA Sg 90 [ag (cO (f k)),ag (aS (b k)),U m] (fun r=>r = .tup [ag (aS (bI (f k) (b k) m)),B true]):=fun k hk=>Ff (f k) (b k) m hm (h k hk);obtain ⟨q,hq⟩:∃ q:Nat→Pixel,q=fun k=>bI (f k) (b k) m:=⟨_,rfl⟩
 rw [← hq];have g0:((n:Int) != n)=false:=by simp
 refine aD Tryz.func112 [.tmp 6, .tmp 7] ?_;repeat' (first|refine ah g0 ?_|refine aC ?_)
 refine aH (X:=Nat) (fun i=>aT [(0, .b (.c (.p (Js n f)))),(1, .b (.c (.p (sW n b)))),(2, .b (U m)),(8, .b (.c (.own 1 i))),(18, .b (I n)),(19, .b (I i))] [(1, .arr 37 5 i (oq aS q))] 2) (fun i=>i≤n) (fun i=>n - i) 0 ?_ ?_ ?_
 ·exact Nat.zero_le _
 ·refine au [(1,none)] ?_ ?_;and_intros;all_goals try exact aj
 intro i hi;rcases Nat.lt_or_ge i n with hk|hk
 ·have g1:decide ((i:Int)<n)=true:=decide_eq_true (by omega);have hv:=hr i hk;repeat' (first|refine ah g1 ?_|(((with_reducible refine bT (id:=7) [(25,3),(29,3)] (by decide +kernel) (by decide +kernel) ?_ (fun K hK => ?_));exact dK);(try simp (maxSteps:=999999)(disch:=omega) only [go_sem]);and_intros;(all_goals first|(refine hK _ bG ?_;clear hK K)|exact ai|skip))|refine bU ?_|((first|refine an (fun K hK => ?_)|refine aa (hv) ?_);and_intros;all_goals first|(refine hK _ ?_;clear hK K)|try exact ai))
  refine hK _ bG ?_;clear hK;repeat' (first|refine ah ht ?_|refine aC ?_)
  rw [ae];refine ak (i+1) ?_ (by omega) (by omega);refine au [(1,some 4)] ?_ ?_;and_intros;all_goals try exact aj
  refine .inr (mP (enc:=aS) (q:=q) fun j hj => ?_);rw [hq];have hivl:j=0∨j=1∨j=2∨j=3∨j=4:=by omega
  rcases hivl with rfl|rfl|rfl|rfl|rfl <;> exact PV.le_refl _
 ·have g1:decide ((i:Int)<n)=false:=decide_eq_false (by omega);obtain rfl:i=n:=by omega
  repeat' (first|with_reducible exact bq|refine ah g1 ?_|refine aC ?_)
def JE (m:Int) (k:Nat) (mk:Nat→Int):Nat→Int:=fun i=>if k=0 then m else mk i
theorem HM (n k : Nat) (f : Nat → Pixel) (mk : Nat → Int) (o m : Int) (hm : Full m) (hn : n ≤ 1000) (hk : k = 0 ∨ k = n) (hf : ∀ i, i < n → PixV (f i) m) (hmk : ∀ i, i < k → 0 ≤ mk i ∧ mk i ≤ m) (ho : 0 ≤ o) (hom : o ≤ m) :
  aA Sg 155 [.c (.p (sW n f)), .c (.p (OA k mk)),U o,U m] (fun r=>r = .tup [.c (.p (sW n fun i=>bF (bF (f i) (JE m k mk i) m) o m)),B true]):=by
 have ht:True:=trivial;have hr:∀ i,i<n→aA Sg 170 [ag (aS (f i)),U (JE m k mk i),U o,U m] (fun r=>r = .tup [ag (aS (bF (bF (f i) (JE m k mk i) m) o m)),B true]):=fun i hi=>by
  refine Mr (f i) _ o m hm (hf i hi) ?_ ?_ ho hom
  ·unfold JE;split
   ·rcases hm with rfl|rfl <;> decide
   ·exact (hmk i (by omega)).1
  ·unfold JE;split
   ·exact Int.le_refl _
   ·exact (hmk i (by omega)).2
 obtain ⟨q,hq⟩:∃ q:Nat→Pixel,q=fun i=>bF (bF (f i) (JE m k mk i) m) o m:=⟨_,rfl⟩
 have hr:∀ i,i<n→aA Sg 170 [ag (aS (f i)),U (JE m k mk i),U o,U m] (fun r=>r = .tup [ag (aS (q i)),B true]):=by rw [hq];exact hr
 rw [← hq];clear hq;by_cases h0:k=0
 ·subst h0;have g0:((n:Int) != n)=false:=by simp
  have hr:∀ i,i<n→aA Sg 170 [ag (aS (f i)),U m,U o,U m] (fun r=>r = .tup [ag (aS (q i)),B true]):=fun i hi=>by
   have:=hr i hi;unfold JE at this;rw [if_pos rfl] at this;exact this
  refine aD Tryz.func155 [.tmp 8, .tmp 9] ?_
  repeat' (first|refine aC ?_|(refine aK (fun hb => ?_) (fun hb => ?_) <;> try exact aE))
  refine aH (X:=Nat) (fun i=>aT [(0, .b (.c (.p (sW n f)))),(1, .b (.c (.p (OA 0 mk)))),(2, .b (U o)),(3, .b (U m)),(10, .b (.c (.own 1 i))),(26, .b (.c (.p (sW n f)))),(27, .b (I n)),(28, .b (I i))] [(1, .arr 37 5 i (oq aS q))] 2) (fun i=>i≤n) (fun i=>n - i) 0 ?_ ?_ ?_
  ·exact Nat.zero_le _
  ·refine au [(1,none)] ?_ ?_;and_intros;all_goals try exact aj
  intro i hi;rcases Nat.lt_or_ge i n with hk|hk
  ·have g1:decide ((i:Int)<n)=true:=decide_eq_true (by omega);have hv:=hr i hk;repeat' (first|refine ah g1 ?_|refine ax ?_|refine an (fun K hK => ?_)|refine aa (hv) ?_|(apply bn;(case hf=>rfl);(case hc=>exact bM);(all_goals first|(intro hb;(try simp only [gL] at hb))|skip))|exact aG|(refine aq hK ?_;try clear hK K))
   rw [ae];refine ak (i+1) ?_ (by omega) (by omega);refine au [(1,some 5)] ?_ ?_;and_intros;all_goals try exact aj
   refine .inr (mP (enc:=aS) (q:=q) fun j hj => ?_);have hivl:j=0∨j=1∨j=2∨j=3∨j=4:=by omega
   rcases hivl with rfl|rfl|rfl|rfl|rfl <;> exact PV.le_refl _
  ·have g1:decide ((i:Int)<n)=false:=decide_eq_false (by omega);obtain rfl:i=n:=by omega
   repeat' (first|with_reducible exact bq|refine ah g1 ?_|refine aC ?_)
 ·obtain rfl:k=n:=by omega
  have g0:((k:Int) != k)=false:=by simp
  have g2:decide ((k:Int)>0)=true:=decide_eq_true (by omega);have hr:∀ i,i<k→aA Sg 170 [ag (aS (f i)),U (mk i),U o,U m] (fun r=>r = .tup [ag (aS (q i)),B true]):=fun i hi=>by
   have:=hr i hi;unfold JE at this;rw [if_neg h0] at this;exact this
  refine aD Tryz.func155 [.tmp 8, .tmp 9] ?_;repeat' (first|refine ah g0 ?_|refine aC ?_)
  refine aH (X:=Nat) (fun i=>aT [(0, .b (.c (.p (sW k f)))),(1, .b (.c (.p (OA k mk)))),(2, .b (U o)),(3, .b (U m)),(10, .b (.c (.own 1 i))),(26, .b (.c (.p (sW k f)))),(27, .b (I k)),(28, .b (I i))] [(1, .arr 37 5 i (oq aS q))] 2) (fun i=>i≤k) (fun i=>k - i) 0 ?_ ?_ ?_
  ·exact Nat.zero_le _
  ·refine au [(1,none)] ?_ ?_;and_intros;all_goals try exact aj
  intro i hi;rcases Nat.lt_or_ge i k with hk|hk
  ·have g1:decide ((i:Int)<k)=true:=decide_eq_true (by omega);have hv:=hr i hk;repeat' (first|(apply gw;(case hc=>exact bM);(case ht=>(simp only [Int.toNat_natCast,Int.reduceBEq,Int.reduceBNe,Int.reduceLT,Int.reduceLE,decide_true,decide_false,ss,And.intro g1 g2];done)))|(apply oc;(case hc=>exact bM);(case ht=>(simp only [Int.toNat_natCast,Int.reduceBEq,Int.reduceBNe,Int.reduceLT,Int.reduceLE,decide_true,decide_false,ss,And.intro g1 g2];done)))|refine ax ?_|refine an (fun K hK => ?_)|refine aa (hv) ?_|(refine aq hK ?_;try clear hK K))
   rw [ae];refine ak (i+1) ?_ (by omega) (by omega);refine au [(1,some 5)] ?_ ?_;and_intros;all_goals try exact aj
   refine .inr (mP (enc:=aS) (q:=q) fun j hj => ?_);have hivl:j=0∨j=1∨j=2∨j=3∨j=4:=by omega
   rcases hivl with rfl|rfl|rfl|rfl|rfl <;> exact PV.le_refl _
  ·have g1:decide ((i:Int)<k)=false:=decide_eq_false (by omega);obtain rfl:i=k:=by omega
   repeat' (first|with_reducible exact bq|refine ah g1 ?_|refine aC ?_)
end
section
attribute [local go_sem] Int.toNat_natCast fX cO
theorem Gz {a b:Pixel} (h0:a.c0=b.c0) (h1:a.c1=b.c1) (h2:a.c2=b.c2) (h3:a.a=b.a) (h4:a.f=b.f):a=b:=by cases a;cases b;simp only at h0 h1 h2 h3 h4;simp only [h0,h1,h2,h3,h4]
theorem Od {a b:Acc} (h0:a.c0=b.c0) (h1:a.c1=b.c1) (h2:a.c2=b.c2) (h3:a.a=b.a) (h4:a.own=b.own) (h5:a.f=b.f):a=b:=by cases a;cases b;simp only at h0 h1 h2 h3 h4 h5;simp only [h0,h1,h2,h3,h4,h5]
theorem KW (ko : Bool) (op mode m : Int) (n : Nat) (f : Nat → Pixel) (x : Nat → Acc) (b : Nat → Pixel) (hm : Full m) (hn : n ≤ 1000) (ho : 1 ≤ op ∧ op ≤ 12) (hmo : 1 ≤ mode ∧ mode ≤ 12) (hf : ∀ k, k < n → PixV (f k) m) (hx : ∀ k, k < n → AccV (x k) (b k) m) (hk : ko = true → op = 4) :
  aA Sg 157 [B ko,I op,I mode,U m, .c (.p (sW n f)), .c (.p (Js n x)), .c (.p (sW n b))] (fun r=>r = .tup [.c (.p (Js n fun k=>cT ko op mode m (f k) (x k) (b k))),B true]):=by
 have ht:True:=trivial;have hr:∀ k,k<n→aA Sg 171 [B ko,I op,I mode,U m,ag (aS (f k)),ag (cO (x k)),ag (aS (b k))] (fun r=>r = .tup [ag (cO (cT ko op mode m (f k) (x k) (b k))),B true]):=fun k hkn=>Kr ko op mode m (f k) (x k) (b k) hm ho hmo (hf k hkn) (hx k hkn) hk;obtain ⟨q,hq⟩:∃ q:Nat→Acc,q=fun k=>cT ko op mode m (f k) (x k) (b k):=⟨_,rfl⟩
 have hr:∀ k,k<n→aA Sg 171 [B ko,I op,I mode,U m,ag (aS (f k)),ag (cO (x k)),ag (aS (b k))] (fun r=>r = .tup [ag (cO (q k)),B true]):=by rw [hq];exact hr
 rw [← hq];have hs:∀ k,f (k+1)=f k→x (k+1)=x k→b (k+1)=b k→q (k+1)=q k:=fun k h1 h2 h3=>by rw [hq];simp only [h1,h2,h3]
 clear hq;have g0:((n:Int) != n)=false:=by simp
 refine aD Tryz.func157 [.tmp 14, .tmp 15] ?_;repeat' (first|refine ah g0 ?_|refine aC ?_)
 refine aH (X:=Nat) (fun i=>aT [(0, .b (B ko)),(1, .b (I op)),(2, .b (I mode)),(3, .b (U m)),(4, .b (.c (.p (sW n f)))),(5, .b (.c (.p (Js n x)))),(6, .b (.c (.p (sW n b)))),(16, .b (.c (.own 1 i))),(33, .b (I n)),(34, .b (I i))] [(1, .arr 147 6 i (oq cO q))] 2) (fun i=>i≤n) (fun i=>n - i) 0 ?_ ?_ ?_
 ·exact Nat.zero_le _
 ·refine au [(1,none)] ?_ ?_;and_intros;all_goals try exact aj
 intro i hi;rcases Nat.lt_or_ge i n with hk|hk
 ·have g1:decide ((i:Int)<n)=true:=decide_eq_true (by omega);have hv:=hr i hk;cases i with
  | zero =>
   have g2:decide (((0:Nat):Int)>0)=false:=by decide
   repeat' (first|refine ah (And.intro g1 g2) ?_|(((with_reducible refine bT (id:=7) [] (by decide +kernel) (by decide +kernel) ?_ (fun K hK => ?_));exact dK);(try simp (maxSteps:=999999)(disch:=omega) only [go_sem]);and_intros;(all_goals first|(refine hK _ bG ?_;clear hK K)|exact ai|skip))|(((with_reducible refine bT (id:=9) [(90,3),(94,3),(98,3)] (by decide +kernel) (by decide +kernel) ?_ (fun K hK => ?_));exact dK);(try simp (maxSteps:=999999)(disch:=omega) only [go_sem]);and_intros;(all_goals first|(refine hK _ bG ?_;clear hK K)|exact ai|skip))|refine bU ?_|((first|refine an (fun K hK => ?_)|refine aa (hv) ?_);and_intros;all_goals first|(refine hK _ ?_;clear hK K)|try exact ai))
   refine hK _ bG ?_;clear hK;repeat' (first|refine ah ht ?_|refine aC ?_)
   rw [ae];refine ak 1 ?_ (by omega) (by omega);refine au [(1,some 4)] ?_ ?_;and_intros;all_goals try exact aj
   refine .inr (mP (enc:=cO) (q:=q) (i:=0) fun j hj => ?_);have hivl:j=0∨j=1∨j=2∨j=3∨j=4∨j=5:=by omega
   rcases hivl with rfl|rfl|rfl|rfl|rfl|rfl <;> exact PV.le_refl _
  | succ k =>
   have g2:decide (((k+1:Nat):Int)>0)=true:=decide_eq_true (by omega);repeat' (first|refine ah (And.intro g1 g2) ?_|(((with_reducible refine bT (id:=7) [] (by decide +kernel) (by decide +kernel) ?_ (fun K hK => ?_));exact dK);(try simp (maxSteps:=999999)(disch:=omega) only [go_sem]);and_intros;(all_goals first|(refine hK _ bG ?_;clear hK K)|exact ai|skip))|(((with_reducible refine bT (id:=9) [(90,3),(94,3),(98,3)] (by decide +kernel) (by decide +kernel) ?_ (fun K hK => ?_));exact dK);(try simp (maxSteps:=999999)(disch:=omega) only [go_sem]);and_intros;(all_goals first|(refine hK _ bG ?_;clear hK K)|exact ai|skip))|refine bU ?_|((first|refine an (fun K hK => ?_)|refine aa (hv) ?_);and_intros;all_goals first|(refine hK _ ?_;clear hK K)|try exact ai)|(refine aK (fun hb => ?_) (fun hb => ?_);all_goals try exact aE))
   ·rw [ae];refine ak (k+2) ?_ (by omega) (by omega);refine au [(1,some 3)] ?_ ?_;and_intros;all_goals try exact aj
    have e:q (k+1)=q k:=by
     refine hs k ?_ ?_ ?_
     ·exact Gz (by omega) (by omega) (by omega) (by omega) (by omega)
     ·exact Od (by omega) (by omega) (by omega) (by omega) (by omega) (by omega)
     ·exact Gz (by omega) (by omega) (by omega) (by omega) (by omega)
    refine .inr (mP (enc:=cO) (q:=q) fun j hj => ?_);rw [e];have hivl:j=0∨j=1∨j=2∨j=3∨j=4∨j=5:=by omega
    rcases hivl with rfl|rfl|rfl|rfl|rfl|rfl <;> exact PV.le_refl _
   ·refine hK _ bG ?_;clear hK;repeat' (first|refine ah ht ?_|refine aC ?_)
    rw [ae];refine ak (k+2) ?_ (by omega) (by omega);refine au [(1,some 4)] ?_ ?_;and_intros;all_goals try exact aj
    refine .inr (mP (enc:=cO) (q:=q) fun j hj => ?_);have hivl:j=0∨j=1∨j=2∨j=3∨j=4∨j=5:=by omega
    rcases hivl with rfl|rfl|rfl|rfl|rfl|rfl <;> exact PV.le_refl _
 ·have g1:decide ((i:Int)<n)=false:=decide_eq_false (by omega);obtain rfl:i=n:=by omega
  repeat' (first|with_reducible exact bq|refine ah g1 ?_|refine aC ?_)
end
end Go.Proofs.YtcbifofjjpfbcaaGreatDoor
