/- Part of the proof: R6, RQ, P5, P6. -/
import Derived.Test.YtcbifofjjpfbcaaGreatDoorM30
set_option linter.unusedSimpArgs false
set_option linter.unusedVariables false
set_option maxHeartbeats 4000000
set_option maxRecDepth 16000
namespace Go.Proofs.YtcbifofjjpfbcaaGreatDoor
open Go Go.SL
open Go.RowKit (wrap64)
def kC (s:Script) (m:Int) (e:PV) (c:CV):List CV:=[.p (PI s.bits), .p (PI s.canvas.x0), .p (PI s.canvas.y0), .p (PI s.canvas.x1), .p (PI s.canvas.y1), .p (PI s.tileW), .p (PI s.tileH), .p (eZ s.order), .p (vL s.images), .p (qB s.ops), .p (PU m), .p e,c]
theorem RA {n:Nat} {g g':Nat→PV} (h:∀ j,j<n→PV.le (g j) (g' j)):BV.le (.c (.ipt n g 0)) (.c (.ipt n g' 0)):=fun ρ ok w u ⟨b,o,h1,h2,h3⟩ =>
 ⟨b,o,h1,h2,fun j hj=>by
  obtain ⟨x,q1,q2,q3⟩:=h3 j hj
  exact ⟨x,q1,q2,h j hj _ _ _ q3⟩⟩
theorem Nl {bx:Nat→Option Bx} {b:Nat} {s:Script} {m:Int} {e:PV} {c:CV} (hb:bx b=some (.fix (kC s m e c))):BV.le (dp bx (.c (.ptr b 0))) (UB s m e .any):=by
 have h:dp bx (.c (.ptr b 0)) = .c (.ipt 13 (fun j=>(eR bx ((kC s m e c).getD (0+j) .any)).toP) 0):=by
  simp only [dp,iX,hb]
  rw [if_pos (Nat.zero_le _)]
  rfl
 rw [h]
 refine RA fun j hj => ?_
 have hivl:j=0∨j=1∨j=2∨j=3∨j=4∨j=5∨j=6∨j=7∨j=8∨j=9∨j=10∨j=11∨j=12:=by omega
 rcases hivl with rfl|rfl|rfl|rfl|rfl|rfl|rfl|rfl|rfl|rfl|rfl|rfl|rfl <;> first|exact PV.le_refl _|exact fun _ _ _ _=>trivial
theorem No {S : Env} {f : FuncId} {args args' : List BV} {e sz n : Nat} {g : Nat → Nat → PV} (h : kr S f args' e sz n g) (bx : Nat → Option Bx) (nx : Nat) (ha : fZ (args.map (dp bx)) args') (hl : ∀ x ∈ args', BV.lt 0 x) :
  nY S bx nx f args (.b (.c (.p (.lst sz n g)))) bx nx:=by
 refine ⟨h.1,fun E st ρ a w vs hbx hnx G hsz hden => ?_⟩
 subst hbx
 subst hnx
 obtain ⟨q1,q2⟩:=fp (ρ:=ρ) (ok:=(· < w.heap.size)) (w:=w) ha
 have hq:=q2 (u:=fun j=>vs.getD j undef) (fun j hj=>by
  have hj':j<args.length:=by simpa using hj
  have e:(args.map (dp st.bx)).getD j .any=dp st.bx (args.getD j .any):=by simp [List.getD_eq_getElem?_getD,hj']
  rw [e]
  exact lP G (hden j))
 have hgl:mz S (· < w.heap.size) w:=fun k n f hg=>by
  obtain ⟨h1,h2⟩:=G.glb k n f hg
  refine ⟨h1.1,fun j hj => ?_⟩
  obtain ⟨x,hx,hx1,hdx⟩:=h2 j hj
  exact ⟨x,hx,hx1,bt.mono (fun b hb=>⟨hb.1,fun _=>rfl⟩) hdx⟩
 refine (h.2 (· < w.heap.size) w vs (fun b hb=>hb) hgl (by rw [hsz,← q1];simp) (fun j => ?_)).mono fun ex w' ⟨v,xs,he,hB,h0,hown,hone,hd⟩ => ?_
 ·by_cases hj:j<args'.length
  ·refine eT (hl _ ?_) (hq j)
   rw [List.getD_eq_getElem?_getD,List.getElem?_eq_getElem hj];exact List.getElem_mem hj
  ·rw [List.getD_eq_getElem?_getD,List.getElem?_eq_none (by omega)];trivial
 ·refine ⟨v,ρ,he, ?_,trivial,G.grow hB⟩
  rcases hown.2 with ⟨e1,e2⟩|⟨b,cap,cur,hv,hge,hh,hnc,_,hcs,htk⟩
  ·rw [e1]
   exact ⟨none,0,by rw [e2],by omega,fun h=>by omega⟩
  ·rw [hv]
   have hsz2:=G.frm.size
   refine ⟨_,cap,rfl,hnc,fun _=>⟨b,0,rfl,⟨bN hh,fun q=>by omega,fun id hid hbk => ?_⟩,fun i hi j hj => ?_⟩⟩
   ·cases hq:st.bx id with
    | none=>exact hid hq
    | some y =>
     have:=(G.new id y b hq hbk).1
     omega
   have hlt:i * sz+j<n * sz:=dq hi hj
   have hlt2:i * sz+j<cur.size:=by rw [hcs];exact Nat.lt_of_lt_of_le hlt (Nat.mul_le_mul_right _ hnc)
   have hlx:i * sz+j<xs.length:=by rw [hown.1];exact hlt
   have hxe:xs.getD (i * sz+j) undef=cur.getD (i * sz+j) undef:=by
    rw [← htk];simp [List.getElem?_take,hlt]
   refine ⟨cur.getD (i * sz+j) undef,by rw [Nat.zero_add];exact bG hh hlt2, ?_, ?_⟩
   ·rw [← hxe,List.getD_eq_getElem?_getD,List.getElem?_eq_getElem hlx]
    exact hone _ (List.getElem_mem hlx)
   ·rw [← hxe]
    exact bt.mono (fun b hb=>hb.elim) (hd i hi j hj)
theorem EA {st : St} {f : FuncId} {rest : List BV} {K : SV → St → Prop} {E sz n b : Nat} {G : Nat → Nat → PV} {s : Script} {m : Int} {e : PV} {c : CV} {q : Prop} (h : kr Sg f (UB s m e .any :: rest) E sz n G) (hk : q)
  (hb:st.bx b=some (.fix (kC s m e c)):=by (first|(simp (maxSteps:=999999)(disch:=omega) only [go_sem];done)|(simp (maxSteps:=999999)(disch:=omega) only [go_sem];rfl)|rfl|fail)) (hr:Sg.rcv f=true:=by rfl) (hl:gO rest:=by simp (maxSteps:=999999)(disch:=omega) only [go_sem]) (ha:rest.map (dp st.bx)=rest:=by simp (maxSteps:=999999)(disch:=omega) only [go_sem])
  (hwf:∀ i,st.nx≤i→st.bx i=none:=by (first|(intro iw hiw;(try simp (maxSteps:=999999)(disch:=omega) only [go_sem] at hiw ⊢);(repeat (refine Eq.trans (if_neg ?_) ?_;(focus omega)));apply_assumption;omega)|fail))
  (w:q→K (.b (.c (.p (.lst sz n G)))) st:=by (first|(intro h;first|(simp (maxSteps:=999999)(disch:=omega) only [go_sem];exact h)|exact h)|fail)):eB Sg st f (.c (.ptr b 0) :: rest) (Sl.of K) :=
 .inl _ st.bx st.nx (No h st.bx st.nx (by rw [List.map_cons,ha];exact ⟨Nl hb,dB _⟩) (cG ⟨trivial,hl⟩)) hr hwf (w hk) (Nat.le_refl _)
def KT (w:Nat) (t:Fr):List PV:=eA t.op ++ [Hi w t.acc,ra w t.back]
def MJ (w:Nat) (f:Nat→PV) (t:Fr):Prop:=∀ j,j<14→f j=(KT w t).getD j .any
def kG (n w:Nat) (f:Nat→Nat→PV) (q:Nat→Acc):Nat→Nat→PV:=fun i j=>if i=n then (if j=12 then Hi w q else f n j) else f i j
attribute [local go_sem] kC cH cz Int.toNat_natCast bU
theorem Cn (bx : Nat → Option Bx) (nx b k n w N : Nat) (f : Nat → Nat → PV) (s : Script) (m : Int) (e : PV) (o : Op) (src : Nat → Pixel) (x y : Int) (t : Fr)
  (hb:bx b=some (.fix (kC s m e (.own k (n+1))))) (hk:bx k=some (.arr 170 14 N f)) (hbn:b<nx) (hkn:k<nx) (hbk:b≠k) (hn:n<N) (hN:N≤1000) (hw0:w≤1000) (hw1:0<w) (hf:MJ w (f n) t)
  (hm:Full m) (ho:1≤o.operator∧o.operator≤12) (hmo:1≤o.mode∧o.mode≤12) (hop:0≤o.opacity∧o.opacity≤m) (hmk:0≤o.mask∧o.mask≤s.images.length) (hl:s.images.length≤1000)
  (hx : -1099511627776≤x - o.maskX∧x - o.maskX≤1099511627776) (hy : -1099511627776≤y - o.maskY∧y - o.maskY≤1099511627776)
  (hp:∀ j,j<w→PixV (src j) m) (hmv:∀ j,j<w→0≤gB s o x y j∧gB s o x y j≤m) (hv:∀ j,j<w→AccV (t.acc j) (t.back j) m) (hko:t.op.knockout=true→o.operator=4) :
  nY Sg bx nx 113 [.c (.ptr b 0),ag (eA o), .c (.p (ra w src)),I x,I y] (.tup [])
   (aN k (.arr 170 14 N (kG n w f fun j=>dI t.op.knockout o.operator o.mode m (aP m o (src j) (gB s o x y j)) (t.acc j) (t.back j))) bx) (nx+1):=by
 have ht:True:=trivial
 have hma:=IE s m e .any o w x y hmk hl hw0 hx hy
 have eb:bx=aN b (.fix (kC s m e (.own k (n+1)))) (aN k (.arr 170 14 N f) bx):=by rw [← cR hk];exact cR hb
 have hkk:∀ i,i<(if o.mask=0 then 0 else w)→0≤gB s o x y i∧gB s o x y i≤m:=fun i hi=>hmv i (by split at hi <;> omega)
 have hsc:=Fo w (if o.mask=0 then 0 else w) src (gB s o x y) o.opacity m hm hw0 (by split <;> omega) hp hkk hop.1 hop.2
 have hfun:(fun i=>cc (cc (src i) (JG m (if o.mask=0 then 0 else w) (gB s o x y) i) m) o.opacity m)=fun i=>aP m o (src i) (gB s o x y i):=by
  funext i
  unfold aP JG
  by_cases h:o.mask=0
  ·simp only [if_pos h,if_true]
  ·simp only [if_neg h,if_neg (show ¬ w=0 by omega)]
 rw [hfun] at hsc
 have hst:=HR t.op.knockout o.operator o.mode m w (fun i=>aP m o (src i) (gB s o x y i)) t.acc t.back hm hw0 ho hmo (fun i hi=>mN hm (hp i hi) (hmv i hi).1 (hmv i hi).2 hop.1 hop.2) hv hko
 have hst:aF Sg 157 [.c (.p (f n 11)),I o.operator,I o.mode,U m, .c (.p (ra w fun i=>aP m o (src i) (gB s o x y i))), .c (.p (f n 12)), .c (.p (f n 13))] (fun r=>r = .tup [.c (.p (Hi w fun k=>dI t.op.knockout o.operator o.mode m (aP m o (src k) (gB s o x y k)) (t.acc k) (t.back k))),B true]):=by
  rw [hf 11 (by decide),hf 12 (by decide),hf 13 (by decide)]
  exact hst
 obtain ⟨q,hq⟩:∃ q:Nat→Acc,q=fun k=>dI t.op.knockout o.operator o.mode m (aP m o (src k) (gB s o x y k)) (t.acc k) (t.back k):=⟨_,rfl⟩
 rw [← hq] at hst ⊢
 clear hq hfun
 generalize (fun i=>aP m o (src i) (gB s o x y i))=sc at *
 refine tk Tryz.func113 rfl (rs:=[]) rfl rfl gp (by decide +kernel) (Nat.le_of_ble_eq_true rfl) ?_ (fun kf hkf hbl => ?_)
 ·intro v hv
  simp only [List.mem_cons,List.not_mem_nil,or_false] at hv
  rcases hv with rfl|rfl|rfl|rfl|rfl
  ·exact hbn
  ·exact fun c hc=>by (obtain ⟨x,_,rfl⟩:=List.mem_map.1 hc;trivial)
  ·trivial
  ·trivial
  ·trivial
 have hw:∀ i,nx≤i→bx i=none:=fun i hi=>by
  cases h:bx i with
  | none=>rfl
  | some y=>exact absurd (hbl i y h).1 (by omega)
 rw [eb]
 repeat' (first|with_reducible exact aK|refine ak ht ?_|refine an ?_|((first|refine aj (fun K hK => ?_)|refine aY ?_);and_intros;all_goals first|(refine hK _ ?_;clear hK K)|try exact aa)|((first|apply aC|apply ay);(case hf=>rfl);(case hc=>exact aS);(all_goals first|(intro hb;(try simp only [bZ] at hb))|skip))|exact ao|(refine aH (fun hb => ?_) (fun hb => ?_);all_goals try exact ax)|refine ar (fun KB hB => ?_)|(refine hB _ ?_;clear hB KB)|refine aA (S:=Sg) (by assumption) ?_|(refine ai ?_;(try clear hB KB);(try clear hK K)))
 refine mn (id:=1) (.br 0 (.br 1 (.br 2 (.br 3 (.br 4 (.br 5 (.br 6 (.br 8 (.br 10 (.br 11 (.br 12 (.br 7 (.br 9 (.br 13 (.br 14 (.br 15 (.br 16 (.br 17 (.br 18 .leaf .nil) .nil) .nil) .nil) .nil) .nil) .nil) (.br 9 (.br 7 (.br 13 (.br 14 (.br 15 (.br 16 (.br 17 (.br 18 .leaf .nil) .nil) .nil) .nil) .nil) .nil) (.br 13 (.br 7 (.br 14 (.br 15 (.br 16 (.br 17 (.br 18 .leaf .nil) .nil) .nil) .nil) .nil) .nil) .nil)) (.br 13 (.br 7 (.br 9 (.br 14 (.br 15 (.br 16 (.br 17 (.br 18 .leaf .nil) .nil) .nil) .nil) .nil) .nil) (.br 9 (.br 7 (.br 14 (.br 15 (.br 16 (.br 17 (.br 18 .leaf .nil) .nil) .nil) .nil) .nil) .nil) .nil)) .nil))) .nil) .nil) .nil) .nil) .nil) .nil) .nil) .nil) .nil) .nil) .nil) (by decide +kernel) ?_ (fun K0 hW => ?_)
 ·refine ⟨?_,Nat.zero_le _⟩
  intro iw hiw
  (try simp (maxSteps:=999999)(disch:=omega) only [go_sem] at hiw ⊢)
  (repeat (refine Eq.trans (if_neg ?_) ?_;(focus omega)))
  exact hw iw (by omega)
 replace hW:=lQ hW
 repeat' (first|exact cE|(refine dA (fun K' hK' => ?_) ?_)|(refine cj (hW _ ?_);clear hW)|((first|refine EA (hma) ?_|refine ae (hsc) ?_|refine aq (fun hg=>hsc) ?_);(try simp (maxSteps:=999999)(disch:=omega) only [go_sem]);and_intros;(all_goals first|(refine hK' _ ?_;clear hK' K')|trivial|omega|exact Nat.le_of_ble_eq_true rfl|exact aa|skip))|(simp (maxSteps:=999999)(disch:=omega) only [go_sem];and_intros;(all_goals first|(refine hK' _ ?_;clear hK' K')|trivial|omega|exact Nat.le_of_ble_eq_true rfl|exact aa|skip)))
 all_goals
  refine ji ?_
  repeat' (first|with_reducible exact aK|refine ak ht ?_|((first|((with_reducible refine bC (id:=2) [] (by decide +kernel) (by decide +kernel) ?_ (fun K hK => ?_));(first|(refine And.intro (fun iw hiw => ?_) ?_;(focus ((try simp (maxSteps:=999999)(disch:=omega) only [go_sem] at hiw ⊢);(repeat (refine Eq.trans (if_neg ?_) ?_;(focus omega)));(first|exact hw iw (by omega)|rfl)));(focus (first|exact Nat.zero_le _|(simp (maxSteps:=999999)(disch:=omega) only [go_sem];done)|(simp (maxSteps:=999999)(disch:=omega) only [go_sem];omega))))|exact cS))|((with_reducible refine ch (id:=2) [] (by decide +kernel) (by decide +kernel) ?_ (fun K hK => ?_));(first|(refine And.intro (fun iw hiw => ?_) ?_;(focus ((try simp (maxSteps:=999999)(disch:=omega) only [go_sem] at hiw ⊢);(repeat (refine Eq.trans (if_neg ?_) ?_;(focus omega)));(first|exact hw iw (by omega)|rfl)));(focus (first|exact Nat.zero_le _|(simp (maxSteps:=999999)(disch:=omega) only [go_sem];done)|(simp (maxSteps:=999999)(disch:=omega) only [go_sem];omega))))|exact cS)));(try simp (maxSteps:=999999)(disch:=omega) only [go_sem]);and_intros;(all_goals first|(refine hK _ (by simp (maxSteps:=999999)(disch:=omega) only [go_sem]) ?_;clear hK K)|exact aa|skip))|((first|((with_reducible refine bC (id:=3) [(68,2)] (by decide +kernel) (by decide +kernel) ?_ (fun K hK => ?_));(first|(refine And.intro (fun iw hiw => ?_) ?_;(focus ((try simp (maxSteps:=999999)(disch:=omega) only [go_sem] at hiw ⊢);(repeat (refine Eq.trans (if_neg ?_) ?_;(focus omega)));(first|exact hw iw (by omega)|rfl)));(focus (first|exact Nat.zero_le _|(simp (maxSteps:=999999)(disch:=omega) only [go_sem];done)|(simp (maxSteps:=999999)(disch:=omega) only [go_sem];omega))))|exact cS))|((with_reducible refine ch (id:=3) [(68,2)] (by decide +kernel) (by decide +kernel) ?_ (fun K hK => ?_));(first|(refine And.intro (fun iw hiw => ?_) ?_;(focus ((try simp (maxSteps:=999999)(disch:=omega) only [go_sem] at hiw ⊢);(repeat (refine Eq.trans (if_neg ?_) ?_;(focus omega)));(first|exact hw iw (by omega)|rfl)));(focus (first|exact Nat.zero_le _|(simp (maxSteps:=999999)(disch:=omega) only [go_sem];done)|(simp (maxSteps:=999999)(disch:=omega) only [go_sem];omega))))|exact cS)));(try simp (maxSteps:=999999)(disch:=omega) only [go_sem]);and_intros;(all_goals first|(refine hK _ (by simp (maxSteps:=999999)(disch:=omega) only [go_sem]) ?_;clear hK K)|exact aa|skip))|refine an ?_|((first|refine aj (fun K hK => ?_)|refine aY ?_|refine ae (hst) ?_|refine aq (fun hg=>hst) ?_);and_intros;all_goals first|(refine hK _ ?_;clear hK K)|try exact aa)|((first|apply aC|apply ay);(case hf=>rfl);(case hc=>exact aS);(all_goals first|(intro hb;(try simp only [bZ] at hb))|skip))|exact ao|(refine aH (fun hb => ?_) (fun hb => ?_);all_goals try exact ax)|refine ar (fun KB hB => ?_)|(refine hB _ ?_;clear hB KB)|refine aA (S:=Sg) (by assumption) ?_|(refine ai ?_;(try clear hB KB);(try clear hK K)))
  refine hK _ (by simp (maxSteps:=999999)(disch:=omega) only [go_sem]) ?_
  clear hK
  repeat' (first|with_reducible exact aK|refine ak ht ?_|refine an ?_|((first|refine aj (fun K hK => ?_)|refine aY ?_);and_intros;all_goals first|(refine hK _ ?_;clear hK K)|try exact aa)|((first|apply aC|apply ay);(case hf=>rfl);(case hc=>exact aS);(all_goals first|(intro hb;(try simp only [bZ] at hb))|skip))|exact ao|(refine aH (fun hb => ?_) (fun hb => ?_);all_goals try exact ax)|refine ar (fun KB hB => ?_)|(refine hB _ ?_;clear hB KB)|refine aA (S:=Sg) (by assumption) ?_|(refine ai ?_;(try clear hB KB);(try clear hK K)))
  rw [qj]
  refine ⟨_,TR (m:=1) (G:=kG n w f q) ?_ hkf hkn hbl (fun i hi hiq => ?_) (by (first|(simp (maxSteps:=999999)(disch:=omega) only [go_sem];done)|(simp (maxSteps:=999999)(disch:=omega) only [go_sem];rfl))) (.inr fun a ha j hj => ?_),trivial,rfl,(fun i y h=>(congrArg (fun B=>aN k _ B i) eb).trans h),rfl,rfl,fun v hv=>by cases hv⟩
  ·rfl
  ·simp (maxSteps:=999999)(disch:=omega) only [go_sem]
   by_cases hib:i=b
   ·rw [if_pos hib,hib];exact hb.symm
   ·rw [if_neg hib]
  ·unfold kG
   by_cases e1:a=n
   ·simp only [if_pos e1]
    by_cases e2:j=12
    ·subst e2
     exact PV.le_refl _
    ·rw [if_neg (by omega),if_neg e2]
     exact PV.le_refl _
   ·simp only [if_neg e1]
    exact PV.le_refl _
end Go.Proofs.YtcbifofjjpfbcaaGreatDoor
set_option maxHeartbeats 1000000
namespace Go.Proofs.YtcbifofjjpfbcaaGreatDoor
theorem Ap {s:Script} {m:Int} (hm:Full m) (hmx:bA s.bits=m) (I:na s) (k:Nat) (x y:Int):PixV (cu (s.images.getD k default) x y) m:=by
 subst hmx
 rcases Nat.lt_or_ge k s.images.length with h|h
 ·have:=I k (by omega) (by omega)
  unfold gQ at this
  rw [Int.toNat_natCast] at this
  exact DL hm this
 ·rw [List.getD_eq_getElem?_getD,List.getElem?_eq_none h]
  have e:cu (default:Image) x y=ba:=by
   unfold cu
   rw [if_pos (.inl (by decide))]
  exact e ▸ ru hm
theorem NU {s:Script} {o:Op} {x y:Int} {j:Nat} (hk:o.kind=1) (hi:0≤o.image∧o.image<s.images.length):(zR s x y j o).1=cu (s.images.getD o.image.toNat default) (x - o.x+j) (y - o.y):=by
 unfold zR cD
 dsimp only
 rw [if_pos ⟨hk,hi.1,hi.2⟩,yE,show x+(j:Int) - o.x=x - o.x+j by omega];rfl
theorem wI {s:Script} {m:Int} {o:Op} {p:Pixel} {x y:Int} {j:Nat} (hmk:0≤o.mask∧o.mask≤s.images.length):aP m o p (zR s x y j o).2=aP m o p (gB s o x y j):=by
 unfold aP
 by_cases h:o.mask=0
 ·rw [if_pos h,if_pos h]
 ·rw [if_neg h,if_neg h]
  have e:(zR s x y j o).2=gB s o x y j:=by
   unfold zR cD gB
   dsimp only
   rw [if_pos (by omega),yE,show x+(j:Int) - o.maskX=x - o.maskX+j by omega];rfl
  rw [e]
structure PaintOk (s:Script) (m:Int) (o:Op) (x y:Int) (w:Nat) (t:Fr):Prop where
 op:1≤o.operator∧o.operator≤12
 mode:1≤o.mode∧o.mode≤12
 opac:0≤o.opacity∧o.opacity≤m
 mask:0≤o.mask∧o.mask≤s.images.length
 ox : -1048576≤o.x∧o.x≤1048576
 oy : -1048576≤o.y∧o.y≤1048576
 mx : -1048576≤o.maskX∧o.maskX≤1048576
 my : -1048576≤o.maskY∧o.maskY≤1048576
 mv:∀ j,j<w→0≤gB s o x y j∧gB s o x y j≤m
 v:∀ j,j<w→AccV (t.acc j) (t.back j) m
 ko:t.op.knockout=true→o.operator=4
section
variable {s:Script} {m x y:Int} {n i:Nat} {q:RS}
theorem JK {o:Op} {j:Nat} (hm:Full m) (hmx:bA s.bits=m) (I:na s):0≤gB s o x y j∧gB s o x y j≤m:=by
 have:=Ap hm hmx I (o.mask - 1).toNat (x - o.maskX+j) (y - o.maskY)
 exact ⟨this.a0,this.am⟩
theorem MW (hn : 0 < n) (C : ∀ j : Nat, j < n → Pt s m (x + j) y) (hi : i < s.ops.length) (hk : (aB s.ops i).kind = 1) {t : Fr} {r : List Fr} {jk : List Fr} (h : rm s m x y n ⟨t :: r, jk⟩ i) :
  PaintOk s m (aB s.ops i) x y n t∧0≤(aB s.ops i).image∧(aB s.ops i).image<s.images.length:=by
 have C0:=C 0 hn
 obtain ⟨_,_,_,q4⟩:=dr.1 (C0.V.ok i hi)
 obtain ⟨_,_,_,q5,q6,_⟩:=q4 (by omega)
 simp only [jj,decide_eq_true_eq] at q5 q6
 obtain ⟨b0,b1,b2,b3,b4,b5,b6⟩:=oG C0 hi (by omega)
 have ha:∀ j,j<n→At s m i (t.col j :: r.map fun u=>u.col j):=fun j hj=>Cd C (by omega) h hj
 have hf:=(ha 0 hn).fit C0 hi (by omega)
 exact ⟨⟨q5,q6,⟨hf.op0,hf.opm⟩,⟨b1,b2⟩,b3,b4,b5,b6,fun j _=>JK C0.hm C0.mx C0.im,fun j hj=>(ha j hj).v.head.v,fun h=>hf.ctx.elim id fun q=>by
  have q2:t.op.knockout=false:=q.2
  rw [h] at q2;cases q2⟩,b0 hk⟩
theorem QC (hn : 0 < n) (C : ∀ j : Nat, j < n → Pt s m (x + j) y) (hi : i < s.ops.length) (hk : (aB s.ops i).kind = 3) {st jk : List Fr} (h : rm s m x y n ⟨st, jk⟩ i) :
  ∃ t u r,st=t :: u :: r∧PaintOk s m t.op x y n u∧(∀ j,j<n→AccV (t.acc j) (t.back j) m)∧∀ j,j<n→PixV (bB (t.acc j) (t.back j) m) m:=by
 have C0:=C 0 hn
 have W:=C0.V.wf
 obtain ⟨hl,ho⟩:=sR hn C (by omega) h
 obtain ⟨g,sk,hsk⟩:∃ g sk,bI s.ops i=g :: sk:=by
  cases hq:bI s.ops i with
  | nil=>exact absurd hq (W.pops i hi hk)
  | cons g sk=>exact ⟨g,sk,rfl⟩
 rw [hsk] at hl ho
 match st,hl with
 | t :: u :: r,_ =>
  have hg:t.op=aB s.ops g:=(List.cons.inj ho).1
  have hgl:g<i:=dR (ops:=s.ops) (by rw [hsk];exact List.mem_cons_self ..)
  have hgk:(aB s.ops g).kind=2:=fO (i:=i) (by rw [hsk];exact List.mem_cons_self ..)
  obtain ⟨b0,b1,b2,b3,b4,b5,b6⟩:=oG C0 (show g<s.ops.length by omega) (by omega)
  obtain ⟨_,_,_,q4⟩:=dr.1 (C0.V.ok g (by omega))
  obtain ⟨_,_,_,q5,q6,_⟩:=q4 (by omega)
  rw [← hg] at b1 b2 b3 b4 b5 b6 q5 q6
  simp only [jj,decide_eq_true_eq] at q5 q6
  have ha:∀ j,j<n→At s m i (t.col j :: u.col j :: r.map fun u=>u.col j):=fun j hj=>Cd C (by omega) h hj
  obtain ⟨_,vf,_⟩:=(ha 0 hn).v
  refine ⟨t,u,r,rfl,⟨q5,q6,⟨vf.op0,vf.opm⟩,⟨b1,b2⟩,b3,b4,b5,b6,fun j _=>JK C0.hm C0.mx C0.im,fun j hj=>(ha j hj).v.2.2.head.v,fun h=>vf.ctx.elim id fun q => ?_⟩,fun j hj=>(ha j hj).v.head.v,fun j hj=>ql C0.hm (ha j hj).v.head.v⟩
  have q2:u.op.knockout=false:=q.2
  rw [h] at q2;cases q2
theorem Oq (hn:0<n) (C:∀ j:Nat,j<n→Pt s m (x+j) y) (hi:i<s.ops.length) (hk:(aB s.ops i).kind=2) {st jk:List Fr} (h:rm s m x y n ⟨st,jk⟩ i):∃ t r,st=t :: r∧r.length<64:=by
 have C0:=C 0 hn
 obtain ⟨hl,ho⟩:=sR hn C (by omega) h
 obtain ⟨_,_,_,q4⟩:=dr.1 (C0.V.ok i hi)
 obtain ⟨_,_,_,_,_,_,q7⟩:=q4 (by omega)
 have hd:=q7 hk
 rw [List.length_map,List.length_reverse] at hd
 match st,hl with
 | t :: r,hl=>exact ⟨t,r,rfl,by simp only [List.length_cons] at hl;omega⟩
theorem Og (hn:0<n) (C:∀ j:Nat,j<n→Pt s m (x+j) y) (hi:i≤s.ops.length) {st jk:List Fr} (h:rm s m x y n ⟨st,jk⟩ i):∃ t r,st=t :: r∧r.length≤64:=by
 obtain ⟨hl,ho⟩:=sR hn C hi h
 have:=Jj (C 0 hn).V hi
 match st,hl with
 | t :: r,hl=>exact ⟨t,r,rfl,by simp only [List.length_cons] at hl;omega⟩
end
def mo (w:Nat) (f:Nat→Nat→Go.SL.PV):List Fr→Prop
 | []=>True
 | t :: r=>(∀ j,j<14→f r.length j=((eA t.op ++ [Hi w t.acc,ra w t.back]:List Go.SL.PV)).getD j .any)∧mo w f r
theorem lJ {w:Nat} {f g:Nat→Nat→Go.SL.PV}:∀ {st:List Fr},(∀ i,i<st.length→∀ j,g i j=f i j)→mo w f st→mo w g st
 | [],_,_=>trivial
 | t :: r,h,⟨h1,h2⟩=>⟨fun j hj=>by rw [h r.length (by simp) j];exact h1 j hj,lJ (fun i hi j=>h i (by simp;omega) j) h2⟩
end Go.Proofs.YtcbifofjjpfbcaaGreatDoor
namespace Go.Proofs.YtcbifofjjpfbcaaGreatDoor
def Ci (m:Image) (mx:Int):Prop:=ImgV m mx∨bp m=false∨m.solid=true
def dJ (m:Image) (mx:Int):Int:=if cl m.w m.h=false then 6 else if bp m=false then 7 else if m.solid=true∧kv m.color mx=false then 8 else 0
theorem uf {m:Image} {mx:Int} (h:ImgV m mx):dJ m mx=0:=by
 have hf:=h.f
 have hff:=hf
 unfold bp at hff
 rw [Bool.and_eq_true] at hff
 unfold dJ
 rw [hff.1,hf,if_neg (by decide),if_neg (by decide),if_neg]
 rintro ⟨hs,hp⟩
 rw [jZ (qF h hs)] at hp
 cases hp
theorem FY {p:Pixel} {m:Int} (h:kv p m=true) (h0:0≤p.c0) (h1:0≤p.c1) (h2:0≤p.c2):PixV p m:=by
 unfold kv at h
 rw [decide_eq_true_eq] at h
 exact ⟨h0,h1,h2,h.1,h.2.1,h.2.2.1,h.2.2.2.1,h.2.2.2.2⟩
def Ix (m:Image):Prop:=0≤m.color.c0∧0≤m.color.c1∧0≤m.color.c2
theorem Bj {m:Image} {mx:Int} (h:Ci m mx) (hc:Ix m) (h0:dJ m mx=0):ImgV m mx:=by
 unfold dJ at h0
 split at h0
 ·cases h0
 split at h0
 ·cases h0
 split at h0
 ·cases h0
 rename_i q1 q2 q3
 rcases h with h|h|h
 ·exact h
 ·exact absurd h q2
 ·refine ⟨by simpa using q2,fun x y _ _ _ _ => ?_⟩
  rw [eF,if_pos h]
  refine FY ?_ hc.1 hc.2.1 hc.2.2
  cases hp:kv m.color mx with
  | true=>rfl
  | false=>exact absurd ⟨h,hp⟩ q3
def dW (mx:Int):Nat→List Image→Int × Int
 | _,[]=>(0,0)
 | i,m :: l=>if dJ m mx=0 then dW mx (i+1) l else (dJ m mx,i)
def bQ (s:Script):Int × Int:=if bD s≠0 then (bD s,0) else if (dW (bA s.bits) 0 s.images).1≠0 then dW (bA s.bits) 0 s.images else jh s
theorem rU {mx:Int}:∀ {l:List Image} {i:Nat},(∀ m ∈ l,dJ m mx=0)→dW mx i l=(0,0)
 | [],_,_=>rfl
 | m :: l,i,h=>by rw [dW,if_pos (h m (List.mem_cons_self ..)),rU fun k hk=>h k (List.mem_cons_of_mem _ hk)]
theorem rO {mx:Int}:∀ {l:List Image} {i:Nat},(dW mx i l).1=0→∀ m ∈ l,dJ m mx=0
 | [],_,_,_,hk=>by cases hk
 | m :: l,i,h,k,hk=>by
  rw [dW] at h
  split at h
  ·rename_i q
   rcases List.mem_cons.1 hk with e|e
   ·rw [e];exact q
   ·exact rO h k e
  ·rename_i q;exact absurd h q
theorem rv {mx:Int} {l:List Image} {i:Nat} (hi:i<l.length):dW mx i (l.drop i)=if dJ (l.getD i default) mx=0 then dW mx (i+1) (l.drop (i+1)) else (dJ (l.getD i default) mx,i):=by
 rw [List.drop_eq_getElem_cons hi,dW,List.getD_eq_getElem?_getD,List.getElem?_eq_getElem hi];rfl
theorem Pm {s:Script} (h:∀ i:Nat,i<s.images.length→ImgV (s.images.getD i default) (bA s.bits)):na s:=fun i h0 h1=>by
 obtain ⟨n,rfl⟩:=Int.eq_ofNat_of_zero_le h0
 unfold gQ
 rw [Int.toNat_natCast]
 exact h n (by omega)
theorem rQ {s:Script} (hT:∀ m ∈ s.images,Ci m (bA s.bits)∧Ix m) (h:(bQ s).1=0):bD s=0∧VOps s∧na s∧jh s=(0,0):=by
 unfold bQ at h
 split at h
 ·rename_i q;exact absurd h q
 split at h
 ·rename_i q;exact absurd h q
 rename_i q1 q2
 rw [Decidable.not_not] at q1 q2
 have V:=EB h
 refine ⟨q1,V,Pm fun i hi => ?_,DX V⟩
 have hm:s.images.getD i default ∈ s.images:=by
  rw [List.getD_eq_getElem?_getD,List.getElem?_eq_getElem hi]
  exact List.getElem_mem _
 exact Bj (hT _ hm).1 (hT _ hm).2 (rO q2 _ hm)
theorem lv {s:Script} (V:VOps s) (h:na s):bQ s=(0,0):=by
 have e:dW (bA s.bits) 0 s.images=(0,0):=rU fun m hm=>by
  obtain ⟨i,hi,rfl⟩:=List.mem_iff_getElem.1 hm
  have:=h i (by omega) (by omega)
  unfold gQ at this
  rw [Int.toNat_natCast,List.getD_eq_getElem?_getD,List.getElem?_eq_getElem hi] at this
  exact uf this
 unfold bQ
 rw [V.frame,if_neg (by decide),e,if_neg (by decide)]
 exact DX V
end Go.Proofs.YtcbifofjjpfbcaaGreatDoor
namespace Go.Proofs.YtcbifofjjpfbcaaGreatDoor
open Go Go.SL
open Go.RowKit (wrap64)
structure EvOk (s:Script):Prop where
 len:ScriptLen s
 op:∀ o ∈ s.ops,0≤o.opacity
 im:bD s=0→∀ m ∈ s.images,Ci m (bA s.bits)∧Ix m
def mc (s:Script) (x y:Int):Int:=if (bQ s).1≠0 then (bQ s).1 else if AZ s.canvas x y=false then 20 else 0
theorem oI {s:Script} (h:bD s=0):(s.bits=8∨s.bits=16)∧aU s.canvas=false:=by
 unfold bD at h
 split at h
 ·cases h
 split at h
 ·cases h
 rename_i h1 h2
 refine ⟨Decidable.not_not.1 h1, ?_⟩
 cases he:aU s.canvas with
 | false=>rfl
 | true=>exact absurd (.inl he) h2
theorem ij {s:Script} (h:bD s=0):Full (bA s.bits):=by
 obtain ⟨h1,_⟩:=oI h
 rcases h1 with h1|h1 <;> rw [h1]
 ·exact ⟨.inl rfl⟩
 ·exact ⟨.inr rfl⟩
theorem EvOk.pt {s:Script} (E:EvOk s) {x y:Int} (h:mc s x y=0):Pt s (bA s.bits) x y:=by
 unfold mc at h
 split at h
 ·rename_i q;exact absurd h q
 rename_i q
 rw [Decidable.not_not] at q
 split at h
 ·cases h
 rename_i hc
 have hf:bD s=0:=by
  refine Decidable.byContradiction fun hf => ?_
  unfold bQ at q
  rw [if_pos hf] at q
  exact hf q
 obtain ⟨_,V,I,_⟩:=rQ (E.im hf) q
 have hc:AZ s.canvas x y=true:=by simpa using hc
 exact ⟨V,ij hf,rfl,I,E.op,(oI hf).2,(Es.1 hc).2⟩
end Go.Proofs.YtcbifofjjpfbcaaGreatDoor
