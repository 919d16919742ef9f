/- Part of the proof: H2, H3, H4. -/
import Derived.Test.YtdjmpacladhijaaGreatDoorM38
import Derived.Test.YtdjmpacladhijaaGreatDoorM51
set_option linter.unusedSimpArgs false
set_option linter.unusedVariables false
set_option maxHeartbeats 4000000
set_option maxRecDepth 16000
namespace Go.Proofs.YtdjmpacladhijaaGreatDoor
open Go Go.SL
open Go.RowKit (wrap64)
section
attribute [local go_sem] Int.toNat_natCast
theorem xj {α : Type} [Inhabited α] {enc : α → List PV} {xs : List α} {x : α} {s : Nat} {g : Nat → Nat → PV} (hg : ∀ j, j < s → PV.le (g 0 j) ((enc x).getD j .any)) :
  ∀ i,i<xs.length+1→∀ j,j<s→PV.le (dV xs.length (aQ enc xs) g i j) (aQ enc (xs ++ [x]) i j):=fun i hi j hj=>by
 unfold dV aQ;split
 ·rename_i h;have e:(xs ++ [x]).getD i default=xs.getD i default:=by rw [List.getD_eq_getElem?_getD,List.getD_eq_getElem?_getD,List.getElem?_append_left h]
  rw [e];exact PV.le_refl _
 ·rename_i h;obtain rfl:i=xs.length:=by omega
  rw [Nat.sub_self];have e:(xs ++ [x]).getD xs.length default=x:=by simp
  rw [e];exact hg j hj
theorem sI (i x:Int):aB Sg 25 [I i,I x] (fun r=>r = .b (ag (cC (VI i x)))):=by
 have ht:True:=trivial;refine az Tryz.func25 [.cell 4 33] ?_;repeat' (first|with_reducible exact cz|refine aj ht ?_|refine bL ?_|((first|refine an (fun K hK => ?_)|refine pj ?_);and_intros;all_goals first|(refine hK _ ?_;clear hK K)|try exact ai)|((first|apply dC|apply dE);(case hf=>rfl);(case hc=>exact du);(all_goals first|(intro hb;(try simp only [nR] at hb))|skip))|exact bd|(refine aH (fun hb => ?_) (fun hb => ?_);all_goals try exact ax)|refine eo (fun KB hB => ?_)|(refine hB _ ?_;clear hB KB)|refine gM (S:=Sg) (by assumption) ?_|(refine bF ?_;(try clear hB KB);(try clear hK K)))
 rfl
def ZO (a b c:Int):List PV:=[PU a,PU b,PU c]
attribute [local go_sem] ZO
def trL (a0 a1 a2 c0 c1 c2:Int):List Image:=[dK c0 a0,dK c1 a1,dK c2 a2]
theorem Hv (x a0 a1 a2 c0 c1 c2:Int) (hx:0≤x∧x<1000):aB Sg 24 [I x,ag (ZO a0 a1 a2),ag (ZO c0 c1 c2)] (fun r=>r = .b (ag (ay (nv x (trL a0 a1 a2 c0 c1 c2) [])))):=by
 have ht:True:=trivial;have s0:=iq 1 1 ⟨c0,0,0,a0,a0⟩;have s1:=iq 1 1 ⟨c1,0,0,a1,a1⟩;have s2:=iq 1 1 ⟨c2,0,0,a2,a2⟩;have hw:IntKind.i64.wrap (x+1)=x+1:=eK (by omega) (by omega);refine bo ?_;refine az Tryz.func24 [.cell 6 39] ?_;repeat' (first|with_reducible exact cz|refine bL ?_|((with_reducible refine aX (id:=1) (fun K hW => ?_));(try simp (maxSteps:=999999)(disch:=omega) only [go_sem]);and_intros;all_goals first|(refine hK _ ?_;clear hK K)|try exact ai)|((first|refine an (fun K hK => ?_)|refine pj ?_);and_intros;all_goals first|(refine hK _ ?_;clear hK K)|try exact ai)|((first|apply dC|apply dE);(case hf=>rfl);(case hc=>exact du);(all_goals first|(intro hb;(try simp only [nR] at hb))|skip))|exact bd|(refine aH (fun hb => ?_) (fun hb => ?_);all_goals try exact ax)|refine eo (fun KB hB => ?_)|(refine hB _ ?_;clear hB KB)|refine gM (S:=Sg) (by assumption) ?_|(refine bF ?_;(try clear hB KB);(try clear hK K)))
 refine hW _ (aP [(0, .b (I x)),(4, .b (.c (.ptr 0 0))),(5, .b (.c (.ptr 1 0))),(6, .b (.c (.ptr 2 0))),(7, .b (.c (.ptr 3 0)))]
  [(0, .fix ((ZO a0 a1 a2).map CV.p)),(1, .fix ((ZO c0 c1 c2).map CV.p)),(2, .fix (List.replicate 10 (.p .any))),(3, .fix [.p (PI 8), .p (PI x), .p (PI 0), .p (PI (x+1)), .p (PI 1), .p (PI 1), .p (PI 1), .p Jl, .own 4 0, .p Jl]),(4, .arr 49 28 0 (aQ aF []))] 5) ?_ ?_
 ·clear hW;refine ar [(1,some 1),(2,some 2),(3,some 3),(4,none)] ?_ ?_;and_intros;all_goals try exact ak
 clear hW;refine gQ ?_;refine jM fun K hK => ?_;refine bV ?_;and_intros;all_goals first|(refine hK _ ?_;clear hK K)|exact ai|skip
 refine aK (X:=Nat) (fun i=>aP [(0, .b (I x)),(4, .b (.c (.ptr 0 0))),(5, .b (.c (.ptr 1 0))),(6, .b (.c (.ptr 2 0))),(7, .b (.c (.ptr 3 0))),(8, .b (I i))]
  [(0, .fix ((ZO a0 a1 a2).map CV.p)),(1, .fix ((ZO c0 c1 c2).map CV.p)),(2, .fix (List.replicate 10 (.p .any))),(3, .fix [.p (PI 8), .p (PI x), .p (PI 0), .p (PI (x+1)), .p (PI 1), .p (PI 1), .p (PI 1), .p Jl, .own 4 i, .p Jl]),(4, .arr 49 28 i (aQ aF ((trL a0 a1 a2 c0 c1 c2).take i)))] 5) (fun i=>i≤3) (fun i=>3 - i) 0 ?_ ?_ ?_
 ·exact Nat.zero_le _
 ·refine ar [(1,some 1),(2,some 2),(3,some 3),(4,some 4)] ?_ ?_;and_intros;all_goals try exact ak
 intro i hi;have hcase:i=0∨i=1∨i=2∨i=3:=by omega
 rcases hcase with rfl|rfl|rfl|rfl
 ·have g:decide (((0:Nat):Int)<3)=true:=rfl;repeat' (first|with_reducible exact cz|refine aj g ?_|((first|((with_reducible refine bT (id:=5) [(21,1),(25,1),(28,1)] (by decide +kernel) (by decide +kernel) ?_ (fun K hK => ?_));exact bZ)|((with_reducible refine gx (id:=5) [(21,1),(25,1),(28,1)] (by decide +kernel) (by decide +kernel) ?_ (fun K hK => ?_));exact bZ));(try simp (maxSteps:=999999)(disch:=omega) only [go_sem]);and_intros;(all_goals first|(refine hK _ ba ?_;clear hK K)|exact ai|skip))|refine bL ?_|((first|refine an (fun K hK => ?_)|refine pj ?_|refine aa (s0) ?_|refine aA (fun hg=>s0) ?_);and_intros;all_goals first|(refine hK _ ?_;clear hK K)|try exact ai)|((first|apply dC|apply dE);(case hf=>rfl);(case hc=>exact du);(all_goals first|(intro hb;(try simp only [nR] at hb))|skip))|exact bd|(refine aH (fun hb => ?_) (fun hb => ?_);all_goals try exact ax)|refine eo (fun KB hB => ?_)|(refine hB _ ?_;clear hB KB)|refine gM (S:=Sg) (by assumption) ?_|(refine bF ?_;(try clear hB KB);(try clear hK K)))
  refine hK _ ba ?_;clear hK;repeat' (first|with_reducible exact cz|refine aj g ?_|refine bL ?_|((first|refine an (fun K hK => ?_)|refine pj ?_);and_intros;all_goals first|(refine hK _ ?_;clear hK K)|try exact ai)|((first|apply dC|apply dE);(case hf=>rfl);(case hc=>exact du);(all_goals first|(intro hb;(try simp only [nR] at hb))|skip))|exact bd|(refine aH (fun hb => ?_) (fun hb => ?_);all_goals try exact ax)|refine eo (fun KB hB => ?_)|(refine hB _ ?_;clear hB KB)|refine gM (S:=Sg) (by assumption) ?_|(refine bF ?_;(try clear hB KB);(try clear hK K)))
  rw [ae];refine ao 1 ?_ (by omega) (by omega);refine ar [(1,some 1),(2,some 2),(3,some 3),(4,some 6)] ?_ ?_;and_intros;all_goals try exact ak
  refine .inr (xj (enc:=aF) (xs:=[]) (x:=dK c0 a0) (s:=28) (fun j hj => ?_));have hivl:j=0∨j=1∨j=2∨j=3∨j=4∨j=5∨j=6∨j=7∨j=8∨j=9∨j=10∨j=11∨j=12∨j=13∨j=14∨j=15∨j=16∨j=17∨j=18∨j=19∨j=20∨j=21∨j=22∨j=23∨j=24∨j=25∨j=26∨j=27:=by omega
  rcases hivl with rfl|rfl|rfl|rfl|rfl|rfl|rfl|rfl|rfl|rfl|rfl|rfl|rfl|rfl|rfl|rfl|rfl|rfl|rfl|rfl|rfl|rfl|rfl|rfl|rfl|rfl|rfl|rfl <;> first|exact PV.le_refl _|exact bP
 ·have g:decide (((1:Nat):Int)<3)=true:=rfl;repeat' (first|with_reducible exact cz|refine aj g ?_|((first|((with_reducible refine bT (id:=5) [(21,1),(25,1),(28,1)] (by decide +kernel) (by decide +kernel) ?_ (fun K hK => ?_));exact bZ)|((with_reducible refine gx (id:=5) [(21,1),(25,1),(28,1)] (by decide +kernel) (by decide +kernel) ?_ (fun K hK => ?_));exact bZ));(try simp (maxSteps:=999999)(disch:=omega) only [go_sem]);and_intros;(all_goals first|(refine hK _ ba ?_;clear hK K)|exact ai|skip))|refine bL ?_|((first|refine an (fun K hK => ?_)|refine pj ?_|refine aa (s1) ?_|refine aA (fun hg=>s1) ?_);and_intros;all_goals first|(refine hK _ ?_;clear hK K)|try exact ai)|((first|apply dC|apply dE);(case hf=>rfl);(case hc=>exact du);(all_goals first|(intro hb;(try simp only [nR] at hb))|skip))|exact bd|(refine aH (fun hb => ?_) (fun hb => ?_);all_goals try exact ax)|refine eo (fun KB hB => ?_)|(refine hB _ ?_;clear hB KB)|refine gM (S:=Sg) (by assumption) ?_|(refine bF ?_;(try clear hB KB);(try clear hK K)))
  refine hK _ ba ?_;clear hK;repeat' (first|with_reducible exact cz|refine aj g ?_|refine bL ?_|((first|refine an (fun K hK => ?_)|refine pj ?_);and_intros;all_goals first|(refine hK _ ?_;clear hK K)|try exact ai)|((first|apply dC|apply dE);(case hf=>rfl);(case hc=>exact du);(all_goals first|(intro hb;(try simp only [nR] at hb))|skip))|exact bd|(refine aH (fun hb => ?_) (fun hb => ?_);all_goals try exact ax)|refine eo (fun KB hB => ?_)|(refine hB _ ?_;clear hB KB)|refine gM (S:=Sg) (by assumption) ?_|(refine bF ?_;(try clear hB KB);(try clear hK K)))
  rw [ae];refine ao 2 ?_ (by omega) (by omega);refine ar [(1,some 1),(2,some 2),(3,some 3),(4,some 6)] ?_ ?_;and_intros;all_goals try exact ak
  refine .inr (xj (enc:=aF) (xs:=[dK c0 a0]) (x:=dK c1 a1) (s:=28) (fun j hj => ?_));have hivl:j=0∨j=1∨j=2∨j=3∨j=4∨j=5∨j=6∨j=7∨j=8∨j=9∨j=10∨j=11∨j=12∨j=13∨j=14∨j=15∨j=16∨j=17∨j=18∨j=19∨j=20∨j=21∨j=22∨j=23∨j=24∨j=25∨j=26∨j=27:=by omega
  rcases hivl with rfl|rfl|rfl|rfl|rfl|rfl|rfl|rfl|rfl|rfl|rfl|rfl|rfl|rfl|rfl|rfl|rfl|rfl|rfl|rfl|rfl|rfl|rfl|rfl|rfl|rfl|rfl|rfl <;> first|exact PV.le_refl _|exact bP
 ·have g:decide (((2:Nat):Int)<3)=true:=rfl;repeat' (first|with_reducible exact cz|refine aj g ?_|((first|((with_reducible refine bT (id:=5) [(21,1),(25,1),(28,1)] (by decide +kernel) (by decide +kernel) ?_ (fun K hK => ?_));exact bZ)|((with_reducible refine gx (id:=5) [(21,1),(25,1),(28,1)] (by decide +kernel) (by decide +kernel) ?_ (fun K hK => ?_));exact bZ));(try simp (maxSteps:=999999)(disch:=omega) only [go_sem]);and_intros;(all_goals first|(refine hK _ ba ?_;clear hK K)|exact ai|skip))|refine bL ?_|((first|refine an (fun K hK => ?_)|refine pj ?_|refine aa (s2) ?_|refine aA (fun hg=>s2) ?_);and_intros;all_goals first|(refine hK _ ?_;clear hK K)|try exact ai)|((first|apply dC|apply dE);(case hf=>rfl);(case hc=>exact du);(all_goals first|(intro hb;(try simp only [nR] at hb))|skip))|exact bd|(refine aH (fun hb => ?_) (fun hb => ?_);all_goals try exact ax)|refine eo (fun KB hB => ?_)|(refine hB _ ?_;clear hB KB)|refine gM (S:=Sg) (by assumption) ?_|(refine bF ?_;(try clear hB KB);(try clear hK K)))
  refine hK _ ba ?_;clear hK;repeat' (first|with_reducible exact cz|refine aj g ?_|refine bL ?_|((first|refine an (fun K hK => ?_)|refine pj ?_);and_intros;all_goals first|(refine hK _ ?_;clear hK K)|try exact ai)|((first|apply dC|apply dE);(case hf=>rfl);(case hc=>exact du);(all_goals first|(intro hb;(try simp only [nR] at hb))|skip))|exact bd|(refine aH (fun hb => ?_) (fun hb => ?_);all_goals try exact ax)|refine eo (fun KB hB => ?_)|(refine hB _ ?_;clear hB KB)|refine gM (S:=Sg) (by assumption) ?_|(refine bF ?_;(try clear hB KB);(try clear hK K)))
  rw [ae];refine ao 3 ?_ (by omega) (by omega);refine ar [(1,some 1),(2,some 2),(3,some 3),(4,some 6)] ?_ ?_;and_intros;all_goals try exact ak
  refine .inr (xj (enc:=aF) (xs:=[dK c0 a0,dK c1 a1]) (x:=dK c2 a2) (s:=28) (fun j hj => ?_));have hivl:j=0∨j=1∨j=2∨j=3∨j=4∨j=5∨j=6∨j=7∨j=8∨j=9∨j=10∨j=11∨j=12∨j=13∨j=14∨j=15∨j=16∨j=17∨j=18∨j=19∨j=20∨j=21∨j=22∨j=23∨j=24∨j=25∨j=26∨j=27:=by omega
  rcases hivl with rfl|rfl|rfl|rfl|rfl|rfl|rfl|rfl|rfl|rfl|rfl|rfl|rfl|rfl|rfl|rfl|rfl|rfl|rfl|rfl|rfl|rfl|rfl|rfl|rfl|rfl|rfl|rfl <;> first|exact PV.le_refl _|exact bP
 ·have g:decide (((3:Nat):Int)<3)=false:=rfl;repeat' (first|with_reducible exact cz|refine aj g ?_|refine bL ?_|((first|refine an (fun K hK => ?_)|refine pj ?_);and_intros;all_goals first|(refine hK _ ?_;clear hK K)|try exact ai)|((first|apply dC|apply dE);(case hf=>rfl);(case hc=>exact du);(all_goals first|(intro hb;(try simp only [nR] at hb))|skip))|exact bd|(refine aH (fun hb => ?_) (fun hb => ?_);all_goals try exact ax)|refine eo (fun KB hB => ?_)|(refine hB _ ?_;clear hB KB)|refine gM (S:=Sg) (by assumption) ?_|(refine bF ?_;(try clear hB KB);(try clear hK K)))
  refine fR (dG ?_);simp only [List.map_cons,List.map_nil,bM,cA];and_intros;all_goals first|exact .inl rfl|exact .inl trivial|exact .inr bP|trivial|skip
end
theorem Pe {m:Image} {mx:Int} (h:ImgV m mx) {p:Pixel} (hp:0≤p.c0∧0≤p.c1∧0≤p.c2) (w:Int):GC { m with color:=p,w:=w } mx∧Po { m with color:=p,w:=w }:=by
 refine ⟨?_,hp⟩;by_cases hs:m.solid=true
 ·exact .inr (.inr hs)
 ·by_cases hf:aV { m with color:=p,w:=w }=true
  ·refine .inl ?_;have hf0:=h.f;have e1:p=bG∧m.color=bG∧m.p0.w=w∧m.p0.w=m.w:=by
    unfold aV aW at hf hf0;simp only [hs,Bool.and_eq_true,Bool.or_eq_true,decide_eq_true_eq] at hf hf0;grind
   obtain ⟨e1,e2,e3,e4⟩:=e1;have e:({ m with color:=p,w:=w }:Image)=m:=by
    cases m;grind
   rw [e];exact h
  ·exact .inr (.inl (by simpa using hf))
def kg (s:Script) (k:Nat) (p:Pixel) (w:Int):Script := { s with images:=s.images.set k { cH s k with color:=p,w:=w } }
theorem CN {s:Script} (V:VOps s) (k:Nat) (p:Pixel) (w:Int):VOps (kg s k p w):=by
 have hl:(kg s k p w).images.length=s.images.length:=List.length_set;refine ⟨V.wf,fun i hi => ?_,by rw [hl];exact V.imgs,V.cnt,tY V.frame rfl rfl rfl rfl rfl hl V.cnt⟩;have:=V.ok i hi;rw [hl];exact this
theorem Ve {s:Script} {k:Nat} {p:Pixel} {w:Int} {m:Image} (h:m ∈ (kg s k p w).images):m ∈ s.images∨(k<s.images.length∧m = { cH s k with color:=p,w:=w }):=by
 have h:m ∈ s.images.set k { cH s k with color:=p,w:=w }:=h;by_cases hk:k<s.images.length
 ·rcases List.mem_or_eq_of_mem_set h with h|h
  ·exact .inl h
  ·exact .inr ⟨hk,h⟩
 ·rw [List.set_eq_of_length_le (by omega)] at h;exact .inl h
theorem Nh {s:Script} (E:EvOk s) (V:VOps s) (I:sj s) {k:Nat} {p:Pixel} {w:Int} (hp:0≤p.c0∧0≤p.c1∧0≤p.c2) {t:Script} (ht:t=cl (kg s k p w) t.ops) (Vt:VOps t) (ho:∀ o ∈ t.ops,0≤o.opacity):EvOk t:=by
 have hl:(kg s k p w).images.length=s.images.length:=List.length_set;have e1:t.images=(kg s k p w).images:=by rw [ht];rfl
 have e2:t.bits=s.bits:=by rw [ht];rfl
 have e3:t.order=s.order:=by rw [ht];rfl
 refine ⟨⟨by rw [e3];exact E.len.order,by rw [e1,hl];exact E.len.images,Nat.le_trans Vt.cnt (by decide)⟩,ho,fun _ m hm => ?_⟩;rw [e1] at hm;rw [e2];rcases Ve hm with hm|⟨hk,rfl⟩
 ·exact E.im V.frame m hm
 ·have hv:=I k (by omega) (by omega);exact Pe hv hp w
theorem GD {s:Script} (hs:ScriptLen s) (k:Nat) (p:Pixel) (w:Int):ScriptLen (kg s k p w):=⟨hs.order,by show (s.images.set k _).length≤_;rw [List.length_set];exact hs.images,hs.ops⟩
theorem Ip {s:Script} (H:Sml s) (k:Nat) (p:Pixel) (w:Int):Sml (kg s k p w):=by
 have e : ∀ i, i < (kg s k p w).images.length → ((kg s k p w).images.getD i default).p0 = (s.images.getD i default).p0 ∧ ((kg s k p w).images.getD i default).p1 = (s.images.getD i default).p1 ∧
   ((kg s k p w).images.getD i default).p2=(s.images.getD i default).p2∧((kg s k p w).images.getD i default).p3=(s.images.getD i default).p3∧((kg s k p w).images.getD i default).p4=(s.images.getD i default).p4:=fun i hi=>by
  have hi:i<s.images.length:=by simpa [kg] using hi
  by_cases hk:k<s.images.length
  ·show ((s.images.set k _).getD i default).p0=_∧((s.images.set k _).getD i default).p1=_∧((s.images.set k _).getD i default).p2=_∧((s.images.set k _).getD i default).p3=_∧((s.images.set k _).getD i default).p4=_;rw [zk hk];by_cases h:i=k
   ·rw [if_pos h,h];exact ⟨rfl,rfl,rfl,rfl,rfl⟩
   ·rw [if_neg h];exact ⟨rfl,rfl,rfl,rfl,rfl⟩
  ·have:(kg s k p w).images=s.images:=List.set_eq_of_length_le (by omega);rw [this];exact ⟨rfl,rfl,rfl,rfl,rfl⟩
 have hl:(kg s k p w).images.length=s.images.length:=List.length_set;refine ⟨H.order,by rw [hl];exact H.im0,by rw [hl];exact H.im,fun i hi => ?_,fun i hi => ?_,fun i hi => ?_,fun i hi => ?_,fun i hi => ?_⟩;all_goals
  obtain ⟨q0,q1,q2,q3,q4⟩:=e i hi;rw [hl] at hi
 ·rw [q0];exact H.p0 i hi
 ·rw [q1];exact H.p1 i hi
 ·rw [q2];exact H.p2 i hi
 ·rw [q3];exact H.p3 i hi
 ·rw [q4];exact H.p4 i hi
theorem UT {p:Pixel} (h:u16 p.c0∧u16 p.c1∧u16 p.c2∧u16 p.a∧u16 p.f):0≤p.c0∧0≤p.c1∧0≤p.c2:=⟨h.1.1,h.2.1.1,h.2.2.1.1⟩
theorem An {s t:Script} (V:VOps s) (W:VOps t) (a:t.bits=s.bits) (b:t.images=s.images):bz t=bz s:=by
 unfold bz;rw [V.frame,W.frame,a,b,Dr V,Dr W]
section
attribute [local go_sem] Int.toNat_natCast vI jZ HU yA
theorem Of.biasE (c:Scene) (l:List Int):Of c (dX (aI c) l):=Nr (a0y c) (gK c).2 l
end
end Go.Proofs.YtdjmpacladhijaaGreatDoor
