/- Part of the proof: RA, RD. -/
import Derived.Test.YtdjmpacladhijaaGreatDoorM36
set_option linter.unusedSimpArgs false
set_option linter.unusedVariables false
set_option maxHeartbeats 8000000
set_option maxRecDepth 16000
namespace Go.Proofs.YtdjmpacladhijaaGreatDoor
open Go Go.SL
open Go.RowKit (wrap64)
section
attribute [local go_sem] Nat.add_zero nK Int.toNat_natCast dQ CG
theorem IM {s:Script} {m:Int} {r:Rect} {z:Nat→Op→Pixel × Int}:∀ i,1≤(jr s m r z i).st.length
 | 0=>Nat.le_refl _
 | i+1=>by
  have ih:=IM (s:=s) (m:=m) (r:=r) (z:=z) i;rw [jr];split
  ·generalize jr s m r z i=q at *
   obtain ⟨st,jk⟩:=q;cases st with
   | nil=>exact absurd ih (Nat.not_succ_le_zero 0)
   | cons t l =>
    simp only [qY];split
    ·simp only [List.length_cons];omega
    split
    ·simp only [List.length_cons];omega
    cases l with
    | nil=>exact Nat.le_refl _
    | cons u l=>simp only [List.length_cons];omega
  ·exact ih
theorem HC {s:Script} {m:Int} {r:Rect} {x y:Int}:1≤xi s m r x y:=Nat.le_trans (IM _) (Nat.le_add_right _ _)
theorem NW {st : St} {K : SV → St → Prop} {q : Prop} (b k n0 N0 : Nat) (f0 : Nat → Nat → PV) (s : Script) (r : Rect) (m x y W : Int) (w : Nat)
  (hbk:b≠k) (hn0:n0≤N0) (hW:(w:Int)=W) (hw0:w≤1000) (hw1:0<w) (C:∀ j:Nat,j<w→Pt s m (x+j) y) (hr:aM r=false) (hin:∀ j:Nat,j<w→jo r (x+j) y) (hs:ScriptLen s) (hx : -1073741824≤x∧x≤1073741824) (hy : -1073741824≤y∧y≤1073741824) (hk:q)
  (hb:st.bx b=some (.fix (nK s m (fL s.ops.length (aE s.ops)) (.own k n0))):=by exact QF) (hkb:st.bx k=some (.arr 221 14 N0 f0):=by exact QF) (hbn:b<st.nx:=by exact Ll) (hkn:k<st.nx:=by exact Ll)
  (hwf:∀ i,st.nx≤i→st.bx i=none:=by (first|(intro iw hiw;(try simp (maxSteps:=999999)(disch:=omega) only [go_sem] at hiw ⊢);(repeat (refine Eq.trans (if_neg ?_) ?_;(focus omega)));apply_assumption;omega)|fail))
  (wk:q→K (.b (.c (.p (wE w fun j=>ch s (x+j) y)))) (st.turn (aJ b (.fix (nK s m (fL s.ops.length (aE s.ops)) (.own st.nx 1))) (aJ st.nx (.arr 221 14 (xi s m r x y) (fun _ _ => .any)) (dH k st.bx))) (st.nx+1)):=by (first|(intro h;first|(simp (maxSteps:=999999)(disch:=omega) only [go_sem];exact h)|exact h)|fail)) :
  dY Sg st 105 [.c (.ptr b 0),I x,I y,I W, .c (.p (a3Q s r))] (Sl.of K):=by
 subst hW;refine dS (QR st.bx st.nx b k n0 N0 f0 s r m x y w hb hkb hbn hkn hbk hn0 hw0 hw1 C hr hin hs hx hy) rfl (fun i hi => ?_) (by omega) (wk hk);unfold aJ dH;rw [if_neg (by omega),if_neg (by omega),if_neg (by omega)];exact hwf i (by omega)
theorem a4p {st : St} {l : List (Nat × SV)} {o T sz : Nat} {f : Nat → Nat → PV} {B : Nat → Option Bx} {kf : Nat → SV} (hkf : st.kf = kf) (hkl : ∀ s, (kf s).lt o) (h0 : 0 < o) (hsz : 0 < sz) (hB : ∀ i x, B i = some x → i < o ∧ x.lt o ∧ st.bx i = some x)
  (hfr:qV (rG o [(o,none)]) st (aJ o (.arr T sz 0 f) B) (o+1) l):Le st (wD l (aJ o (.arr T sz 0 f) B) (o+1) kf):=by
 refine Il o [(o,none)] [o] hkf hkl (by omega) h0 hfr (fun i hi hn => ?_) (fun i hi k hk => ?_) (fun i j k hi hj _ _ => ?_) (fun i x hx => ?_)
 ·by_cases e:i=o
  ·rw [e];exact List.mem_singleton.2 rfl
  ·unfold aJ at hi;rw [if_neg e] at hi;cases hx:B i with
   | none=>exact absurd hx hi
   | some x=>have:=(hB i x hx).1;omega
 ·rw [List.mem_singleton.1 hi,fh,if_pos rfl] at hk;cases hk
 ·rw [List.mem_singleton.1 hi,List.mem_singleton.1 hj]
 ·unfold aJ at hx;split at hx
  ·rename_i e;cases hx;refine .inr ⟨?_,by omega,trivial⟩;unfold iE;rw [e,mY (Nat.le_refl _),fh,if_pos rfl];exact ⟨_,_,_,rfl,hsz⟩
  ·obtain ⟨a,b,c⟩:=hB i x hx;exact .inl ⟨a,c,b⟩
theorem XL {st : St} {l : List (Nat × SV)} {b k n N o c n0 nx : Nat} {s : Script} {m : Int} {e : PV} {f' fo' : Nat → Nat → PV} {base : Nat → Option Bx} {kf : Nat → SV} (hkf : st.kf = kf) (hkl : ∀ s, (kf s).lt n0) (hn0 : n0 ≤ nx) (hbn : b < n0) (hkn : k < nx) (hkb : k ≠ b) (hon : o < nx)
  (hbase:∀ i x,base i=some x→i<n0∧x.lt n0) (h1:st.bx b=some (.fix (nK s m e (.own k n)))) (h2:∃ f,st.bx k=some (.arr 221 14 N f)∧(f=f'∨∀ i,i<N→∀ j,j<14→PV.le (f i j) (f' i j)))
  (h3:∃ fo,st.bx o=some (.arr 43 5 c fo)∧(fo=fo'∨∀ i,i<c→∀ j,j<5→PV.le (fo i j) (fo' i j)))
  (hoth:∀ i x,i≠b→i≠k→i≠o→i<n0→base i=some x→st.bx i=some x) (hfr:qV (rG nx []) st (aJ o (.arr 43 5 c fo') (CG b k n N f' s m e base)) nx l) :
  Le st (wD l (aJ o (.arr 43 5 c fo') (CG b k n N f' s m e base)) nx kf):=by
 obtain ⟨f,h2,hf⟩:=h2;obtain ⟨fo,h3,hfo⟩:=h3;refine a6f hkf (fun s=>SV.lt_mono hn0 (hkl s)) (by omega) hfr (fun i x hx => ?_);unfold aJ at hx;split at hx
 ·rename_i e1;cases hx;exact ⟨by omega,trivial,jO (y := .arr 43 5 c fo) (by omega) (e1 ▸ h3) ⟨rfl,rfl,rfl,hfo⟩⟩
 rename_i e1;unfold CG aJ at hx;split at hx
 ·rename_i e2;cases hx;have hl:(Bx.fix (nK s m e (.own k n))).lt nx:=fun c hc=>by
   rcases List.mem_append.1 (show c ∈ CF s m e ++ [.own k n] from hc) with q|q
   ·exact CV.lt_mono (Nat.zero_le _) (qu c q)
   ·rw [List.mem_singleton.1 q];exact hkn
  exact ⟨by omega,hl,jO (by omega) (e2 ▸ h1) (wz hl)⟩
 rename_i e2;split at hx
 ·rename_i e3;cases hx;exact ⟨by omega,trivial,jO (y := .arr 221 14 N f) (by omega) (e3 ▸ h2) ⟨rfl,rfl,rfl,hf⟩⟩
 ·rename_i e3;obtain ⟨q1,q2⟩:=hbase i x hx;exact ⟨by omega,Bx.lt_mono hn0 q2,jO (by omega) (hoth i x e2 e3 e1 q1 hx) (wz (Bx.lt_mono hn0 q2))⟩
def Pb (nx k:Nat) (r:Rect) (bx:Nat→Option Bx):Nat→Option Bx:=aJ nx (.fix ((aS r).map CV.p)) (dH k bx)
attribute [local go_sem] Pb
theorem OJ (bx : Nat → Option Bx) (nx b k n0 N0 : Nat) (f0 : Nat → Nat → PV) (s : Script) (r : Rect) (m : Int)
  (hb:bx b=some (.fix (nK s m (fL s.ops.length (aE s.ops)) (.own k n0)))) (hk:bx k=some (.arr 221 14 N0 f0)) (hbn:b<nx) (hkn:k<nx) (hbk:b≠k) (hn0:n0≤N0)
  (hi:InR r s.canvas) (hc:Small s.canvas) (C:∀ x y,jo s.canvas x y→Pt s m x y) (hs:ScriptLen s) :
  lj Sg bx nx 59 [.c (.ptr b 0),ag (aS r)] (.b (.c (.p (.lst 5 ((r.y1 - r.y0).toNat * (r.x1 - r.x0).toNat) (rj aU (NM s r))))))
   (aJ b (.fix (nK s m (fL s.ops.length (aE s.ops)) (.own nx 1))) (aJ nx (.arr 221 14 (xi s m r r.x0 (r.y1 - 1)) (fun _ _ => .any)) (dH k bx))) (nx+1):=by
 have ht:True:=trivial;have hemp:=hi.empty hc;obtain ⟨i1,i2,i3,i4,i5,i6⟩:=id hi;obtain ⟨x0,x1,y0,y1,hw,hh⟩:=id hc;have V:=(C s.canvas.x0 s.canvas.y0 (by unfold jo;omega)).V;have hact:=NL s r V hs;obtain ⟨W,hW⟩:∃ W:Nat,(W:Int)=r.x1 - r.x0:=⟨(r.x1 - r.x0).toNat,by omega⟩
 obtain ⟨H,hH⟩:∃ H:Nat,(H:Int)=r.y1 - r.y0:=⟨(r.y1 - r.y0).toNat,by omega⟩
 have eW:(r.x1 - r.x0).toNat=W:=by omega
 have eH:(r.y1 - r.y0).toNat=H:=by omega
 rw [eW,eH];have eb:bx=aJ b (.fix (nK s m (fL s.ops.length (aE s.ops)) (.own k n0))) (aJ k (.arr 221 14 N0 f0) bx):=by rw [← eL hk];exact eL hb
 refine vM Tryz.func59 rfl (rs:=[.tmp 4]) rfl rfl dI (by decide +kernel) (Nat.le_of_ble_eq_true rfl) ?_ (fun kf hkf hbl => ?_)
 ·intro v hv;simp only [List.mem_cons,List.not_mem_nil,or_false] at hv;rcases hv with rfl|rfl
  ·exact hbn
  ·exact fun c hc=>by (obtain ⟨x,_,rfl⟩:=List.mem_map.1 hc;trivial)
 have hw':∀ i,nx≤i→bx i=none:=fun i hi=>by
  cases h:bx i with
  | none=>rfl
  | some y=>exact absurd (hbl i y h).1 (by omega)
 have hbase:∀ i x,Pb nx k r bx i=some x→i<nx+1∧x.lt (nx+1):=fun i x h=>by
  unfold Pb aJ dH at h;split at h
  ·cases h;rename_i e;refine ⟨by omega,fun c hc => ?_⟩;obtain ⟨v,_,rfl⟩:=List.mem_map.1 hc;trivial
  ·split at h
   ·cases h
   ·obtain ⟨q1,q2⟩:=hbl i x h;exact ⟨by omega,Bx.lt_mono (Nat.le_succ _) q2⟩
 rw [eb];have hbO:∀ i x,Pb nx k r bx i=some x→i≠k∧(i=nx∧x = .fix ((aS r).map CV.p)∨i<nx∧bx i=some x):=fun i x h2=>by
  unfold Pb aJ at h2;split at h2
  ·rename_i e;cases h2;exact ⟨by omega, .inl ⟨e,rfl⟩⟩
  ·have q:=gG h2;exact ⟨iR h2, .inr ⟨(hbl _ _ q).1,q⟩⟩
 have hpn:k≠nx:=by omega
 have hle:∀ a,a≤H→a * W≤20:=fun a ha=>Nat.le_trans (Nat.mul_le_mul ha (Nat.le_refl W)) (Nat.le_trans (Nat.mul_le_mul (show H≤4 by omega) (show W≤5 by omega)) (by decide));repeat' (first|refine aw ?_|refine an (fun K hK => ?_)|refine aa (hact) ?_|(refine aq hK ?_;try clear hK K))
 refine aK (X := Nat × Nat × Nat × Nat × (Nat → Nat → PV) × Nat × Nat) (fun z => wD [(0, .b (.c (.ptr b 0))), (3, .b (.c (.ptr nx 0))), (5, .b (.c (.p (a3Q s r)))), (7, .b (.c (.own z.2.2.2.2.2.1 (z.1 * W)))), (8, .b (I (r.y0 + z.1)))]
   (aJ z.2.2.2.2.2.1 (.arr 43 5 (z.1 * W) (rj aU (NM s r))) (CG b z.2.1 z.2.2.1 z.2.2.2.1 z.2.2.2.2.1 s m (fL s.ops.length (aE s.ops)) (Pb nx k r bx))) z.2.2.2.2.2.2 kf)
  (fun z=>z.1≤H∧z.2.2.1≤z.2.2.2.1∧(z.2.1≠b∧(z.2.1=k∨nx<z.2.1)∧z.2.1≠z.2.2.2.2.2.1∧nx<z.2.2.2.2.2.1∧z.2.1<z.2.2.2.2.2.2∧z.2.2.2.2.2.1<z.2.2.2.2.2.2)∧(0<z.1→z.2.2.1=1∧z.2.2.2.1=xi s m r r.x0 (r.y0+z.1 - 1)∧nx≤z.2.1)) (fun z=>H - z.1) (0,k,n0,N0,f0,nx+1,nx+2) ?_ ?_ ?_
 ·dsimp only;exact ⟨Nat.zero_le _,hn0,⟨by omega, .inl rfl,by omega,by omega,by omega,by omega⟩,fun h=>absurd h (Nat.lt_irrefl 0)⟩
 ·dsimp only;rw [Nat.zero_mul];refine a4p (sz:=5) (kf:=kf) (o:=nx+1) ?_ (fun s=>SV.lt_mono (Nat.le_succ _) (hkf s)) (by omega) (by decide) (fun i x hx => ?_) ?_
  ·rfl
  ·unfold CG aJ at hx;split at hx
   ·rename_i e1;cases hx;refine ⟨by omega,fun c hc => ?_, ?_⟩
    ·rcases List.mem_append.1 (show c ∈ CF s m (fL s.ops.length (aE s.ops)) ++ [.own k n0] from hc) with q|q
     ·exact CV.lt_mono (Nat.zero_le _) (qu c q)
     ·rw [List.mem_singleton.1 q];show k<nx+1;omega
    ·rw [e1];exact qS
   rename_i e1;split at hx
   ·rename_i e2;cases hx;refine ⟨by omega,trivial, ?_⟩;rw [e2];exact qS
   ·rename_i e2;obtain ⟨q1,q2⟩:=hbase i x hx;refine ⟨q1,q2, ?_⟩;rcases (hbO i x hx).2 with ⟨rfl,rfl⟩|⟨q3,q4⟩
    ·exact qS
    ·refine bV ?_;exact q4
  ·refine bV ?_;exact ⟨zD (n:=0) (fun id hid=>absurd hid (Nat.not_lt_zero _)) trivial,by omega, .inl (congrArg (fun z=>PV.val (Value.int IntKind.i64 z)) (by omega))⟩
 rintro ⟨a,k1,n2,N,f,o,n1⟩ ⟨ha,hn2,⟨p1,p2,p3,p4,p5,p6⟩,hz⟩;dsimp only at ha hn2 p1 p2 p3 p4 p5 p6 hz ⊢;have p7:k1≠nx:=by rcases p2 with p2|p2 <;> omega
 rcases Nat.lt_or_ge a H with hlt|hge
 ·have g1:decide (r.y0+(a:Int)<r.y1)=true:=decide_eq_true (by omega);have hb20:=hle (a+1) (by omega);rw [Nat.succ_mul] at hb20;have hin:∀ j:Nat,j<W→jo r (r.x0+j) (r.y0+a):=fun j hj=>by unfold jo;omega
  have hC:∀ j:Nat,j<W→Pt s m (r.x0+j) (r.y0+a):=fun j hj=>C _ _ (hi.pt (hin j hj));repeat' (first|refine aj g1 ?_|refine aw ?_|refine an (fun K hK => ?_)|refine NW b k1 n2 N f s r m r.x0 (r.y0+a) (r.x1 - r.x0) W (by omega) hn2 hW (by omega) (by omega) hC hemp hin hs (by omega) (by omega) ?_|(refine aq hK ?_;try clear hK K))
  rw [ae];refine ao (a+1,n1,1,xi s m r r.x0 (r.y0+a),fun _ _ => .any,n1+1,n1+2) ?_ ?_ (by dsimp only;omega)
  ·dsimp only;rw [Nat.succ_mul];refine XL (n0:=nx+1) (kf:=kf) rfl (fun s=>SV.lt_mono (Nat.le_succ _) (hkf s)) (by omega) (by omega) (by omega) (by omega) (by omega) hbase ?_ ?_ ?_ (fun i x e1 e2 e3 e4 hx => ?_) ?_
   ·exact qS
   ·apply Exists.intro;refine And.intro ?_ (.inl rfl);exact qS
   ·apply Exists.intro;refine And.intro ?_ (.inr fun i hi' j hj => ?_)
    ·exact qS
    ·unfold dV;split
     ·exact PV.le_refl _
     ·rename_i q;obtain ⟨t,ht',rfl⟩:∃ t,t<W∧i=a * W+t:=⟨i - a * W,by omega,by omega⟩
      rw [Nat.add_sub_cancel_left];unfold rj;rw [rY hW ht'];exact PV.le_refl _
   ·rcases (hbO i x hx).2 with ⟨rfl,rfl⟩|⟨q3,q4⟩
    ·exact qS
    ·have q5:=(hbO i x hx).1;have q6:i≠k1:=by rcases p2 with p2|p2 <;> omega
     refine bV ?_;exact q4
   ·refine bV ?_;exact ⟨zD (n:=0) (fun id hid=>absurd hid (Nat.not_lt_zero _)) trivial,by omega, .inl (congrArg (fun z=>PV.val (Value.int IntKind.i64 z)) (by omega))⟩
  ·dsimp only;exact ⟨by omega,HC,⟨by omega, .inr (by omega),by omega,by omega,by omega,by omega⟩,fun _=>⟨rfl,by rw [show r.y0+((a+1:Nat):Int) - 1=r.y0+a by omega],by omega⟩⟩
 ·have g1:decide (r.y0+(a:Int)<r.y1)=false:=decide_eq_false (by omega);obtain rfl:a=H:=by omega
  obtain ⟨rfl,e2,e3⟩:=hz (by omega);rw [show r.y0+(a:Int) - 1=r.y1 - 1 by omega] at e2;subst e2;repeat' (first|refine aj g1 ?_|refine aC ?_)
  refine ⟨_,QV (l:=[(4, .b (.c (.p (.lst 5 (a * W) (rj aU (NM s r))))))]) (b:=b) (q:=k1) (n:=1) (T:=221) (sz:=14) (N:=xi s m r r.x0 (r.y1 - 1)) (cs:=CF s m (fL s.ops.length (aE s.ops))) (f := ?ff) (f':=fun _ _ => .any) (base:=dH k (aJ b (.fix (nK s m (fL s.ops.length (aE s.ops)) (.own k n0))) (aJ k (.arr 221 14 N0 f0) bx))) rfl hkf hbn e3 qu ?h1 ?h2 (.inr fun _ _ _ _ _ _ _ _=>trivial) ?h4 ?h5,⟨trivial,trivial⟩,rfl,fun i y h=>h,rfl,rfl,trivial⟩
  case h1=>exact qS
  case h2=>exact qS
  case h4 =>
   intro i x e1 hx;have hx:dH k bx i=some x:=by rw [← eb] at hx;exact hx
   have q5:=iR hx;have q4:=gG hx;obtain ⟨q1,q2⟩:=hbl i x q4;refine ⟨q1,q2, ?_⟩;refine bV ?_;exact q4
  case h5 =>
   refine bV ?_;refine KV (e:=43) (m:=a * W) (f:=rj aU (NM s r)) ba (Nat.le_refl _) (fun i hi j hj=>PV.le_refl _) (fun id' _ e => ?_);rcases Nat.lt_or_ge id' nx with q|q
   ·rw [oq q] at e;have:=Option.some.inj e;omega
   ·rw [mY q,fh] at e;split at e
    ·have:=Option.some.inj e;omega
    ·have:=Option.some.inj e;omega
end
section
attribute [local go_sem] Nat.add_zero nK Int.toNat_natCast dQ
theorem KK (bx : Nat → Option Bx) (nx : Nat) (s : Script) (V : VOps s) (hw : ∀ i, nx ≤ i → bx i = none) :
  lj Sg bx nx 57 [ag (ay s)] (.b (.c (.ptr (nx+1) 0))) (aJ (nx+1) (.fix (nK s (aN s.bits) (fL s.ops.length (aE s.ops)) (.p (.val (.slice none 0 0))))) bx) (nx+2):=by
 have ht:True:=trivial;have h1:aB Sg 80 [I s.bits] (fun x=>x = .tup [U (aN s.bits),B (decide (s.bits=8∨s.bits=16))]):=gR s.bits;have h2:=qT s V;refine oC Tryz.func57 rfl (rs:=[.tmp 2]) rfl rfl dI (by decide +kernel) (Nat.le_of_ble_eq_true rfl) ?_ (fun kf => ?_)
 ·intro v hv;simp only [List.mem_cons,List.not_mem_nil,or_false] at hv;rcases hv with rfl
  ·exact fun c hc=>by (obtain ⟨x,_,rfl⟩:=List.mem_map.1 hc;trivial)
 repeat' (first|refine an (fun K hK => ?_)|refine aa (h1) ?_|refine aa (h2) ?_|refine aw ?_|(refine aq hK ?_;try clear hK K))
 refine ⟨Gi (nx:=nx) hw ?_ (fun i hi h1 => ?_),by omega⟩
 ·exact qS
 ·refine bV ?_;exact if_neg (by omega)
theorem Jc {st : St} {K : SV → St → Prop} {q : Prop} (s : Script) (V : VOps s) (hk : q)
  (hwf:∀ i,st.nx≤i→st.bx i=none:=by (first|(intro iw hiw;(try simp (maxSteps:=999999)(disch:=omega) only [go_sem] at hiw ⊢);(repeat (refine Eq.trans (if_neg ?_) ?_;(focus omega)));(first|rfl|(apply_assumption;omega)))|fail))
  (wk:q→K (.b (.c (.ptr (st.nx+1) 0))) (st.turn (aJ (st.nx+1) (.fix (nK s (aN s.bits) (fL s.ops.length (aE s.ops)) (.p (.val (.slice none 0 0))))) st.bx) (st.nx+2)):=by (first|(intro h;first|(simp (maxSteps:=999999)(disch:=omega) only [go_sem];exact h)|exact h)|fail)) :
  dY Sg st 57 [ag (ay s)] (Sl.of K):=by
 refine dS (KK st.bx st.nx s V hwf) rfl (fun i hi => ?_) (by omega) (wk hk);unfold aJ;rw [if_neg (by omega)];exact hwf i (by omega)
theorem uG {st : St} {K : SV → St → Prop} {q : Prop} (b k n0 N0 : Nat) (f0 : Nat → Nat → PV) (s : Script) (r : Rect) (m : Int)
  (hbk:b≠k) (hn0:n0≤N0) (hi:InR r s.canvas) (hc:Small s.canvas) (C:∀ x y,jo s.canvas x y→Pt s m x y) (hs:ScriptLen s) (hk:q)
  (hb:st.bx b=some (.fix (nK s m (fL s.ops.length (aE s.ops)) (.own k n0))):=by exact QF) (hkb:st.bx k=some (.arr 221 14 N0 f0):=by exact QF) (hbn:b<st.nx:=by exact Ll) (hkn:k<st.nx:=by exact Ll)
  (hwf:∀ i,st.nx≤i→st.bx i=none:=by (first|(intro iw hiw;(try simp (maxSteps:=999999)(disch:=omega) only [go_sem] at hiw ⊢);(repeat (refine Eq.trans (if_neg ?_) ?_;(focus omega)));(first|rfl|(apply_assumption;omega)))|fail))
  (wk:q→K (.b (.c (.p (.lst 5 ((r.y1 - r.y0).toNat * (r.x1 - r.x0).toNat) (rj aU (NM s r)))))) (st.turn (aJ b (.fix (nK s m (fL s.ops.length (aE s.ops)) (.own st.nx 1))) (aJ st.nx (.arr 221 14 (xi s m r r.x0 (r.y1 - 1)) (fun _ _ => .any)) (dH k st.bx))) (st.nx+1)):=by (first|(intro h;first|(simp (maxSteps:=999999)(disch:=omega) only [go_sem];exact h)|exact h)|fail)) :
  dY Sg st 59 [.c (.ptr b 0),ag (aS r)] (Sl.of K):=by
 refine dS (OJ st.bx st.nx b k n0 N0 f0 s r m hb hkb hbn hkn hbk hn0 hi hc C hs) rfl (fun i hi => ?_) (by omega) (wk hk);unfold aJ dH;rw [if_neg (by omega),if_neg (by omega),if_neg (by omega)];exact hwf i (by omega)
end
end Go.Proofs.YtdjmpacladhijaaGreatDoor
