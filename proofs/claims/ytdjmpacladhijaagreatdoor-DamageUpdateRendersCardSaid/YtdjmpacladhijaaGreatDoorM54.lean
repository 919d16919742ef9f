/- Part of the proof: RK, VJ, H6. -/
import Derived.Test.YtdjmpacladhijaaGreatDoorM53
set_option linter.unusedSimpArgs false
set_option linter.unusedVariables false
set_option maxHeartbeats 4000000
set_option maxRecDepth 16000
namespace Go.Proofs.YtdjmpacladhijaaGreatDoor
theorem Iw {s:Script}:cU s=jQ s s.canvas:=rfl
section
open Go Go.SL
open Go.RowKit (wrap64)
attribute [local go_sem] Int.toNat_natCast n4E Int.sub_zero Int.zero_add
def eT (w h:Int) (n:N4):Rect:=⟨n.a % w,n.b % h,n.a % w+1+n.c % (w - n.a % w),n.b % h+1+n.d % (h - n.b % h)⟩
theorem Mc {w h:Int} (n:N4) (hw:1≤w) (hh:1≤h):0≤(eT w h n).x0∧(eT w h n).x0<(eT w h n).x1∧(eT w h n).x1≤w∧0≤(eT w h n).y0∧(eT w h n).y0<(eT w h n).y1∧(eT w h n).y1≤h:=by
 have a1:=Int.emod_nonneg n.a (show w≠0 by omega);have a2:=Int.emod_lt_of_pos n.a (show 0<w by omega);have b1:=Int.emod_nonneg n.b (show h≠0 by omega);have b2:=Int.emod_lt_of_pos n.b (show 0<h by omega);have c1:=Int.emod_nonneg n.c (show w - n.a % w≠0 by omega);have c2:=Int.emod_lt_of_pos n.c (show 0<w - n.a % w by omega);have d1:=Int.emod_nonneg n.d (show h - n.b % h≠0 by omega);have d2:=Int.emod_lt_of_pos n.d (show 0<h - n.b % h by omega);unfold eT;dsimp only;omega
theorem XS (w h:Int) (n:N4) (hw:1≤w∧w≤16777216) (hh:1≤h∧h≤16777216):aB Sg 13 [ag (aS ⟨0,0,w,h⟩),ag (n4E n)] (fun q=>q = .b (ag (aS (eT w h n)))):=by
 have ht:True:=trivial;have a1:=Int.emod_nonneg n.a (show w≠0 by omega);have a2:=Int.emod_lt_of_pos n.a (show 0<w by omega);have b1:=Int.emod_nonneg n.b (show h≠0 by omega);have b2:=Int.emod_lt_of_pos n.b (show 0<h by omega);have c1:=Int.emod_nonneg n.c (show w - n.a % w≠0 by omega);have c2:=Int.emod_lt_of_pos n.c (show 0<w - n.a % w by omega);have d1:=Int.emod_nonneg n.d (show h - n.b % h≠0 by omega);have d2:=Int.emod_lt_of_pos n.d (show 0<h - n.b % h by omega);have s1:=bD n.a w (by omega) (by omega);have s2:=bD n.b h (by omega) (by omega);have s3:=bD n.c (w - n.a % w) (by omega) (by omega);have s4:=bD n.d (h - n.b % h) (by omega) (by omega);unfold eT;generalize n.c % (w - n.a % w)=u3 at *
 generalize n.d % (h - n.b % h)=u4 at *
 generalize n.a % w=u1 at *
 generalize n.b % h=u2 at *
 refine az Tryz.func13 [.cell 4 35] ?_;repeat' (first|with_reducible exact cz|refine aj ht ?_|refine bL ?_|((first|refine an (fun K hK => ?_)|refine pj ?_|refine aa (s1) ?_|refine aA (fun hg=>s1) ?_|refine aa (s2) ?_|refine aA (fun hg=>s2) ?_|refine aa (s3) ?_|refine aA (fun hg=>s3) ?_|refine aa (s4) ?_|refine aA (fun hg=>s4) ?_);and_intros;all_goals first|(refine hK _ ?_;clear hK K)|try exact ai)|((first|apply dC|apply dE);(case hf=>rfl);(case hc=>exact du);(all_goals first|(intro hb;(try simp only [nR] at hb))|skip))|exact bd|(refine aH (fun hb => ?_) (fun hb => ?_);all_goals try exact ax)|refine eo (fun KB hB => ?_)|(refine hB _ ?_;clear hB KB)|refine gM (S:=Sg) (by assumption) ?_|(refine bF ?_;(try clear hB KB);(try clear hK K)))
 rfl
theorem LJ {r:Row} {N:Nat} {m:Int}:(aY r N m).length=N:=by simp [aY]
theorem NK (s : Script) (k : Nat) (hk : k < s.images.length) (hn : s.images.length ≤ 64) (n : N4) (r : Row) (hr : RowOk r) (hf : aV (s.images.getD k default) = true)
  (hw:(s.images.getD k default).w≤5) (hh:(s.images.getD k default).h≤4) :
  aB Sg 21 [ag (ay s),I k,ag (n4E n),ag (CD r)] (fun q=>q = .tup [ag (ay (eJ s k (mc (s.images.getD k default) (eT (s.images.getD k default).w (s.images.getD k default).h n)
   (aY r (eM (eT (s.images.getD k default).w (s.images.getD k default).h n)).toNat (js s.bits))))),ag (aS (eT (s.images.getD k default).w (s.images.getD k default).h n))]):=by
 have ht:True:=trivial;obtain ⟨hfit,b1,b2,b3,b4,b5,hb⟩:=jf hf;have hpb:=Mc n b1 b2;have hP:Part (s.images.getD k default) (eT (s.images.getD k default).w (s.images.getD k default).h n):=⟨hpb.1,hpb.2.1,hpb.2.2.1,hpb.2.2.2.1,hpb.2.2.2.2.1,hpb.2.2.2.2.2⟩
 obtain ⟨e1,e2,e3⟩:=tR hf hP;have s1:=XS (s.images.getD k default).w (s.images.getD k default).h n ⟨b1,b3⟩ ⟨b2,b4⟩;have s2:=qI (eT (s.images.getD k default).w (s.images.getD k default).h n);have ha:0≤eM (eT (s.images.getD k default).w (s.images.getD k default).h n)∧eM (eT (s.images.getD k default).w (s.images.getD k default).h n)≤5 * 4:=by
  rw [e3];exact ⟨au (by omega) (by omega),aD (by omega) (by omega) (by omega) (by omega)⟩
 have hmost:u16 (js s.bits):=by unfold js u16;split <;> omega
 have hbit:∀ t:Bool,t=(s.bits == 16)→(if t=true then (65535:Int) else 255)=js s.bits:=fun t ht=>by rw [ht,js];simp
 have s3:=oe r (eM (eT (s.images.getD k default).w (s.images.getD k default).h n)) (js s.bits) hr ha.1 (by omega) hmost;have hlen:((aY r (eM (eT (s.images.getD k default).w (s.images.getD k default).h n)).toNat (js s.bits)).length:Int)=eM (eT (s.images.getD k default).w (s.images.getD k default).h n):=by rw [LJ];omega
 have hlen:=hlen.trans e3;have s4:=KC (s.images.getD k default) (eT (s.images.getD k default).w (s.images.getD k default).h n) (aY r (eM (eT (s.images.getD k default).w (s.images.getD k default).h n)).toNat (js s.bits)) hf hP hlen;generalize aY r (eM (eT (s.images.getD k default).w (s.images.getD k default).h n)).toNat (js s.bits)=L at *
 generalize mc (s.images.getD k default) (eT (s.images.getD k default).w (s.images.getD k default).h n) L=img at *
 generalize eT (s.images.getD k default).w (s.images.getD k default).h n=R at *
 generalize eM R=A at *
 refine bo ?_;refine az Tryz.func21 [.cell 8 39, .cell 9 35] ?_;repeat' (first|with_reducible exact cz|refine aj ht ?_|refine bL ?_|((with_reducible refine aX (id:=7) (fun K hW => ?_));(try simp (maxSteps:=999999)(disch:=omega) only [go_sem]);and_intros;all_goals first|(refine hK _ ?_;clear hK K)|try exact ai)|((first|refine an (fun K hK => ?_)|refine pj ?_|refine aa (s1) ?_|refine aA (fun hg=>s1) ?_);and_intros;all_goals first|(refine hK _ ?_;clear hK K)|try exact ai)|((first|apply dC|apply dE);(case hf=>rfl);(case hc=>exact du);(all_goals first|(intro hb;(try simp only [nR] at hb))|skip))|exact bd|(refine aH (fun hb => ?_) (fun hb => ?_);all_goals try exact ax)|refine eo (fun KB hB => ?_)|(refine hB _ ?_;clear hB KB)|refine gM (S:=Sg) (by assumption) ?_|(refine bF ?_;(try clear hB KB);(try clear hK K)))
 refine hW _ (aP [(1, .b (I k)),(7, .b (.c (.ptr 1 0))),(8, .b (.c (.ptr 2 0))),(9, .b (.c (.ptr 3 0))),(10, .b (.c (.ptr 4 0))),(11, .b (.c (.ptr 5 0))),(12, .b (U (js s.bits))),(13, .b (.c (.ptr 6 0)))]
  [(0, .fix ((ay s).map CV.p)),(1, .fix ((CD r).map CV.p)),(2, .fix (List.replicate 10 (.p .any))),(3, .fix (List.replicate 4 (.p .any))),(4, .fix ((aF (s.images.getD k default)).map CV.p)),(5, .fix ((aS R).map CV.p)),
   (6, .fix [.p (PI s.bits), .p (PI s.canvas.x0), .p (PI s.canvas.y0), .p (PI s.canvas.x1), .p (PI s.canvas.y1), .p (PI s.tileW), .p (PI s.tileH), .p (dq s.order), .own 7 s.images.length, .p (kU s.ops)]),(7, .arr 49 28 s.images.length (aQ aF s.images))] 8) ?_ ?_
 ·refine ar [(1,some 2),(2,some 3),(3,some 4),(4,some 5),(5,some 6),(6,some 7),(7,some 8)] ?_ ?_;and_intros;all_goals try exact ak
  all_goals skip
 clear hW;repeat' (first|with_reducible exact cz|((first|((with_reducible refine bT (id:=8) [(35,1),(48,2)] (by decide +kernel) (by decide +kernel) ?_ (fun K hK => ?_));exact bZ)|((with_reducible refine gx (id:=8) [(35,1),(48,2)] (by decide +kernel) (by decide +kernel) ?_ (fun K hK => ?_));exact bZ));(try simp (maxSteps:=999999)(disch:=omega) only [go_sem]);and_intros;(all_goals first|(refine hK _ ba ?_;clear hK K)|exact ai|skip))|refine bL ?_|((first|refine an (fun K hK => ?_)|refine pj ?_|refine aa (s2) ?_|refine aA (fun hg=>s2) ?_|refine aa (s3) ?_|refine aA (fun hg=>s3) ?_|refine aa (s4) ?_|refine aA (fun hg=>s4) ?_);and_intros;all_goals first|(refine hK _ ?_;clear hK K)|try exact ai)|((first|apply dC|apply dE);(case hf=>rfl);(case hc=>exact du);(all_goals first|(intro hb;(try simp only [nR] at hb))|skip))|exact bd|(refine aH (fun hb => ?_) (fun hb => ?_);all_goals try exact ax)|refine eo (fun KB hB => ?_)|(refine hB _ ?_;clear hB KB)|refine gM (S:=Sg) (by assumption) ?_|(refine bF ?_;(try clear hB KB);(try clear hK K)))
 refine hK _ ba ?_;clear hK;refine cM (id:=9) (.br 0 (.br 1 (.br 2 (.br 3 .leaf .nil) .nil) (.br 2 (.br 1 (.br 3 .leaf .nil) .nil) .nil)) .nil) (by decide +kernel) bZ (fun K0 hW => ?_)
 refine (fun (tl:∀ st,Le st (aP [(8, .b (.c (.ptr 1 0))),(9, .b (.c (.ptr 2 0)))] [(0, .fix ((ay s).map CV.p)),(1, .fix [.p (PI s.bits), .p (PI s.canvas.x0), .p (PI s.canvas.y0), .p (PI s.canvas.x1), .p (PI s.canvas.y1), .p (PI s.tileW), .p (PI s.tileH), .p (dq s.order), .own 3 s.images.length, .p (kU s.ops)]),
  (2, .fix ((aS R).map CV.p)),(3, .arr 49 28 s.images.length (aQ aF (s.images.set k img)))] 4)→K0 st) => ?_) (fun st hl=>hW st _ hl ?_)
 ·clear hW;repeat' (first|exact bp|(refine bO (fun K' hK' => ?_) ?_)|(refine aZ (tl _ ?_);clear tl)|(simp (maxSteps:=999999)(disch:=omega) only [go_sem];and_intros;(all_goals first|(refine hK' _ ?_;clear hK' K')|trivial|omega|exact Nat.le_of_ble_eq_true rfl|exact ai|skip)))
  all_goals
   refine ar [(1,some 2),(2,some 3),(3,some 7)] ?_ ?_;and_intros;all_goals try exact ak
  all_goals
   refine .inr fun a ha j hj => ?_;by_cases e:a=k
   ·have e2:(s.images.set k img).getD a default=img:=by rw [e,List.getD_eq_getElem?_getD,List.getElem?_set_self hk];rfl
    rw [if_pos e,if_pos ⟨Nat.zero_le _,hj⟩,e2];have hivl:j=0∨j=1∨j=2∨j=3∨j=4∨j=5∨j=6∨j=7∨j=8∨j=9∨j=10∨j=11∨j=12∨j=13∨j=14∨j=15∨j=16∨j=17∨j=18∨j=19∨j=20∨j=21∨j=22∨j=23∨j=24∨j=25∨j=26∨j=27:=by omega
    rcases hivl with rfl|rfl|rfl|rfl|rfl|rfl|rfl|rfl|rfl|rfl|rfl|rfl|rfl|rfl|rfl|rfl|rfl|rfl|rfl|rfl|rfl|rfl|rfl|rfl|rfl|rfl|rfl|rfl <;> exact PV.le_refl _
   ·have e2:(s.images.set k img).getD a default=s.images.getD a default:=by rw [List.getD_eq_getElem?_getD,List.getElem?_set_ne (fun q=>e q.symm),← List.getD_eq_getElem?_getD]
    rw [if_neg e,e2];exact PV.le_refl _
 clear hW;repeat' (first|with_reducible exact cz|refine bL ?_|((first|refine an (fun K hK => ?_)|refine pj ?_);and_intros;all_goals first|(refine hK _ ?_;clear hK K)|try exact ai)|((first|apply dC|apply dE);(case hf=>rfl);(case hc=>exact du);(all_goals first|(intro hb;(try simp only [nR] at hb))|skip))|exact bd|(refine aH (fun hb => ?_) (fun hb => ?_);all_goals try exact ax)|refine eo (fun KB hB => ?_)|(refine hB _ ?_;clear hB KB)|refine gM (S:=Sg) (by assumption) ?_|(refine bF ?_;(try clear hB KB);(try clear hK K)))
 rw [show (eJ s k img).images.length=s.images.length from List.length_set];refine cJ ⟨dG ?_,dG ?_,trivial⟩
 ·simp only [List.map_cons,List.map_nil,bM,cA];and_intros;all_goals first|exact .inl rfl|exact .inl trivial|exact .inr bP|trivial|skip
 ·simp only [List.map_cons,List.map_nil,bM,cA];and_intros;all_goals first|exact .inl rfl|exact .inl trivial|exact .inr bP|trivial|skip
theorem Yl {c:Scene} {s:Script} (h:Of c s) {k:Nat} {img:Image} (hk:k<s.images.length) (hv:ImgV img (aN s.bits)):Of c (eJ s k img):=by
 have hl:(eJ s k img).images.length=s.images.length:=List.length_set;refine ⟨h.b,h.cv,h.w,h.h,h.o,by rw [hl];exact h.n1,by rw [hl];exact h.n2,fun i h0 h1 => ?_,⟨h.V.wf,fun i hi => ?_,by rw [hl];exact h.V.imgs,h.V.cnt, ?_⟩,h.op⟩
 ·rw [hl] at h1;show ImgV ((s.images.set k img).getD i.toNat default) (aN s.bits);rw [List.getD_eq_getElem?_getD];by_cases e:i.toNat=k
  ·rw [e,List.getElem?_set_self hk];exact hv
  ·rw [List.getElem?_set_ne (fun q=>e q.symm),← List.getD_eq_getElem?_getD];exact h.im i h0 h1
 ·rw [hl];exact h.V.ok i hi
 ·exact Je h.b h.cv h.w h.h h.o (by rw [hl];have:=h.n2;omega) (by have:=h.V.cnt;exact this)
theorem Pm (c:Scene) {k:Nat} (hk:k<(aI c).images.length):((aI c).images.getD k default).w≤5∧((aI c).images.getD k default).h≤4:=by
 have hmem:(aI c).images.getD k default ∈ aT c:=by
  rw [List.getD_eq_getElem?_getD,List.getElem?_eq_getElem hk];exact List.getElem_mem _
 generalize (aI c).images.getD k default=q at hmem;have hs:=cI c;unfold aT at hmem;split at hmem
 ·rw [List.mem_singleton.1 hmem];show 1+c.w % 5≤5∧1+c.h % 4≤4;omega
 ·unfold cL at hmem;obtain ⟨p,_,rfl⟩:=List.mem_map.1 hmem;have:=Ht (p:=p) hs;unfold jR;split
  ·show gW p (aG c)≤5∧gH p (aG c)≤4;omega
  ·show gW p (aG c)≤5∧gH p (aG c)≤4;omega
end
theorem Jd {W x0 y0 rw a k:Nat} {l o:List Pixel} (hx:x0+rw≤W) (h0:0<rw) (ha:a<o.length):∀ i,k<i→oS W x0 y0 rw k=a→(hZ W x0 y0 rw l o i).getD a default=l.getD k default
 | 0,h,_=>absurd h (Nat.not_lt_zero k)
 | i+1,h,e=>by
  rw [hZ,List.getD_eq_getElem?_getD];by_cases hk:k=i
  ·subst hk;rw [e,List.getElem?_set_self (by rw [kC];exact ha)];rfl
  ·have hne:oS W x0 y0 rw i≠a:=fun q=>hk (by
    unfold oS at e q;rw [Nat.add_assoc] at e q;have b1:=Nat.mod_lt i h0;have b2:=Nat.mod_lt k h0;obtain ⟨e1,e2⟩:=FJ (W:=W) (by omega) (by omega) (e.trans q.symm);have d1:=Nat.div_add_mod k rw;have d2:=Nat.div_add_mod i rw;have e3:k / rw=i / rw:=by omega
    have e4:k % rw=i % rw:=by omega
    rw [← d1,← d2,e3,e4])
   rw [List.getElem?_set_ne hne,← List.getD_eq_getElem?_getD];exact Jd hx h0 ha i (by omega) e
theorem Xo {s : Script} (hs : Small s.canvas) {W x y : Nat} (hW : (W : Int) = s.canvas.x1 - s.canvas.x0) (hx : x < W) (hy : (y : Int) < s.canvas.y1 - s.canvas.y0) :
  jo s.canvas (s.canvas.x0+(x:Nat)) (s.canvas.y0+(y:Nat))∧Vr (cU s) (y * W+x)=ch s (s.canvas.x0+(x:Nat)) (s.canvas.y0+(y:Nat)):=Rr hs hW hx hy
theorem Kk {s t:Script} {r:Rect} (hs:Small t.canvas) (e:s.canvas=t.canvas) (hr:cS t.canvas r=true) (h:∀ x y,jo t.canvas x y→¬ zb r x y→ch s x y=ch t x y):BZ (cU s) t r=cU t:=by
 have hs2:Small s.canvas:=by rw [e];exact hs
 refine congrArg (bR (t.canvas.x1 - t.canvas.x0) (t.canvas.y1 - t.canvas.y0)) (show za (cU s) t r=jj t (wB t.canvas) from ?_);obtain ⟨x0,x1,y0,y1,hw,hh⟩:=id hs;obtain ⟨W,hW⟩:∃ W:Nat,(W:Int)=t.canvas.x1 - t.canvas.x0:=⟨(t.canvas.x1 - t.canvas.x0).toNat,by omega⟩
 have eW:(t.canvas.x1 - t.canvas.x0).toNat=W:=by omega
 obtain ⟨H,hH⟩:∃ H:Nat,(H:Int)=t.canvas.y1 - t.canvas.y0:=⟨(t.canvas.y1 - t.canvas.y0).toNat,by omega⟩
 have hN0:wB t.canvas=W * H:=by unfold wB;rw [← hW,← hH,← Int.natCast_mul,Int.toNat_natCast]
 have hW0:0<W:=by omega
 refine List.ext_getElem (by rw [AU,oT,iS]) fun a h1 h2 => ?_;have ha:a<wB t.canvas:=by rw [AU] at h1;exact h1
 have g1:(za (cU s) t r)[a]=(za (cU s) t r).getD a default:=by rw [List.getD_eq_getElem?_getD,List.getElem?_eq_getElem h1];rfl
 have g2:(jj t (wB t.canvas))[a]=(jj t (wB t.canvas)).getD a default:=by rw [List.getD_eq_getElem?_getD,List.getElem?_eq_getElem h2];rfl
 rw [g1,g2];clear g1 g2 h1 h2;obtain ⟨x,y,hx,hy,rfl⟩:∃ x y,x<W∧y<H∧a=y * W+x:=⟨a % W,a / W,Nat.mod_lt a hW0,Nat.div_lt_of_lt_mul (by rw [← hN0];exact ha),by rw [Nat.mul_comm];exact (Nat.div_add_mod a W).symm⟩
 have g3:(jj t (wB t.canvas)).getD (y * W+x) default=ch t (t.canvas.x0+(x:Nat)) (t.canvas.y0+(y:Nat)):=by rw [oT,ir ha,rY hW hx]
 rw [g3];obtain ⟨hin,hpx⟩:=Xo (s:=s) (x:=x) (y:=y) (W:=W) hs2 (by rw [e];exact hW) hx (by rw [e];omega);rw [e] at hin hpx;have hold:¬ zb r (t.canvas.x0+(x:Nat)) (t.canvas.y0+(y:Nat))→(nN (cU s) (wB t.canvas)).getD (y * W+x) default=ch t (t.canvas.x0+(x:Nat)) (t.canvas.y0+(y:Nat)):=fun q=>by
  rw [Ko ha,hpx];exact h _ _ hin q
 unfold za;split
 ·rename_i he;exact hold fun q=>by have:=q.1;rw [he] at this;cases this
 ·rename_i he;rw [Bool.not_eq_true] at he;obtain ⟨i1,i2,i3,i4,i5,i6⟩:=pZ he hr;obtain ⟨rw',hrw⟩:∃ n:Nat,(n:Int)=r.x1 - r.x0:=⟨(r.x1 - r.x0).toNat,by omega⟩
  obtain ⟨rh,hrh⟩:∃ n:Nat,(n:Int)=r.y1 - r.y0:=⟨(r.y1 - r.y0).toNat,by omega⟩
  have erw:(r.x1 - r.x0).toNat=rw':=by omega
  have hN:wB r=rw' * rh:=by unfold wB;rw [← hrw,← hrh,← Int.natCast_mul,Int.toNat_natCast]
  rw [eW,erw];have h0:0<rw':=by omega
  by_cases q:jo r (t.canvas.x0+(x:Nat)) (t.canvas.y0+(y:Nat))
  ·obtain ⟨b1,b2,b3,b4⟩:=id q;obtain ⟨kx,hkx⟩:∃ n:Nat,(n:Int)=t.canvas.x0+(x:Nat) - r.x0:=⟨(t.canvas.x0+(x:Nat) - r.x0).toNat,by omega⟩
   obtain ⟨ky,hky⟩:∃ n:Nat,(n:Int)=t.canvas.y0+(y:Nat) - r.y0:=⟨(t.canvas.y0+(y:Nat) - r.y0).toNat,by omega⟩
   have hk1:kx<rw':=by omega
   have hk2:ky<rh:=by omega
   have hkn:ky * rw'+kx<wB r:=by
    rw [hN];have:(ky+1) * rw'≤rh * rw':=Nat.mul_le_mul hk2 (Nat.le_refl _);rw [Nat.succ_mul] at this;rw [Nat.mul_comm rw' rh];omega
   have d1:(ky * rw'+kx) / rw'=ky:=by rw [Nat.mul_comm,Nat.mul_add_div h0,Nat.div_eq_of_lt hk1,Nat.add_zero]
   have d2:(ky * rw'+kx) % rw'=kx:=by rw [Nat.mul_comm,Nat.mul_add_mod,Nat.mod_eq_of_lt hk1]
   have hid:oS W (r.x0 - t.canvas.x0).toNat (r.y0 - t.canvas.y0).toNat rw' (ky * rw'+kx)=y * W+x:=by
    unfold oS;rw [d1,d2];have e1:(r.y0 - t.canvas.y0).toNat+ky=y:=by omega
    have e2:(r.x0 - t.canvas.x0).toNat+kx=x:=by omega
    rw [e1,Nat.add_assoc,e2]
   rw [Jd (by omega) h0 (by rw [gA];exact ha) _ hkn hid,ir hkn,rY hrw hk1];congr 1 <;> omega
  ·rw [AK _ fun k hk hid => ?_]
   ·exact hold fun z=>q z.2
   ·refine q ?_;have m1:=Nat.mod_lt k h0;have m2:k / rw'<rh:=Nat.div_lt_of_lt_mul (by rw [← hN];exact hk);unfold oS at hid;rw [Nat.add_assoc] at hid;generalize k % rw'=b at *
    generalize k / rw'=d at *
    obtain ⟨e1,e2⟩:=FJ (W:=W) (by omega) hx hid;unfold jo;omega
end Go.Proofs.YtdjmpacladhijaaGreatDoor
