/- Part of the proof: H9. -/
import Derived.Test.YtdjmpacladhijaaGreatDoorM41
import Derived.Test.YtdjmpacladhijaaGreatDoorM54
set_option linter.unusedSimpArgs false
set_option linter.unusedVariables false
set_option maxHeartbeats 4000000
set_option maxRecDepth 16000
namespace Go.Proofs.YtdjmpacladhijaaGreatDoor
open Go Go.SL
open Go.RowKit (wrap64)
attribute [local go_sem] Int.toNat_natCast n4E
theorem Of.rendB {c:Scene} {s:Script} (h:Of c s):aB Sg 22 [ag (ay s)] (fun r=>r = .tup [ag (aF (cU s)),I 0,I 0]):=by
 have:=gJ s h.ev (fun _=>h.small);have h0:bz s=(0,0):=pP h.V h.im;rw [h0] at this;have e:jE s=cU s:=by unfold jE;rw [h0,if_pos rfl]
 rw [e] at this;exact this
theorem Iz (c : Scene) (hc : SceneOk c) (i : Int) (n : N4) (r : Row) (hr : RowOk r) :
  aB Sg 4 [ag (fW c),I i,ag (n4E n),ag (CD r)] (fun q=>q = .b (B true)):=by
 have ht:True:=trivial;have hg:=kE c hc;have hgl:=kj c;have hO:=a0y c;have hn1:=hO.n1;have hn2:=hO.n2;have hsm:Small (aI c).canvas:=cI c;have hmx:js (aI c).bits=aN (aI c).bits:=by rw [Tp,sX]
 have hm0:0≤aN (aI c).bits:=by rw [sX];have:=la c.bits;omega
 have hsz:=fun k hk=>Pm c (k:=k) hk;generalize aI c=s at *
 have k1:=Int.emod_nonneg i (show (s.images.length:Int)≠0 by omega);have k2:=Int.emod_lt_of_pos i (show (0:Int)<s.images.length by omega);obtain ⟨k,hk⟩:∃ k:Nat,i % s.images.length=k:=⟨(i % s.images.length).toNat,by omega⟩
 have sm:=bD i s.images.length (by omega) (by omega);rw [hk] at sm k2;have hkl:k<s.images.length:=by omega
 have hv:ImgV (s.images.getD k default) (aN s.bits):=by
  have:=hO.im k (by omega) (by omega);rw [cH,Int.toNat_natCast] at this;exact this
 have hf:=hv.f;obtain ⟨z1,z2⟩:=hsz k hkl;obtain ⟨hfit,b1,b2,b3,b4,b5,hb⟩:=jf hf;have hpb:=Mc n b1 b2;have hP:Part (s.images.getD k default) (eT (s.images.getD k default).w (s.images.getD k default).h n):=⟨hpb.1,hpb.2.1,hpb.2.2.1,hpb.2.2.2.1,hpb.2.2.2.2.1,hpb.2.2.2.2.2⟩
 obtain ⟨e1,e2,e3⟩:=tR hf hP;have hch:=NK s k hkl (by omega) n r hr hf z1 z2;have hlen:((aY r (eM (eT (s.images.getD k default).w (s.images.getD k default).h n)).toNat (js s.bits)).length:Int)=eM (eT (s.images.getD k default).w (s.images.getD k default).h n):=by
  have:0≤eM (eT (s.images.getD k default).w (s.images.getD k default).h n):=by rw [e3];exact au (by omega) (by omega)
  rw [LJ];omega
 have hlv:∀ i,i<(aY r (eM (eT (s.images.getD k default).w (s.images.getD k default).h n)).toNat (js s.bits)).length→PixV ((aY r (eM (eT (s.images.getD k default).w (s.images.getD k default).h n)).toNat (js s.bits)).getD i default) (aN s.bits):=fun i hi=>by
  have e:∀ N,i<(aY r N (js s.bits)).length→(aY r N (js s.bits)).getD i default=uq r (js s.bits) i:=fun N hN=>by
   have:i<N:=by simpa [aY] using hN
   simp [aY,this]
  rw [e _ hi,hmx];exact JH r i hm0
 have hlen:=hlen.trans e3;generalize aY r (eM (eT (s.images.getD k default).w (s.images.getD k default).h n)).toNat (js s.bits)=L at *
 have hat:=VV hf hP hlen;have hcv:=a4n (r:=eT (s.images.getD k default).w (s.images.getD k default).h n) hv hlv;generalize mc (s.images.getD k default) (eT (s.images.getD k default).w (s.images.getD k default).h n) L=img at *
 generalize eT (s.images.getD k default).w (s.images.getD k default).h n=R at *
 have hT:=Yl hO hkl hcv;have e0:(gu s).1=0:=by rw [Dr hO.V]
 have hdi:=yD s hgl k R ⟨by omega,by omega⟩;have hd2:(fE s k R).2=0:=by
  unfold fE;rw [if_neg (by simp [e0]),if_neg (by omega)]
 rw [hd2] at hdi;have hcov:cS s.canvas (fE s k R).1=true:=by
  have h1:=Cu (lK hsm) (Cx (s:=s) (i:=k) (R:=R));cases he:aM (fE s k R).1 with
  | true=>rw [cS,he];rfl
  | false =>
   rw [vH he];rw [he,Bool.false_or] at h1;exact h1
 have hval:∀ x y,jo (eJ s k img).canvas x y→¬ zb (fE s k R).1 x y→ch s x y=ch (eJ s k img) x y:=fun x y hxy q=>by
  have hxy:jo s.canvas x y:=hxy;have em:cH s (k:Int)=s.images.getD k default:=by rw [cH,Int.toNat_natCast]
  have C:=hO.pt (x:=x) (y:=y) (by rw [← hO.cv];exact hxy);exact Pw C hkl (R:=R) (by rw [em];omega) (by rw [em];omega) (by rw [em];exact hat) e0 q
 have hup:=ug (cU s) (eJ s k img) (fE s k R).1 hT.ev (fun _=>hsm);have hck:bz (eJ s k img)=(0,0):=pP hT.V hT.im;obtain ⟨q1,q2,q3⟩:=vY (s:=s) hsm;obtain ⟨w1,w2⟩:=Gd (s:=s) hsm;have hue:fG (cU s) (eJ s k img) (fE s k R).1=0:=by
  unfold fG;rw [hck,if_neg (by decide),if_pos ⟨by rw [Iw,q1];exact mT q2 q3,w1,w2⟩];exact if_pos hcov
 have hui:lT (cU s) (eJ s k img) (fE s k R).1=cU (eJ s k img):=by
  unfold lT;rw [hue,if_pos rfl];exact Kk hsm rfl hcov hval
 rw [hue,hui] at hup;have r1:=hO.rendB;have r2:=hT.rendB;have hsame:=mJ (cU (eJ s k img)) (Mv hT.small);have haw:=uY;generalize cU (eJ s k img)=M at *
 generalize cU s=N at *
 generalize eJ s k img=t at *
 generalize (fE s k R).1=q at *
 refine az Tryz.func4 [.tmp 8] ?_;repeat' (first|with_reducible exact cz|refine aj ht ?_|refine bL ?_|((first|refine an (fun K hK => ?_)|refine pj ?_|refine aa (hg) ?_|refine aA (fun hg=>hg) ?_|refine aa (sm) ?_|refine aA (fun hg=>sm) ?_|refine aa (hch) ?_|refine aA (fun hg=>hch) ?_|refine aa (r1) ?_|refine aA (fun hg=>r1) ?_|refine aa (r2) ?_|refine aA (fun hg=>r2) ?_|refine aa (hdi) ?_|refine aA (fun hg=>hdi) ?_|refine aa (hup) ?_|refine aA (fun hg=>hup) ?_|refine aa (haw) ?_|refine aA (fun hg=>haw) ?_|refine aa (hsame) ?_|refine aA (fun hg=>hsame) ?_);and_intros;all_goals first|(refine hK _ ?_;clear hK K)|try exact ai)|((first|apply dC|apply dE);(case hf=>rfl);(case hc=>exact du);(all_goals first|(intro hb;(try simp only [nR] at hb))|skip))|exact bd|(refine aH (fun hb => ?_) (fun hb => ?_);all_goals try exact ax)|refine eo (fun KB hB => ?_)|(refine hB _ ?_;clear hB KB)|refine gM (S:=Sg) (by assumption) ?_|(refine bF ?_;(try clear hB KB);(try clear hK K)))
 refine congrArg (fun b=>SV.b (B b)) (?_:_=true);simp only [beq_self_eq_true,Bool.and_self,Bool.true_and,Bool.false_or]
end Go.Proofs.YtdjmpacladhijaaGreatDoor
