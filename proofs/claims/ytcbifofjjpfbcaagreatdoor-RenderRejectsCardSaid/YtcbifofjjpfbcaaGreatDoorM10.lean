/- Part of the proof: F23, F3, F16. -/
import Derived.Test.YtcbifofjjpfbcaaGreatDoorM9
set_option linter.unusedSimpArgs false
set_option linter.unusedVariables false
set_option maxHeartbeats 8000000
set_option maxRecDepth 16000
namespace Go.Proofs.YtcbifofjjpfbcaaGreatDoor
open Go Go.SL
open Go.RowKit (wrap64)
def gW (p:Pic) (c:Rect):Int:=if p.w.tdiv 5 % 3=0 then c.x1 - c.x0 else 1+p.w % 5
def gH (p:Pic) (c:Rect):Int:=if p.w.tdiv 5 % 3=0 then c.y1 - c.y0 else 1+p.h % 4
def kr (w h:Int) (p:Pixel):Image:=⟨w,h,true,p,iY,iY,iY,iY,iY⟩
def jd (p:Pic) (c:Rect) (m:Int):Image :=
 if p.solid % 2=0 then kr (gW p c) (gH p c) (rX p.row m 0) else gQ (gW p c) (gH p c) (cV p.row (gW p c * gH p c).toNat m)
structure PicOk (p:Pic):Prop where
 w:i64 p.w
 h:i64 p.h
 solid:i64 p.solid
 row:RowOk p.row
structure Small (c:Rect):Prop where
 x0 : -10≤c.x0
 x1:c.x1≤20
 y0 : -10≤c.y0
 y1:c.y1≤20
 w:1≤c.x1 - c.x0∧c.x1 - c.x0≤5
 h:1≤c.y1 - c.y0∧c.y1 - c.y0≤4
theorem Lp {p:Pic} {c:Rect} (hc:Small c):1≤gW p c∧gW p c≤5∧1≤gH p c∧gH p c≤4∧1≤gW p c * gH p c∧gW p c * gH p c≤20:=by
 have hw:=hc.w;have hh:=hc.h;have h1:1≤gW p c∧gW p c≤5∧1≤gH p c∧gH p c≤4:=by unfold gW gH;split <;> omega
 have h2:gW p c * gH p c≤5 * 4:=Int.mul_le_mul h1.2.1 h1.2.2.2 (by omega) (by omega);have h3:1 * 1≤gW p c * gH p c:=Int.mul_le_mul h1.1 h1.2.2.1 (by omega) (by omega);omega
theorem mK {w h:Int} {n:Nat} (hw:1≤w∧w≤5) (hh:1≤h∧h≤4) (hn:n=(w * h).toNat):cZ w h n=true:=by
 have hp:0≤w * h:=Int.mul_nonneg (by omega) (by omega);have hf:cK w h=true:=by
  rw [cK,decide_eq_true_eq];have:w=1∨w=2∨w=3∨w=4∨w=5:=by omega
  rcases this with rfl|rfl|rfl|rfl|rfl <;> omega
 rw [cZ,hf,decide_eq_true (by omega)];rfl
theorem vT (p:Pic) (c:Rect) (m:Int) (hp:PicOk p) (hc:Small c) (hm:u16 m):aA Sg 33 [ag (Km p),ag (aQ c),U m] (fun r=>r = .b (ag (aI (jd p c m)))):=by
 obtain ⟨⟨a1,a2⟩,⟨b1,b2⟩,⟨c1,c2⟩,hr⟩:=hp;have hl:=Lp (p:=p) hc;obtain ⟨x0,x1,y0,y1,hw,hh⟩:=hc;have hd:=vP (p.w.tdiv 5);rw [Cf a1 a2 (by omega)] at hd;refine aD Tryz.func33 [.cell 6 43] ?_;repeat' (first|refine ax ?_|((with_reducible refine bN (id:=4) (fun K hW => ?_));(try simp (maxSteps:=999999)(disch:=omega) only [go_sem]);and_intros;all_goals first|(refine hK _ ?_;clear hK K)|try exact ai)|refine an (fun K hK => ?_)|refine aa (bD _ _ (by omega) (by omega)) ?_|(apply bn;(case hf=>rfl);(case hc=>exact bM);(all_goals first|(intro hb;(try simp only [gL] at hb))|skip))|exact aG|(refine aq hK ?_;try clear hK K))
 have hlen:(cV p.row (gW p c * gH p c).toNat m).length=(gW p c * gH p c).toNat:=by simp [cV]
 refine uX ?_ ?_ bG (Da p.row (gW p c * gH p c) m hr (by omega) (by omega) hm);try simp (maxSteps:=999999)(disch:=omega) only [go_sem]
 try (refine hK _ ?_;clear hK K)
 ·refine hW _ (aT [(2, .b (U m)),(3, .b (.c (.ptr 0 0))),(4, .b (.c (.ptr 1 0))),(6, .b (.c (.ptr 2 0))),(7, .b (I (gW p c))),(8, .b (I (gH p c))),(9, .b (.c (.p (pX (cV p.row (gW p c * gH p c).toNat m)))))]
   [(0, .fix ((Km p).map CV.p)),(1, .fix ((aQ c).map CV.p)),(2, .fix ((List.range 28).map fun _=>CV.p .any))] 3) ?_ ?_
  ·clear hW;refine au [(1,some 1),(2,some 2)] ?_ ?_;and_intros;all_goals try exact aj
  ·clear hW;have hpl:0<(cV p.row (gW p c * gH p c).toNat m).length:=by omega
   repeat' (first|refine ax ?_|refine an (fun K hK => ?_)|refine aa (bD _ _ (by omega) (by omega)) ?_|refine aa (qG _ _ _) ?_|refine aa (kh _ _ _ (by omega)) ?_|(refine aK (fun hb => ?_) (fun hb => ?_) <;> try exact aE)|(refine aq hK ?_;try clear hK K))
   ·have e2:jd p c m=kr (gW p c) (gH p c) (rX p.row m 0):=by rw [jd,if_pos hb]
    have e:(cV p.row (gW p c * gH p c).toNat m).getD 0 default=rX p.row m 0:=by
     have:0<(gW p c * gH p c).toNat:=by omega
     simp [cV,this]
    rw [e2,e];rfl
   ·have e2:jd p c m=gQ (gW p c) (gH p c) (cV p.row (gW p c * gH p c).toNat m):=by rw [jd,if_neg hb]
    rw [e2,dd,if_pos (mK (by omega) (by omega) hlen)];rfl
 ·have e:IntKind.i64.wrap (gW p c * gH p c)=gW p c * gH p c:=fY (by omega) (by omega);show [_,I (IntKind.i64.wrap (gW p c * gH p c)),_]=_;rw [e];rfl
def oo (r:Raw) (push:Bool) (images:Int) (cx cy:Int) (free:Bool) (m:Int):Op :=
 { kind:=if push then 2 else 1,image:=if push then 0 else r.image % images,x:=if push then 0 else jC r.x cx,y:=if push then 0 else jC r.y cy,mask:=if r.mask % 4=0 then 1+r.mask.tdiv 4 % images else 0,maskX:=if r.mask % 4=0 then jC r.maskX cx else 0,maskY:=if r.mask % 4=0 then jC r.maskY cy else 0,opacity:=if r.opacity % 2=0 then de (r.opacity.tdiv 2) m else m,operator:=if free=true∧r.operator % 2=0 then 1+r.operator.tdiv 2 % 12 else 4,mode:=if r.mode % 2=0 then 1+r.mode.tdiv 2 % 12 else 1,isolated:=push && (r.flags % 2 == 0),knockout:=push && (r.flags.tdiv 2 % 3 == 0) }
structure RawOk (r:Raw):Prop where
 kind:i64 r.kind
 image:i64 r.image
 x:i64 r.x
 y:i64 r.y
 mask:i64 r.mask
 maskX:i64 r.maskX
 maskY:i64 r.maskY
 opacity:i64 r.opacity
 operator:i64 r.operator
 mode:i64 r.mode
 flags:i64 r.flags
theorem gK (n c:Int):c - 4≤jC n c∧jC n c≤c+4:=by unfold jC;split <;> omega
set_option maxHeartbeats 4000000 in
theorem GD (r : Raw) (push : Bool) (images : Int) (c : Rect) (free : Bool) (m : Int) (hr : RawOk r) (hi1 : 1 ≤ images) (hi2 : images ≤ 1000000) (hc1 : -2000000000 ≤ c.x0) (hc2 : c.x0 ≤ 2000000000) (hc3 : -2000000000 ≤ c.y0) (hc4 : c.y0 ≤ 2000000000) (hm : u16 m) :
  aA Sg 35 [ag (NU r),B push,I images,ag (aQ c),B free,U m] (fun x=>x = .b (ag (fZ (oo r push images c.x0 c.y0 free m)))):=by
 obtain ⟨⟨a1,a2⟩,⟨b1,b2⟩,⟨c1,c2⟩,⟨d1,d2⟩,⟨e1,e2⟩,⟨f1,f2⟩,⟨g1,g2⟩,⟨h1,h2⟩,⟨i1,i2⟩,⟨j1,j2⟩,⟨k1,k2⟩⟩:=hr;have q1:=gK r.x c.x0;have q2:=gK r.y c.y0;have q3:=gK r.maskX c.x0;have q4:=gK r.maskY c.y0;have q5:=fO (r.opacity.tdiv 2) m hm.1;have q6:=Int.emod_nonneg (r.mask.tdiv 4) (show images≠0 by omega);have q7:=Int.emod_lt_of_pos (r.mask.tdiv 4) (show 0<images by omega);have w1:=vP (r.opacity.tdiv 2);rw [Cf h1 h2 (by omega)] at w1;obtain ⟨hm1,hm2⟩:=hm;refine aD Tryz.func35 [.cell 12 74] ?_;repeat' (first|refine ax ?_|refine an (fun K hK => ?_)|refine aa (bD _ _ (by omega) (by omega)) ?_|refine aw (fun hg=>bD _ _ (by omega) (by omega)) ?_|refine aa (tE _ _ ⟨by omega,by omega⟩ ⟨by omega,by omega⟩) ?_|refine aa (Dn _ _ ⟨by omega,by omega⟩ (by omega) (by omega)) ?_|(apply bn;(case hf=>rfl);(case hc=>exact bM);(all_goals first|(intro hb;(try simp only [gL] at hb))|skip))|exact aG|(refine aq hK ?_;try clear hK K))
 cases push <;> cases free <;> simp [oo]
def bg (b:Int):Int:=if b=8 then 255 else if b=16 then 65535 else 0
def hZ (l:List Op):Bool:=l.isEmpty || ((l.getD (l.length - 1) default).isolated && !(l.getD (l.length - 1) default).knockout)
def gA (b:Int) (n:Nat) (o:Op) (l:List Op):Int :=
 if ¬ (1≤o.kind∧o.kind≤3) then 9
 else if gi o=false then 10
 else if o.kind=3∧l.length=0 then 18
 else if o.kind=3 then 0
 else if o.kind=1∧(o.image<0∨n≤o.image)∨o.mask<0∨n<o.mask then 11
 else if cj 1048576 [o.x,o.y,o.maskX,o.maskY]=false then 12
 else if bg b<o.opacity then 13
 else if ji o.operator=false then 14
 else if ji o.mode=false then 15
 else if o.operator≠4∧hZ l=false then 16
 else if o.kind=2∧64≤l.length then 17 else 0
def iv (s:Script) (i:Int) (l:List Op):Int:=if i<0∨s.ops.length≤i then 21 else gA s.bits s.images.length (s.ops.getD i.toNat default) l
theorem Dw {l:List Op}:hZ l=false↔0<l.length∧((l.getD (l.length - 1) default).knockout=true∨(l.getD (l.length - 1) default).isolated=false):=by
 cases l with
 | nil=>simp [hZ]
 | cons a r =>
  simp only [hZ,List.isEmpty_cons,Bool.false_or,Bool.and_eq_false_imp,Bool.not_eq_false',List.length_cons,Nat.zero_lt_succ,true_and];generalize ((a :: r).getD (r.length+1 - 1) default).isolated=x;generalize ((a :: r).getD (r.length+1 - 1) default).knockout=y;cases x <;> cases y <;> decide
theorem Mv {k a b c d:Int}:cj k [a,b,c,d]=false↔¬ (-k≤a∧a≤k ∧ -k≤b∧b≤k ∧ -k≤c∧c≤k ∧ -k≤d∧d≤k):=by
 rw [← Bool.not_eq_true];simp only [cj,List.all_cons,List.all_nil,Bool.and_true,Bool.and_eq_true,decide_eq_true_eq];omega
theorem Ei {o:Int}:(zZ o).toList=(ByteArray.mk #[]).toList↔ji o=false:=by
 obtain ⟨_,_,_,_,h⟩:=pI o;rw [← beq_iff_eq,h,ji,Bool.not_eq_true',decide_eq_false_iff_not]
theorem Ch {o:Int}:(zO o).toList=(ByteArray.mk #[]).toList↔ji o=false:=by rw [← beq_iff_eq,xG];simp
theorem xX (l:List Op) (hl:l.length≤4611686018427387904):aA Sg 154 [.c (.p (yU l))] (fun x=>x = .b (B (hZ l))):=AT l hl
theorem Lw (s:Script) (i:Int) (l:List Op) (hs:ScriptLen s) (hl:l.length≤4611686018427387904):aA Sg 111 [ag (aF s),I i, .c (.p (yU l))] (fun x=>x = .b (I (iv s i l))):=by
 obtain ⟨h1,h2,h3⟩:=hs;refine aD Tryz.func111 [.tmp 6] ?_
 repeat' (first|refine ax ?_|refine an (fun K hK => ?_)|refine aa (gG _) ?_|refine aa (Bz _) ?_|((first|apply bn|apply ba);(case hf=>rfl);(case hc=>exact bM);all_goals try (intro hb;try simp only [gL] at hb))|exact aG|(refine aK (fun hb => ?_) (fun hb => ?_) <;> try exact aE)|(refine aq hK ?_;try clear hK K))
 iterate 6
  ·refine EV ?_;simp only [iv,gA];generalize s.ops.getD i.toNat default=o at *
   repeat (first|(with_reducible rfl)|(refine Eq.symm (Eq.trans (if_pos ?_) (Eq.symm ?_));focus (first|(assumption;done)|omega|(simp [*];done)))|(refine Eq.symm (Eq.trans (if_neg ?_) (Eq.symm ?_));focus (first|(assumption;done)|omega|(simp [*];done)))|(refine Eq.symm (Eq.trans (if_neg ?_) (Eq.symm ?_));focus (grind;done))|(refine Eq.symm (Eq.trans (if_pos ?_) (Eq.symm ?_));focus (grind;done)))
 have ho:iv s i l=gA s.bits s.images.length (s.ops.getD i.toNat default) l:=by rw [iv,if_neg (by omega)]
 generalize s.ops.getD i.toNat default=o at *
 refine gF ?_ ?_ bG ?_ (yM [o.x,o.y,o.maskX,o.maskY] (by simp));try simp (maxSteps:=999999)(disch:=omega) only [go_sem]
 try (refine hK _ ?_;clear hK K)
 ·repeat' (first|refine ax ?_|refine an (fun K hK => ?_)|refine aa (CW _) ?_|refine aa (xE _) ?_|refine aw (fun hg=>xX _ (by omega)) ?_|(refine aK (fun hb => ?_) (fun hb => ?_) <;> try exact aE)|(refine aq hK ?_;try clear hK K))
  all_goals
   refine EV ?_;have hmx:bg s.bits=if s.bits=8 then 255 else if s.bits=16 then 65535 else 0:=rfl;rw [ho];simp only [gA];try simp only [Ei,Ch,Bool.not_eq_false] at *
   repeat (first|(with_reducible rfl)|(refine Eq.symm (Eq.trans (if_pos ?_) (Eq.symm ?_));focus (first|(assumption;done)|omega|(simp [*];done)))|(refine Eq.symm (Eq.trans (if_neg ?_) (Eq.symm ?_));focus (first|(assumption;done)|omega|(simp [*];done)))|(refine Eq.symm (Eq.trans (if_neg ?_) (Eq.symm ?_));focus (grind;done))|(refine Eq.symm (Eq.trans (if_pos ?_) (Eq.symm ?_));focus (grind;done)))
 ·simp (maxSteps:=1000000) (disch:=omega) only [go_sem,fA,fN];refine oG (gX fun i hi j hj => ?_);have h1:i=0∨i=1∨i=2∨i=3:=by omega
  have h2:j=0:=by omega
  subst h2;rcases h1 with rfl|rfl|rfl|rfl <;> rfl
 ·trivial
theorem Av (s:Script) (i:Int) (l:List Op) (hs:ScriptLen s) (hl:l.length≤4611686018427387904):aA Sg 102 [ag (aF s),I i, .c (.p (yU l))] (fun x=>x = .b (I (iv s i l))):=by
 obtain ⟨h1,h2,h3⟩:=hs;refine aD Tryz.func102 [.tmp 6] ?_
 repeat' (first|refine ax ?_|refine an (fun K hK => ?_)|refine aa (iQ _) ?_|refine aa (Ec _ (by omega) (by omega)) ?_|refine aa (pE _) ?_|refine aa (lB _) ?_|refine aa (vK _) ?_|refine aw (fun hg=>vK _) ?_|(refine aK (fun hb => ?_) (fun hb => ?_) <;> try exact aE)|(refine aq hK ?_;try clear hK K))
 all_goals
  refine EV ?_;have hmx:bg s.bits=if s.bits=8 then 255 else if s.bits=16 then 65535 else 0:=rfl;have e:((l.length:Int) - 1).toNat=l.length - 1:=by omega
  simp only [iv,gA,Mv,Dw];try simp only [e] at *
  generalize s.ops.getD i.toNat default=o at *
  repeat (first|(with_reducible rfl)|(refine Eq.symm (Eq.trans (if_pos ?_) (Eq.symm ?_));focus (first|(assumption;done)|omega|(simp [*];done)))|(refine Eq.symm (Eq.trans (if_neg ?_) (Eq.symm ?_));focus (first|(assumption;done)|omega|(simp [*];done)))|(refine Eq.symm (Eq.trans (if_neg ?_) (Eq.symm ?_));focus (grind;done))|(refine Eq.symm (Eq.trans (if_pos ?_) (Eq.symm ?_));focus (grind;done)))
end Go.Proofs.YtcbifofjjpfbcaaGreatDoor
