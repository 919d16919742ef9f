/- Part of the proof: SlN, TE, W0, VK, LS, RK, RM, LT, N2. -/
import Derived.Test.YtcbifofjjpfbcaaGreatDoorM34
set_option linter.unusedSimpArgs false
set_option linter.unusedVariables false
set_option maxRecDepth 16000
set_option maxHeartbeats 8000000
namespace Go.SL
open Go
section
variable {S:Env} {ops:Array Oper} {rest:List Oper} {st:St} {K:St→Prop} {d:Option Nat} {ty:TypeId} {pos:String} {af:Array Edge} {gd:Nat × Bool}
end
section
variable {S:Env} {ops:Array Oper} {rest:List Oper} {st:St} {K:St→Prop} {d:Option Nat} {ty:TypeId} {pos:String} {af:Array Edge} {j:Nat} {want:Bool} {bx:Nat→Option Bx} {ev:Operand→SV}
end
section
variable {S:Env} {ops:Array Oper} {rest:List Oper} {st:St} {K:St→Prop} {d:Option Nat} {ty:TypeId} {pos:String} {af:Array Edge} {j:Nat} {want:Bool}
end
section
variable {S:Env} {ops:Array Oper} {rest:List Oper} {st:St} {K:St→Prop} {d:Option Nat} {ty:TypeId} {pos:String} {af:Array Edge} {gd:Nat × Bool}
end
section
variable {S:Env} {st:St} {Q:AExit→St→Prop}
end
section
variable {S:Env} {st:St} {f:FuncId} {args args':List BV} {K:SV→St→Prop}
theorem Ih {X:SV} (h:aA S f args' (fun r=>r=X)) (ha:gq (args.map (ep st.bx)) args') (hl:gu args') (hf:X.flat) (hk:K X st) (hp:S.rcv (f+1000000)=false:=by rfl):en S st f args (Sl.of K) :=
 .lend args' _ h ha (bS hl) hf hk hp
end
section
variable {nx:Nat}
end
end Go.SL
namespace Go.Proofs.YtcbifofjjpfbcaaGreatDoor
open Go Go.SL
open Go.RowKit (wrap64)
theorem Mm {c:Scene} {s:Script} (b:s.bits=(ay c).bits) (c':s.canvas=ar c) (w:s.tileW=cd c) (h:s.tileH=cc c) (o:s.order=(ay c).order) (n2:s.images.length≤64) (n3:s.ops.length≤4096):bL s=0:=Nr b c' w h o n2 n3
def bu (p:Plane) (e:Nat):Plane :=
 ⟨p.w,p.h,p.w+e,(List.range (p.h.toNat * (p.w.toNat+e))).map fun i=>if i % (p.w.toNat+e)<p.w.toNat then p.s.getD (i / (p.w.toNat+e) * p.stride.toNat+i % (p.w.toNat+e)) 0 else 40000+i⟩
theorem Ie {p:Plane} {e x y:Nat} (hx:x<p.w.toNat) (hy:y<p.h.toNat):(bu p e).s.getD (y * (p.w.toNat+e)+x) 0=p.s.getD (y * p.stride.toNat+x) 0:=by
 have h1:(y+1) * (p.w.toNat+e)≤p.h.toNat * (p.w.toNat+e):=Nat.mul_le_mul (by omega) (Nat.le_refl _);rw [Nat.succ_mul] at h1;have h2:(y * (p.w.toNat+e)+x) % (p.w.toNat+e)=x:=by rw [Nat.mul_comm,Nat.mul_add_mod];exact Nat.mod_eq_of_lt (by omega)
 have h3:(y * (p.w.toNat+e)+x) / (p.w.toNat+e)=y:=by rw [Nat.mul_comm,Nat.mul_add_div (by omega),Nat.div_eq_of_lt (by omega),Nat.add_zero]
 unfold bu;simp only [List.getD_eq_getElem?_getD,List.getElem?_map];rw [List.getElem?_range (by omega)];simp only [Option.map_some,Option.getD_some,h2,h3,if_pos hx]
def cR (more:Int) (k:Nat):Nat:=(lx (Go.IntKind.i64.wrap (more+k)) 4).toNat
def cf (m:Image) (more:Int):Image :=
 if m.solid=true then m else { m with p0:=bu m.p0 (cR more 0),p1:=bu m.p1 (cR more 1),p2:=bu m.p2 (cR more 2),p3:=bu m.p3 (cR more 3),p4:=bu m.p4 (cR more 4) }
theorem gE (more:Int) (k:Nat):cR more k≤3:=by
 unfold cR lx;rw [if_neg (by decide)];omega
theorem kB {m:Image} {p:Plane} {e:Nat} (hs:m.solid=false) (he:e≤3) (hw:m.w≤1000) (hh:m.h≤1000) (h:aL m p=true):aL m (bu p e)=true∧p.w=m.w∧p.h=m.h:=by
 unfold aL cW at *
 rw [hs,if_neg (by decide)] at *
 simp only [Bool.and_eq_true,decide_eq_true_eq] at h ⊢;obtain ⟨⟨⟨⟨⟨hf,h1⟩,h2⟩,h3⟩,h4⟩,h5⟩:=h;obtain ⟨b1,b2,b3,b4,b5,b6⟩:=dB hf;refine ⟨⟨⟨⟨⟨⟨hf, ?_⟩, ?_⟩, ?_⟩,h4⟩,h5⟩,h4,h5⟩
 ·show p.w≤p.w+e;omega
 ·show p.w+e≤16777216;omega
 ·show (p.h - 1) * (p.w+e)+p.w≤((bu p e).s.length:Int)
  have e1:(bu p e).s.length=p.h.toNat * (p.w.toNat+e):=by simp [bu]
  rw [e1,Int.natCast_mul,Int.natCast_add,Int.toNat_of_nonneg (by omega),Int.toNat_of_nonneg (by omega),Int.sub_mul,Int.one_mul];omega
theorem wv {m:Image} {more:Int}:(cf m more).w=m.w∧(cf m more).h=m.h∧(cf m more).solid=m.solid∧(cf m more).color=m.color:=by
 unfold cf;split <;> exact ⟨rfl,rfl,rfl,rfl⟩
theorem oO {m:Image} {more:Int} (hw:m.w≤1000) (hh:m.h≤1000) (h:bd m=true):bd (cf m more)=true:=by
 cases hs:m.solid with
 | true=>rw [cf,if_pos hs];exact h
 | false =>
  rw [cf,if_neg (by rw [hs];decide)];unfold bd at h ⊢;simp only [Bool.and_eq_true] at h ⊢;obtain ⟨h0,⟨⟨⟨⟨f0,f1⟩,f2⟩,f3⟩,f4⟩,f5⟩:=h;exact ⟨h0,⟨⟨⟨⟨(kB hs (gE more 0) hw hh f0).1,(kB hs (gE more 1) hw hh f1).1⟩,(kB hs (gE more 2) hw hh f2).1⟩,(kB hs (gE more 3) hw hh f3).1⟩,(kB hs (gE more 4) hw hh f4).1⟩,f5⟩
theorem tO {m:Image} {more x y:Int} (h:bd m=true) (hw:m.w≤1000) (hh:m.h≤1000) (hx:0≤x) (hxw:x<m.w) (hy:0≤y) (hyh:y<m.h):eZ (cf m more) x y=eZ m x y:=by
 cases hs:m.solid with
 | true=>rw [cf,if_pos hs]
 | false =>
  have h':=h;unfold bd at h';simp only [Bool.and_eq_true] at h';obtain ⟨h0,⟨⟨⟨⟨f0,f1⟩,f2⟩,f3⟩,f4⟩,f5⟩:=h';obtain ⟨X,hX⟩:=Int.eq_ofNat_of_zero_le hx;obtain ⟨Y,hY⟩:=Int.eq_ofNat_of_zero_le hy;have key:∀ (p:Plane) (e:Nat),aL m p=true→e≤3→(bu p e).s.getD (y * (bu p e).stride+x).toNat 0=p.s.getD (y * p.stride+x).toNat 0:=fun p e hp he=>by
   obtain ⟨_,q1,q2⟩:=kB hs he hw hh hp;have hst:0≤p.stride:=by
    unfold aL cW at hp;rw [hs,if_neg (by decide)] at hp;simp only [Bool.and_eq_true,decide_eq_true_eq] at hp;omega
   have e1:(y * (bu p e).stride+x).toNat=Y * (p.w.toNat+e)+X:=by
    show (y * (p.w+e)+x).toNat=_;rw [hX,hY,show p.w=((p.w.toNat:Nat):Int) by omega,← Int.natCast_add,← Int.natCast_mul,← Int.natCast_add,Int.toNat_natCast,Int.toNat_natCast]
   have e2:(y * p.stride+x).toNat=Y * p.stride.toNat+X:=by rw [hX,hY,show p.stride=((p.stride.toNat:Nat):Int) by omega,← Int.natCast_mul,← Int.natCast_add,Int.toNat_natCast,Int.toNat_natCast]
   rw [e1,e2];exact Ie (by omega) (by omega)
  rw [cf,if_neg (by rw [hs];decide)];unfold eZ;rw [if_neg (by rw [hs];decide),if_neg (by show ¬ m.solid=true;rw [hs];decide)];dsimp only;rw [key _ _ f0 (gE more 0),key _ _ f1 (gE more 1),key _ _ f2 (gE more 2),key _ _ f3 (gE more 3),key _ _ f4 (gE more 4)]
theorem EZ {m:Image} {more:Int} (h:bd m=true) (hw:m.w≤1000) (hh:m.h≤1000) (x y:Int):cU (cf m more) x y=cU m x y:=by
 obtain ⟨e1,e2,_,_⟩:=wv (m:=m) (more:=more);unfold cU;rw [oO hw hh h,h,e1,e2];by_cases c:true=false∨x<0∨m.w≤x∨y<0∨m.h≤y
 ·rw [if_pos c,if_pos c]
 ·rw [if_neg c,if_neg c];exact tO h hw hh (by omega) (by omega) (by omega) (by omega)
theorem HC {m:Image} {more mx:Int} (hw:m.w≤1000) (hh:m.h≤1000) (h:ImgV m mx):ImgV (cf m more) mx:=by
 obtain ⟨e1,e2,_,_⟩:=wv (m:=m) (more:=more);refine ⟨oO hw hh h.f,fun x y h1 h2 h3 h4 => ?_⟩;rw [e1] at h2;rw [e2] at h4;rw [tO h.f hw hh h1 h2 h3 h4];exact h.p x y h1 h2 h3 h4
def eM (s:Script) (more:Int):Script := { s with images:=s.images.map fun m=>cf m more }
theorem tC {s:Script} {more i:Int} (h0:0≤i) (h1:i<s.images.length):gV (eM s more) i=cf (gV s i) more:=by
 have hi:i.toNat<s.images.length:=by omega
 unfold gV eM;dsimp only;rw [List.getD_eq_getElem?_getD,List.getD_eq_getElem?_getD,List.getElem?_map,List.getElem?_eq_getElem hi];rfl
theorem Cs {s t:Script} (h1:s.bits=t.bits) (h2:s.ops=t.ops) (h3:s.images.length=t.images.length) (h:∀ i:Int,0≤i→i<s.images.length→∀ x y,cU (gV s i) x y=cU (gV t i) x y) (x y:Int):dS s x y=dS t x y:=by
 have key:cY s x y=cY t x y:=by
  funext o;unfold cY;refine Prod.ext ?_ ?_
  ·dsimp only;rw [← h3];split
   ·rename_i c;rw [pd,pd,h _ c.2.1 c.2.2]
   ·rfl
  ·dsimp only;rw [← h3];split
   ·rename_i c;rw [pd,pd,h _ (by omega) (by omega)]
   ·rfl
 unfold dS;rw [key,h1,h2]
theorem CT {s t:Script} (hc:Small s.canvas) (e:t.canvas=s.canvas) (h:∀ x y,ic s.canvas x y→dS t x y=dS s x y):cN t=cN s:=by
 have hp:dI t ((s.canvas.x1 - s.canvas.x0) * (s.canvas.y1 - s.canvas.y0)).toNat=dI s ((s.canvas.x1 - s.canvas.x0) * (s.canvas.y1 - s.canvas.y0)).toNat:=by
  refine List.map_congr_left fun q hq => ?_;rw [List.mem_range] at hq;unfold HR;rw [e];refine h _ _ ?_;obtain ⟨x0,x1,y0,y1,hw,hh⟩:=hc;obtain ⟨W,hW⟩:∃ W:Nat,(W:Int)=s.canvas.x1 - s.canvas.x0:=⟨(s.canvas.x1 - s.canvas.x0).toNat,by omega⟩
  obtain ⟨H,hH⟩:∃ H:Nat,(H:Int)=s.canvas.y1 - s.canvas.y0:=⟨(s.canvas.y1 - s.canvas.y0).toNat,by omega⟩
  rw [← hW,← hH,← Int.natCast_mul,Int.toNat_natCast] at hq;have eW:(s.canvas.x1 - s.canvas.x0).toNat=W:=by omega
  rw [eW];have q1:=Nat.mod_lt q (show W>0 by omega);have q2:=Nat.div_lt_of_lt_mul hq;unfold ic;generalize q % W=a at *
  generalize q / W=b at *
  omega
 unfold cN;rw [e,hp]
theorem QE (c:Scene) {k:Nat} (hk:k<(ay c).images.length):((ay c).images.getD k default).w≤5∧((ay c).images.getD k default).h≤4:=by
 have hmem:(ay c).images.getD k default ∈ aO c:=by
  rw [List.getD_eq_getElem?_getD,List.getElem?_eq_getElem hk];exact List.getElem_mem _
 generalize (ay c).images.getD k default=q at hmem;have hs:=cJ c;unfold aO at hmem;split at hmem
 ·rw [List.mem_singleton.1 hmem];show 1+c.w % 5≤5∧1+c.h % 4≤4;omega
 ·unfold aX at hmem;obtain ⟨p,_,rfl⟩:=List.mem_map.1 hmem;have:=Lp (p:=p) hs;unfold jd;split
  ·show gW p (ar c)≤5∧gH p (ar c)≤4;omega
  ·show gW p (ar c)≤5∧gH p (ar c)≤4;omega
theorem Dt {c:Scene} {s:Script} (h:Of c s) {i:Nat} (hi:i<s.images.length):bd (s.images.getD i default)=true:=by
 have:=(h.im i (by omega) (by omega)).f;unfold gV at this;rw [Int.toNat_natCast] at this;exact this
theorem Fu {c:Scene} {s:Script} (h:Of c s) (hsz:∀ k,k<s.images.length→(s.images.getD k default).w≤5∧(s.images.getD k default).h≤4) (more:Int):Of c (eM s more):=by
 have hl:(eM s more).images.length=s.images.length:=List.length_map ..;refine ⟨h.b,h.cv,h.w,h.h,h.o,by rw [hl];exact h.n1,by rw [hl];exact h.n2,fun i h0 h1 => ?_,⟨h.V.wf,fun i hi => ?_,by rw [hl];exact h.V.imgs,h.V.cnt, ?_⟩,h.op⟩
 ·rw [hl] at h1;rw [tC h0 h1];obtain ⟨n,rfl⟩:=Int.eq_ofNat_of_zero_le h0;have q:=hsz n (by omega);have e:gV s (n:Int)=s.images.getD n default:=by unfold gV;rw [Int.toNat_natCast]
  refine HC ?_ ?_ (h.im n h0 h1)
  ·rw [e];omega
  ·rw [e];omega
 ·rw [hl];exact h.V.ok i hi
 ·exact Mm h.b h.cv h.w h.h h.o (by rw [hl];have:=h.n2;omega) (by have:=h.V.cnt;exact this)
theorem xN {c:Scene} {s:Script} (h:Of c s) (hsz:∀ k,k<s.images.length→(s.images.getD k default).w≤5∧(s.images.getD k default).h≤4) (more x y:Int):dS s x y=dS (eM s more) x y:=by
 have hl:s.images.length=(eM s more).images.length:=by simp only [eM,List.length_map]
 have hb:s.bits=(eM s more).bits:=by simp only [eM]
 have ho:s.ops=(eM s more).ops:=by simp only [eM]
 refine Cs hb ho hl (fun i h0 h1 a b => ?_) x y;rw [tC h0 h1];obtain ⟨n,rfl⟩:=Int.eq_ofNat_of_zero_le h0;have q:=hsz n (by omega);have e:gV s (n:Int)=s.images.getD n default:=by unfold gV;rw [Int.toNat_natCast]
 rw [EZ (by rw [e];exact Dt h (by omega)) (by rw [e];omega) (by rw [e];omega)]
theorem PO {s:Script} {m x y:Int} (C:Pt s m x y):PixV (dS s x y) m:=by
 have ha:=EW C s.ops.length (Nat.le_refl _);have e:jP m (cY s x y) s.ops s.ops.length=mJ m (cY s x y) s.ops [base]:=by unfold jP;rw [List.take_length]
 obtain ⟨t,r,q⟩:=ha.ne;rw [q] at ha;unfold dS;rw [C.mx,← e,q];exact mN C.hm ha.v.head.v
def xR (more:Int) (l:List Image) (i:Nat):Nat→Nat→PV:=fun a j=>if a<i then (aI (cf (l.getD a default) more)).getD j .any else (aI (l.getD a default)).getD j .any
theorem Rh {more:Int} {l:List Image} {i j:Nat}:xR more l i i j=(aI (l.getD i default)).getD j .any:=if_neg (Nat.lt_irrefl i)
theorem Jq {more:Int} {l:List Image}:xR more l 0=bK aI l:=by
 funext a j;exact if_neg (Nat.not_lt_zero a)
theorem Nh {more:Int} {l:List Image} {a j:Nat} (ha:a<l.length):xR more l l.length a j=bK aI (l.map fun m=>cf m more) a j:=by
 have e:(l.map fun m=>cf m more).getD a default=cf (l.getD a default) more:=by simp [List.getD_eq_getElem?_getD,List.getElem?_map,List.getElem?_eq_getElem ha]
 unfold xR bK;rw [if_pos ha,e]
theorem Hq {more:Int} {l:List Image} {i j:Nat}:xR more l (i+1) i j=(aI (cf (l.getD i default) more)).getD j .any:=if_pos (Nat.lt_succ_self i)
theorem LN {more:Int} {l:List Image} {i a j:Nat} (h:a≠i):xR more l i a j=xR more l (i+1) a j:=by
 unfold xR;by_cases q:a<i
 ·rw [if_pos q,if_pos (by omega)]
 ·rw [if_neg q,if_neg (by omega)]
theorem US {s:Script} {m:Int} {r:Rect} (hr:Small r) (C:∀ x y,ic r x y→Pt s m x y):ImgV (lT s r) m:=by
 obtain ⟨e,hf,hl⟩:=uO (s:=s) hr;rw [e];refine GU hf hl fun p hp => ?_;obtain ⟨x0,x1,y0,y1,hw,hh⟩:=hr;unfold bC at hp;obtain ⟨q,hq,rfl⟩:=List.mem_map.1 hp;have hq:=List.mem_range.1 hq;obtain ⟨W,hW⟩:∃ W:Nat,(W:Int)=r.x1 - r.x0:=⟨(r.x1 - r.x0).toNat,by omega⟩
 obtain ⟨H,hH⟩:∃ H:Nat,(H:Int)=r.y1 - r.y0:=⟨(r.y1 - r.y0).toNat,by omega⟩
 rw [← hW,← hH,← Int.natCast_mul,Int.toNat_natCast] at hq;have eW:(r.x1 - r.x0).toNat=W:=by omega
 have q1:=Nat.mod_lt q (show W>0 by omega);have q2:=Nat.div_lt_of_lt_mul hq;unfold zJ;rw [eW];refine PO (C _ _ ?_);unfold ic;generalize q % W=a at *
 generalize q / W=b at *
 omega
section
attribute [local go_sem] Int.toNat_natCast Nat.add_zero cA
theorem BX (s : Script) (r : Rect) (hs : ScriptLen s) (hr : Small r) (hP : ∀ x y, ic r x y → ∃ m, Pt s m x y) :
  iV Sg 38 [ag (aF s),ag (aQ r)] 37 5 ((r.x1 - r.x0) * (r.y1 - r.y0)).toNat (bK aS (bC s r ((r.x1 - r.x0) * (r.y1 - r.y0)).toNat)):=by
 obtain ⟨x0,x1,y0,y1,hw,hh⟩:=hr;have ht:True:=trivial;obtain ⟨W,hW⟩:∃ W:Nat,(W:Int)=r.x1 - r.x0:=⟨(r.x1 - r.x0).toNat,by omega⟩
 obtain ⟨H,hH⟩:∃ H:Nat,(H:Int)=r.y1 - r.y0:=⟨(r.y1 - r.y0).toNat,by omega⟩
 have eWH:((r.x1 - r.x0) * (r.y1 - r.y0)).toNat=H * W:=by rw [← hW,← hH,← Int.natCast_mul,Int.toNat_natCast,Nat.mul_comm]
 have eW:(r.x1 - r.x0).toNat=W:=by omega
 have hle:∀ a,a≤H→a * W≤20:=fun a ha=>Nat.le_trans (Nat.mul_le_mul ha (Nat.le_refl W)) (Nat.le_trans (Nat.mul_le_mul (show H≤4 by omega) (show W≤5 by omega)) (by decide));have hval:∀ a k,a<H→k<W→aA Sg 66 [ag (aF s),I (r.x0+(k:Nat)),I (r.y0+(a:Nat))] (fun q=>q = .b (ag (aS (zJ s r (a * W+k))))):=fun a k ha hk=>by
  obtain ⟨m,C⟩:=hP (r.x0+k) (r.y0+a) (by unfold ic;omega);have e1:(a * W+k) % W=k:=by rw [Nat.mul_comm,Nat.mul_add_mod];exact Nat.mod_eq_of_lt hk
  have e2:(a * W+k) / W=a:=by rw [Nat.mul_comm,Nat.mul_add_div (by omega),Nat.div_eq_of_lt hk];omega
  have:=xe s _ _ m C hs ⟨by omega,by omega⟩ ⟨by omega,by omega⟩;unfold zJ;rw [eW,e1,e2];exact this
 rw [eWH];refine Ef Tryz.func38 rfl (rs:=[.tmp 4]) rfl rfl fG (by decide +kernel) (Nat.le_of_ble_eq_true rfl) (bS bG) ?_;repeat' (first|with_reducible exact bq|refine ah ht ?_|refine bU ?_|((first|refine an (fun K hK => ?_)|refine fc ?_);and_intros;all_goals first|(refine hK _ ?_;clear hK K)|try exact ai)|((first|apply bn|apply ba);(case hf=>rfl);(case hc=>exact bM);(all_goals first|(intro hb;(try simp only [gL] at hb))|skip))|exact aG|(refine aK (fun hb => ?_) (fun hb => ?_);all_goals try exact aE)|refine aU (fun KB hB => ?_)|(refine hB _ ?_;clear hB KB)|refine bt (S:=Sg) (by assumption) ?_|(refine ct ?_;(try clear hB KB);(try clear hK K)))
 refine aH (X:=Nat) (fun a=>aT [(2, .b (.c (.ptr 0 0))),(3, .b (.c (.ptr 1 0))),(5, .b (.c (.own 2 (a * W)))),(6, .b (I (r.y0+a)))] [(0, .fix ((aF s).map CV.p)),(1, .fix ((aQ r).map CV.p)),(2, .arr 37 5 (a * W) (bK aS (bC s r (a * W))))] 3) (fun a=>a≤H) (fun a=>H - a) 0 ?_ ?_ ?_
 ·exact Nat.zero_le _
 ·refine au [(1,some 1),(2,none)] ?_ ?_;and_intros;all_goals try exact aj
  all_goals exact .inl (congrArg (fun z=>PV.val (Value.int IntKind.i64 z)) (by omega))
 intro a haH;rcases Nat.lt_or_ge a H with ha|ha
 ·have g1:decide (r.y0+(a:Int)<r.y1)=true:=decide_eq_true (by omega);repeat' (first|with_reducible exact bq|refine ah g1 ?_|refine bU ?_|((first|refine an (fun K hK => ?_)|refine fc ?_);and_intros;all_goals first|(refine hK _ ?_;clear hK K)|try exact ai)|((first|apply bn|apply ba);(case hf=>rfl);(case hc=>exact bM);(all_goals first|(intro hb;(try simp only [gL] at hb))|skip))|exact aG|(refine aK (fun hb => ?_) (fun hb => ?_);all_goals try exact aE)|refine aU (fun KB hB => ?_)|(refine hB _ ?_;clear hB KB)|refine bt (S:=Sg) (by assumption) ?_|(refine ct ?_;(try clear hB KB);(try clear hK K)))
  refine aH (X:=Nat) (fun k=>aT [(2, .b (.c (.ptr 0 0))),(3, .b (.c (.ptr 1 0))),(5, .b (.c (.own 2 (a * W+k)))),(6, .b (I (r.y0+a))),(7, .b (I (r.x0+k)))] [(0, .fix ((aF s).map CV.p)),(1, .fix ((aQ r).map CV.p)),(2, .arr 37 5 (a * W+k) (bK aS (bC s r (a * W+k))))] 3) (fun k=>k≤W) (fun k=>W - k) 0 ?_ ?_ ?_
  ·exact Nat.zero_le _
  ·refine au [(1,some 1),(2,some 2)] ?_ ?_;and_intros;all_goals try exact aj
   all_goals exact .inl (congrArg (fun z=>PV.val (Value.int IntKind.i64 z)) (by omega))
  intro k hkW;have hb1:=hle (a+1) (by omega);rw [Nat.succ_mul] at hb1;rcases Nat.lt_or_ge k W with hk|hk
  ·have g2:decide (r.x0+(k:Int)<r.x1)=true:=decide_eq_true (by omega);have hv:=hval a k ha hk;generalize hq:zJ s r (a * W+k)=q at *
   repeat' (first|with_reducible exact bq|refine ah g2 ?_|refine bU ?_|((first|refine an (fun K hK => ?_)|refine fc ?_|refine aa (hv) ?_|refine aw (fun hg=>hv) ?_);and_intros;all_goals first|(refine hK _ ?_;clear hK K)|try exact ai)|((first|apply bn|apply ba);(case hf=>rfl);(case hc=>exact bM);(all_goals first|(intro hb;(try simp only [gL] at hb))|skip))|exact aG|(refine aK (fun hb => ?_) (fun hb => ?_);all_goals try exact aE)|refine aU (fun KB hB => ?_)|(refine hB _ ?_;clear hB KB)|refine bt (S:=Sg) (by assumption) ?_|(refine ct ?_;(try clear hB KB);(try clear hK K)))
   rw [ae];refine ak (k+1) ?_ (by omega) (by omega);have key:=fun g hg=>cL (enc:=aS) (xs:=bC s r (a * W+k)) (x:=q) (s:=5) (g:=g) hg;simp only [eG] at key;have e:bC s r (a * W+(k+1))=bC s r (a * W+k) ++ [q]:=by rw [← hq];exact rK
   refine au [(1,some 1),(2,some 4)] ?_ ?_;and_intros;all_goals try exact aj
   ·exact .inl (congrArg (fun z=>PV.val (Value.int IntKind.i64 z)) (by omega))
   ·refine .inr fun i hi j hj => ?_;rw [e];refine key _ (fun j hj => ?_) i hi j hj;have:j=0∨j=1∨j=2∨j=3∨j=4:=by omega
    rcases this with rfl|rfl|rfl|rfl|rfl <;> rfl
  ·have g2:decide (r.x0+(k:Int)<r.x1)=false:=decide_eq_false (by omega);repeat' (first|with_reducible exact bq|refine ah g2 ?_|refine bU ?_|((first|refine an (fun K hK => ?_)|refine fc ?_);and_intros;all_goals first|(refine hK _ ?_;clear hK K)|try exact ai)|((first|apply bn|apply ba);(case hf=>rfl);(case hc=>exact bM);(all_goals first|(intro hb;(try simp only [gL] at hb))|skip))|exact aG|(refine aK (fun hb => ?_) (fun hb => ?_);all_goals try exact aE)|refine aU (fun KB hB => ?_)|(refine hB _ ?_;clear hB KB)|refine bt (S:=Sg) (by assumption) ?_|(refine ct ?_;(try clear hB KB);(try clear hK K)))
   rw [ae];refine ak (a+1) ?_ (by omega) (by omega);have hkW2:k=W:=by omega
   have e2:a * W+k=(a+1) * W:=by rw [hkW2,Nat.succ_mul]
   rw [e2];refine au [(1,some 1),(2,some 2)] ?_ ?_;and_intros;all_goals try exact aj
   all_goals exact .inl (congrArg (fun z=>PV.val (Value.int IntKind.i64 z)) (by omega))
 ·have g1:decide (r.y0+(a:Int)<r.y1)=false:=decide_eq_false (by omega);have:a=H:=by omega
  subst this;repeat' (first|with_reducible exact bq|refine ah g1 ?_|refine bU ?_|((first|refine an (fun K hK => ?_)|refine fc ?_);and_intros;all_goals first|(refine hK _ ?_;clear hK K)|try exact ai)|((first|apply bn|apply ba);(case hf=>rfl);(case hc=>exact bM);(all_goals first|(intro hb;(try simp only [gL] at hb))|skip))|exact aG|(refine aK (fun hb => ?_) (fun hb => ?_);all_goals try exact aE)|refine aU (fun KB hB => ?_)|(refine hB _ ?_;clear hB KB)|refine bt (S:=Sg) (by assumption) ?_|(refine ct ?_;(try clear hB KB);(try clear hK K)))
  refine ⟨_,rfl,fun i hi j hj => ?_⟩;have:j=0∨j=1∨j=2∨j=3∨j=4:=by omega
  rcases this with rfl|rfl|rfl|rfl|rfl <;> exact ⟨_,rfl,rfl⟩
def Ny (s:Script) (k:Nat):List CV:=[.p (PI s.bits), .p (PI s.canvas.x0), .p (PI s.canvas.y0), .p (PI s.canvas.x1), .p (PI s.canvas.y1), .p (PI s.tileW), .p (PI s.tileH), .p (eI s.order), .own k s.images.length, .p (yU s.ops)]
theorem vU {s:Script} {k N:Nat} {bx:Nat→Option Bx} (hb:bx k=some (.arr 43 28 N (bK aI s.images))) (hN:s.images.length≤N):ep bx (.agg (Ny s k))=ag (aF s):=by
 have h:fK bx (.own k s.images.length) = .p (tx s.images):=by
  unfold fK;simp only [hb,if_pos hN];rfl
 unfold ep Ny;simp only [List.map_cons,List.map_nil,ml,h];rfl
attribute [local go_sem] Ny
theorem WQ (a b:Int):SV.flat (.tup [I a,I b]):=fun v hv=>by
 rcases List.mem_cons.1 hv with rfl|hv
 ·trivial
 ·rcases List.mem_cons.1 hv with rfl|hv
  ·trivial
  ·cases hv
theorem EN {st : St} {f : FuncId} {X : SV} {K : SV → St → Prop} {q : Prop} (s : Script) (k N : Nat) (hN : s.images.length ≤ N) (h : aA Sg f [ag (aF s)] (fun r => r = X)) (hf : X.flat) (hk : q)
  (hb:st.bx k=some (.arr 43 28 N (bK aI s.images)):=by (first|(simp (maxSteps:=999999)(disch:=omega) only [go_sem];done)|(simp (maxSteps:=999999)(disch:=omega) only [go_sem];rfl)|rfl|(simp (maxSteps:=999999)(disch:=omega) only [go_sem];assumption)|(simp (maxSteps:=999999)(disch:=omega) only [go_sem];(repeat (refine (if_neg ?_).trans ?_;(focus omega)));assumption)|fail)) (hp:Sg.rcv (f+1000000)=false:=by rfl)
  (w:q→K X st:=by (first|(intro h;first|(simp (maxSteps:=999999)(disch:=omega) only [go_sem];exact h)|exact h)|fail)):en Sg st f [.agg (Ny s k)] (Sl.of K) :=
 Ih h (by
  rw [List.map_cons,List.map_nil,vU hb hN]
  exact ⟨fun _ _ _ _ h=>h,trivial⟩) bG hf (w hk) hp
theorem Jd {st : St} {K : SV → St → Prop} {q : Prop} (s : Script) (r : Rect) (k N : Nat) (hN : s.images.length ≤ N) {P : List Pixel} (h : iV Sg 38 [ag (aF s), ag (aQ r)] 37 5 P.length (bK aS P)) (hk : q)
  (hb:st.bx k=some (.arr 43 28 N (bK aI s.images)):=by (first|(simp (maxSteps:=999999)(disch:=omega) only [go_sem];done)|(simp (maxSteps:=999999)(disch:=omega) only [go_sem];rfl)|rfl|(simp (maxSteps:=999999)(disch:=omega) only [go_sem];assumption)|(simp (maxSteps:=999999)(disch:=omega) only [go_sem];(repeat (refine (if_neg ?_).trans ?_;(focus omega)));assumption)|fail)) (hr:Sg.rcv 38=true:=by rfl)
  (hwf:∀ i,st.nx≤i→st.bx i=none:=by (first|(intro iw hiw;(try simp (maxSteps:=999999)(disch:=omega) only [go_sem] at hiw ⊢);(repeat (refine Eq.trans (if_neg ?_) ?_;(focus omega)));(first|rfl|(apply_assumption;omega)))|fail))
  (w:q→K (.b (.c (.p (pX P)))) st:=by (first|(intro h;first|(simp (maxSteps:=999999)(disch:=omega) only [go_sem];exact h)|exact h)|fail)) :
  en Sg st 38 [.agg (Ny s k),ag (aQ r)] (Sl.of K) :=
 .inl _ st.bx st.nx (GC h st.bx st.nx (by
  rw [List.map_cons,List.map_cons,List.map_nil,vU hb hN]
  exact ⟨fun _ _ _ _ h=>h,fun _ _ _ _ h=>h,trivial⟩) (bS bG)) hr hwf (w hk) (Nat.le_refl _)
theorem Bf (bx : Nat → Option Bx) (nx : Nat) (s : Script) (k N : Nat) (hb : bx k = some (.arr 43 28 N (bK aI s.images))) (hN : s.images.length ≤ N) (hkn : k < nx) (hs : ScriptLen s) (hsm : Small s.canvas) (h0 : aW s = (0, 0)) (hT : Full (bg s.bits) ∧ ∀ m ∈ s.images, AW m (bg s.bits))
  (C:∀ x y,ic s.canvas x y→∃ m,Pt s m x y) (hw:∀ i,nx≤i→bx i=none) :
  lU Sg bx nx 11 [.agg (Ny s k)] (.tup [ag (aI (cN s)),I 0,I 0]) bx (nx+3):=by
 have ht:True:=trivial;have h1:=nE s hs (fun _=>hT);rw [h0] at h1;have hl:((s.canvas.x1 - s.canvas.x0) * (s.canvas.y1 - s.canvas.y0)).toNat≤20:=by
  have:=Int.mul_le_mul hsm.w.2 hsm.h.2 (by have:=hsm.h;omega) (by decide:(0:Int)≤5);omega
 have h3:=kh (s.canvas.x1 - s.canvas.x0) (s.canvas.y1 - s.canvas.y0) (bC s s.canvas ((s.canvas.x1 - s.canvas.x0) * (s.canvas.y1 - s.canvas.y0)).toNat) (by rw [eG];omega);have hM:dd (s.canvas.x1 - s.canvas.x0) (s.canvas.y1 - s.canvas.y0) (bC s s.canvas ((s.canvas.x1 - s.canvas.x0) * (s.canvas.y1 - s.canvas.y0)).toNat)=cN s:=rfl;rw [hM] at h3;have h2:iV Sg 38 [ag (aF s),ag (aQ s.canvas)] 37 5 (bC s s.canvas ((s.canvas.x1 - s.canvas.x0) * (s.canvas.y1 - s.canvas.y0)).toNat).length (bK aS (bC s s.canvas ((s.canvas.x1 - s.canvas.x0) * (s.canvas.y1 - s.canvas.y0)).toNat)):=by
  rw [eG];exact BX s s.canvas hs hsm C
 generalize bC s s.canvas ((s.canvas.x1 - s.canvas.x0) * (s.canvas.y1 - s.canvas.y0)).toNat=P at *
 obtain ⟨s1,s2,s3,s4,s5,s6⟩:=id hsm;generalize cN s=M at *
 refine ku Tryz.func11 rfl (rs:=[.cell 2 43, .tmp 3, .tmp 4]) rfl rfl fG (by decide +kernel) (Nat.le_of_ble_eq_true rfl) ?_ (fun kf => ?_)
 ·intro v hv;rw [List.mem_singleton.1 hv];intro c hc;unfold Ny at hc;simp only [List.mem_cons,List.not_mem_nil,or_false] at hc;rcases hc with rfl|rfl|rfl|rfl|rfl|rfl|rfl|rfl|rfl|rfl;all_goals first|trivial|exact hkn
 have hh:ep bx (.agg (Ny s k))=ag (aF s):=vU hb hN;have hk1:k≠nx:=by omega
 have hk2:k≠nx+1:=by omega
 have hk3:k≠nx+2:=by omega
 repeat' (first|with_reducible exact bq|refine ah ht ?_|refine bU ?_|((first|refine an (fun K hK => ?_)|refine fc ?_|refine EN s k N hN h1 (WQ 0 0) ?_);and_intros;all_goals first|(refine hK _ ?_;clear hK K)|try exact ai)|((first|apply bn|apply ba);(case hf=>rfl);(case hc=>exact bM);(all_goals first|(intro hb;(try simp only [gL] at hb))|skip))|exact aG|(refine aK (fun hb => ?_) (fun hb => ?_);all_goals try exact aE)|refine aU (fun KB hB => ?_)|(refine hB _ ?_;clear hB KB)|refine bt (S:=Sg) (by assumption) ?_|(refine ct ?_;(try clear hB KB);(try clear hK K)))
 refine xm (id:=4) (.ho 0 true (.ho 1 true (.ho 3 true (.ho 4 true (.ho 7 true (.ho 8 true (.ho 10 true (.ho 11 true (.ho 15 true (.ho 2 false (.ho 5 false (.ho 6 true (.ho 9 false (.ho 12 false (.ho 13 true (.ho 14 false (.ho 16 false (.br 17 (.br 18 (.ho 19 true (.ho 20 true (.ho 21 true (.br 22 (.br 23 (.ho 24 true .leaf) .nil) .nil)))) (.br 22 (.br 18 (.ho 19 true (.ho 20 true (.ho 21 true (.br 23 (.ho 24 true .leaf) .nil)))) .nil) .nil)) (.br 22 (.br 17 (.br 18 (.ho 19 true (.ho 20 true (.ho 21 true (.br 23 (.ho 24 true .leaf) .nil)))) .nil) .nil) .nil))))))))))))))))))) (by decide +kernel) (fun K0 hW => ?_);replace hW:=iS hW;repeat' (first|exact sQ|(refine sT (fun K' hK' => ?_))|(refine th_ho1 (fun K' hK' => ?_))|(refine zE (fun K' hK' => ?_) ?_)|(refine pk (hW _ ?_);clear hW)|((first|refine Jd s s.canvas k N hN h2 ?_|refine aa (h3) ?_|refine aw (fun hg=>h3) ?_);(try simp (maxSteps:=999999)(disch:=omega) only [go_sem]);and_intros;(all_goals first|(refine hK' _ ?_;clear hK' K')|(refine hK' _ ?_ ?_;clear hK' K';focus ((try simp only [List.map_cons,List.map_nil,fS]);and_intros;(all_goals first|exact jZ|(simp (maxSteps:=999999)(disch:=omega) only [go_sem];and_intros;(all_goals first|exact fU (by (first|(simp (maxSteps:=999999)(disch:=omega) only [go_sem];done)|(simp (maxSteps:=999999)(disch:=omega) only [go_sem];rfl)|rfl))|trivial|omega|skip))|skip)))|trivial|omega|exact Nat.le_of_ble_eq_true rfl|exact ai|skip))|(simp (maxSteps:=999999)(disch:=omega) only [go_sem];and_intros;(all_goals first|(refine hK' _ ?_;clear hK' K')|(refine hK' _ ?_ ?_;clear hK' K';focus ((try simp only [List.map_cons,List.map_nil,fS]);and_intros;(all_goals first|exact jZ|(simp (maxSteps:=999999)(disch:=omega) only [go_sem];and_intros;(all_goals first|exact fU (by (first|(simp (maxSteps:=999999)(disch:=omega) only [go_sem];done)|(simp (maxSteps:=999999)(disch:=omega) only [go_sem];rfl)|rfl))|trivial|omega|skip))|skip)))|trivial|omega|exact Nat.le_of_ble_eq_true rfl|exact ai|skip)))
 ·refine dJ ?_;repeat' (first|with_reducible exact bq|refine ah ht ?_|refine bU ?_|((first|refine an (fun K hK => ?_)|refine fc ?_);and_intros;all_goals first|(refine hK _ ?_;clear hK K)|try exact ai)|((first|apply bn|apply ba);(case hf=>rfl);(case hc=>exact bM);(all_goals first|(intro hb;(try simp only [gL] at hb))|skip))|exact aG|(refine aK (fun hb => ?_) (fun hb => ?_);all_goals try exact aE)|refine aU (fun KB hB => ?_)|(refine hB _ ?_;clear hB KB)|refine bt (S:=Sg) (by assumption) ?_|(refine ct ?_;(try clear hB KB);(try clear hK K)))
  refine ⟨rfl,fun i y hy => ?_⟩;have hi:i<nx:=Nat.lt_of_not_le fun q=>by rw [hw i q] at hy;cases hy
  refine dz ?_;repeat (refine (if_neg ?_).trans ?_;(focus omega))
  exact hy
 ·refine dJ ?_;repeat' (first|with_reducible exact bq|refine ah ht ?_|refine bU ?_|((first|refine an (fun K hK => ?_)|refine fc ?_);and_intros;all_goals first|(refine hK _ ?_;clear hK K)|try exact ai)|((first|apply bn|apply ba);(case hf=>rfl);(case hc=>exact bM);(all_goals first|(intro hb;(try simp only [gL] at hb))|skip))|exact aG|(refine aK (fun hb => ?_) (fun hb => ?_);all_goals try exact aE)|refine aU (fun KB hB => ?_)|(refine hB _ ?_;clear hB KB)|refine bt (S:=Sg) (by assumption) ?_|(refine ct ?_;(try clear hB KB);(try clear hK K)))
  refine ⟨rfl,fun i y hy => ?_⟩;have hi:i<nx:=Nat.lt_of_not_le fun q=>by rw [hw i q] at hy;cases hy
  refine dz ?_;repeat (refine (if_neg ?_).trans ?_;(focus omega))
  exact hy
 ·refine dJ ?_;repeat' (first|with_reducible exact bq|refine ah ht ?_|refine bU ?_|((first|refine an (fun K hK => ?_)|refine fc ?_);and_intros;all_goals first|(refine hK _ ?_;clear hK K)|try exact ai)|((first|apply bn|apply ba);(case hf=>rfl);(case hc=>exact bM);(all_goals first|(intro hb;(try simp only [gL] at hb))|skip))|exact aG|(refine aK (fun hb => ?_) (fun hb => ?_);all_goals try exact aE)|refine aU (fun KB hB => ?_)|(refine hB _ ?_;clear hB KB)|refine bt (S:=Sg) (by assumption) ?_|(refine ct ?_;(try clear hB KB);(try clear hK K)))
  refine ⟨rfl,fun i y hy => ?_⟩;have hi:i<nx:=Nat.lt_of_not_le fun q=>by rw [hw i q] at hy;cases hy
  refine dz ?_;repeat (refine (if_neg ?_).trans ?_;(focus omega))
  exact hy
theorem xQ {st : St} {K : SV → St → Prop} {q : Prop} (s : Script) (k N : Nat) (hN : s.images.length ≤ N) (hs : ScriptLen s) (hsm : Small s.canvas) (h0 : aW s = (0, 0)) (hT : Full (bg s.bits) ∧ ∀ m ∈ s.images, AW m (bg s.bits)) (C : ∀ x y, ic s.canvas x y → ∃ m, Pt s m x y) (hk : q)
  (hb:st.bx k=some (.arr 43 28 N (bK aI s.images)):=by (first|(simp (maxSteps:=999999)(disch:=omega) only [go_sem];done)|(simp (maxSteps:=999999)(disch:=omega) only [go_sem];rfl)|rfl|(simp (maxSteps:=999999)(disch:=omega) only [go_sem];assumption)|fail)) (hkn:k<st.nx:=by exact CJ)
  (hwf:∀ i,st.nx≤i→st.bx i=none:=by (first|(intro iw hiw;(try simp (maxSteps:=999999)(disch:=omega) only [go_sem] at hiw ⊢);(repeat (refine Eq.trans (if_neg ?_) ?_;(focus omega)));(first|rfl|(apply_assumption;omega)))|fail))
  (wk:q→K (.tup [ag (aI (cN s)),I 0,I 0]) (st.turn st.bx (st.nx+3)):=by (first|(intro h;first|(simp (maxSteps:=999999)(disch:=omega) only [go_sem];exact h)|exact h)|fail)) :
  en Sg st 11 [.agg (Ny s k)] (Sl.of K) :=
 eT (Bf st.bx st.nx s k N hb hN hkn hs hsm h0 hT C hwf) (by rfl) (fun i hi=>hwf i (by omega)) (by omega) (wk hk)
end
section
attribute [local go_sem] Int.toNat_natCast
def iB (m:Image) (k:Nat):Plane:=match k with
 | 0=>m.p0
 | 1=>m.p1
 | 2=>m.p2
 | 3=>m.p3
 | _=>m.p4
def nJ (m:Image) (more:Int) (k:Nat):Image:=match k with
 | 0=>m
 | 1 => { m with p0:=bu m.p0 (cR more 0) }
 | 2 => { m with p0:=bu m.p0 (cR more 0),p1:=bu m.p1 (cR more 1) }
 | 3 => { m with p0:=bu m.p0 (cR more 0),p1:=bu m.p1 (cR more 1),p2:=bu m.p2 (cR more 2) }
 | 4 => { m with p0:=bu m.p0 (cR more 0),p1:=bu m.p1 (cR more 1),p2:=bu m.p2 (cR more 2),p3:=bu m.p3 (cR more 3) }
 | _ => { m with p0:=bu m.p0 (cR more 0),p1:=bu m.p1 (cR more 1),p2:=bu m.p2 (cR more 2),p3:=bu m.p3 (cR more 3),p4:=bu m.p4 (cR more 4) }
theorem EE (m:Image) (more:Int) (hf:bd m=true) (hw:m.w≤5) (hh:m.h≤4):aA Sg 12 [ag (aI m),I more] (fun r=>r = .b (ag (aI (cf m more)))):=by
 have ht:True:=trivial;cases hs:m.solid with
 | true =>
  have e:cf m more=m:=by rw [cf,if_pos hs]
  rw [e];refine aD Tryz.func12 [.cell 4 43] ?_;repeat' (first|refine ah hs ?_|refine aC ?_)
  all_goals (try rfl)
 | false =>
  have e:cf m more=nJ m more 5:=by rw [cf,if_neg (by rw [hs];decide)];rfl
  rw [e];have hpl:∀ k,k<5→cW (iB m k)=true∧(iB m k).w=m.w∧(iB m k).h=m.h:=fun k hk=>by
   unfold bd aL at hf;simp only [hs,Bool.and_eq_true,Bool.false_eq_true,if_false,decide_eq_true_eq] at hf;obtain ⟨h0,⟨⟨⟨⟨⟨f0,f5⟩,f6⟩,f1⟩,f2⟩,f3⟩,f4⟩:=hf;have hk:k=0∨k=1∨k=2∨k=3∨k=4:=by omega
   rcases hk with rfl|rfl|rfl|rfl|rfl;all_goals (unfold iB;simp_all)
  refine aD Tryz.func12 [.cell 4 43] ?_;repeat' (first|refine ah hs ?_|refine aC ?_)
  refine aH (X:=Nat) (fun k=>aT [(1, .b (I more)),(2, .b (.c (.ptr 0 0))),(4, .b (.c (.ptr 1 0))),(5, .b (I k))] [(0, .fix ((aI (nJ m more k)).map CV.p)),(1, .fix (List.replicate 28 (.p .any)))] 2) (fun k=>k≤5) (fun k=>5 - k) 0 ?_ ?_ ?_
  ·omega
  ·refine au [(1,some 1)] ?_ ?_;and_intros;all_goals try exact aj
  intro k hk;rcases Nat.lt_or_ge k 5 with hk5|hk5
  ·have g0:decide ((k:Int)<5)=true:=decide_eq_true (by omega);repeat' (first|refine ax ?_|((with_reducible refine bN (id:=4) (fun K hW => ?_));(try simp (maxSteps:=999999)(disch:=omega) only [go_sem]);and_intros;all_goals first|(refine hK _ ?_;clear hK K)|try exact ai))
   refine hW _ (aT [(1, .b (I more)),(2, .b (.c (.ptr 0 0))),(4, .b (.c (.ptr 1 0))),(5, .b (I k)),(14, .b (B (decide ((k:Int)<5))))] [(0, .fix ((aI (nJ m more k)).map CV.p)),(1, .fix (List.replicate 28 (.p .any)))] 2) ?_ ?_
   ·refine au [(1,some 1)] ?_ ?_;and_intros;all_goals try exact aj
   clear hW;repeat' (first|refine aC ?_|refine ah g0 ?_)
   refine bN (id:=6) fun K hW => ?_;refine (fun (tl:∀ st,Le st (aT [(1, .b (I more)),(2, .b (.c (.ptr 0 0))),(4, .b (.c (.ptr 1 0))),(5, .b (I k)),(6, .b (.c (.ptr 2 0)))] [(0, .fix ((aI (nJ m more k)).map CV.p)),(1, .fix (List.replicate 28 (.p .any))),(2, .fix ((fj (iB m k)).map CV.p))] 3)→K st) => ?_) (fun st hl=>hW st _ hl ?_)
   ·clear hW;have hk:k=0∨k=1∨k=2∨k=3∨k=4:=by omega
    rcases hk with rfl|rfl|rfl|rfl|rfl;all_goals
     simp only [nJ,iB] at tl ⊢;refine dz ?_;refine And.intro (by omega) (tl _ ?_);refine au [(1,some 1),(2,some 2)] ?_ ?_;and_intros;all_goals try exact aj
   clear hW;obtain ⟨ho,hpw,hph⟩:=hpl k hk5;have hfit:=dB (show cK m.w m.h=true by unfold bd at hf;rw [Bool.and_eq_true] at hf;exact hf.1);have hmod:=ry (IntKind.i64.wrap (more+k)) 4 (by omega);have hE:lx (IntKind.i64.wrap (more+k)) 4=((cR more k:Nat):Int):=by
    unfold cR lx;rw [if_neg (by decide)];omega
   rw [hE] at hmod;have hE3:=gE more k;have fin:∀ k,k<5→fj (bu (iB m k) (cR more k))=fj (iB (nJ m more (k+1)) k):=fun k hk=>by
    have hk:k=0∨k=1∨k=2∨k=3∨k=4:=by omega
    rcases hk with rfl|rfl|rfl|rfl|rfl <;> rfl
   have hfin:=fin k hk5;clear fin;unfold cW at ho;simp only [Bool.and_eq_true,decide_eq_true_eq] at ho;obtain ⟨W,hW⟩:∃ W:Nat,m.w=W:=⟨m.w.toNat,by omega⟩
   obtain ⟨H,hH⟩:∃ H:Nat,m.h=H:=⟨m.h.toNat,by omega⟩
   rw [hW] at hpw;rw [hH] at hph;generalize hP:iB m k=P at *
   obtain ⟨pw,ph,ps,pl⟩:=P;dsimp only at hpw hph ho;subst hpw;subst hph;obtain ⟨T,hT⟩:∃ T:Nat,ps=T:=⟨ps.toNat,by omega⟩
   subst hT;generalize cR more k=E at *
   obtain ⟨S,hS⟩:∃ S:Nat,S=W+E:=⟨_,rfl⟩
   refine fw (id:=7) (.br 0 (.br 1 (.br 2 (.br 3 (.br 4 (.br 5 (.br 6 (.br 7 (.br 8 (.br 9 (.br 10 (.br 11 (.br 12 (.br 13 .leaf .nil) .nil) .nil) .nil) (.br 12 (.br 9 (.br 10 (.br 11 (.br 13 .leaf .nil) .nil) .nil) .nil) .nil)) .nil) .nil) .nil) .nil) .nil) .nil) .nil) .nil) .nil) (by decide +kernel) dK (fun K0 hW => ?_)
   refine (fun (tl:∀ st,Le st (aT [(1, .b (I more)),(2, .b (.c (.ptr 0 0))),(4, .b (.c (.ptr 1 0))),(5, .b (I k)),(6, .b (.c (.ptr 2 0))),(7, .b (.c (.ptr 3 0)))] [(0, .fix ((aI (nJ m more k)).map CV.p)),(1, .fix (List.replicate 28 (.p .any))),(2, .fix ((fj ⟨W,H,T,pl⟩).map CV.p)),
    (3, .fix [.p (PI W), .p (PI H), .p (PI S), .p EI])] 4)→K0 st) => ?_) (fun st hl=>hW st _ hl ?_)
   ·clear hW;repeat' (first|exact cg|(refine cH (fun K' hK' => ?_) ?_)|(refine bJ (tl _ ?_);clear tl)|(refine aa (hmod) ?_;(try simp (maxSteps:=999999)(disch:=omega) only [go_sem]);and_intros;(all_goals first|(refine hK' _ ?_;clear hK' K')|trivial|omega|exact Nat.le_of_ble_eq_true rfl|exact ai|skip))|(simp (maxSteps:=999999)(disch:=omega) only [go_sem];and_intros;(all_goals first|(refine hK' _ ?_;clear hK' K')|trivial|omega|exact Nat.le_of_ble_eq_true rfl|exact ai|skip)))
    all_goals
     refine au [(1,some 1),(2,some 2),(3,some 3)] ?_ ?_;and_intros;all_goals try exact aj
    all_goals exact .inl (by rw [hS];rfl)
   clear hW;repeat' (refine aC ?_)
   refine aH (X:=Nat) (fun i=>aT [(1, .b (I more)),(2, .b (.c (.ptr 0 0))),(4, .b (.c (.ptr 1 0))),(5, .b (I k)),(6, .b (.c (.ptr 2 0))),(7, .b (.c (.ptr 3 0))),(8, .b (I i))] [(0, .fix ((aI (nJ m more k)).map CV.p)),(1, .fix (List.replicate 28 (.p .any))),(2, .fix ((fj ⟨W,H,T,pl⟩).map CV.p)),
    (3, .fix [.p (PI W), .p (PI H), .p (PI S), .own 4 i]),(4, .arr 34 1 i (fun a _=>PU (if a % S<W then pl.getD (a / S * T+a % S) 0 else 40000+a)))] 5) (fun i=>i≤S * H) (fun i=>S * H - i) 0 ?_ ?_ ?_
   ·omega
   ·refine au [(1,some 1),(2,some 2),(3,some 3),(4,none)] ?_ ?_;and_intros;all_goals try exact aj
   have hb:=dB ho.1.1.1;have hS8:S≤8:=by omega
   have hSH:S * H≤8 * 4:=Nat.mul_le_mul hS8 (by omega);have hSHi:(S:Int) * (H:Int)=((S * H:Nat):Int):=rfl;intro i hi;rcases Nat.lt_or_ge i (S * H) with h|h
   ·have g1:decide ((i:Int)<(S:Int) * (H:Int))=true:=decide_eq_true (by rw [hSHi];omega);have hS0:0<S:=by omega
    have hq:i / S<H:=Nat.div_lt_of_lt_mul h;have hqT:i / S * T≤(H - 1) * T:=Nat.mul_le_mul_right _ (by omega);have hHT:(((H:Int) - 1) * (T:Int))=(((H - 1) * T:Nat):Int):=by rw [Int.natCast_mul,Int.natCast_sub (by omega)];rfl
    have hT2:i / S * T≤3 * 16777216:=Nat.mul_le_mul (by omega) (by omega);have hx0:(i:Int) / (S:Int) * (T:Int)=((i / S * T:Nat):Int):=rfl;have hx1:(i:Int) % (S:Int)=((i % S:Nat):Int):=rfl;have hx2:(i:Int) / (S:Int)=((i / S:Nat):Int):=rfl;have hq0:0≤(i:Int) / (S:Int):=by rw [hx2];exact Int.natCast_nonneg _
    have hp0:0≤(i:Int) / (S:Int) * (T:Int):=by rw [hx0];exact Int.natCast_nonneg _
    have hr0:0≤(i:Int) % (S:Int):=by rw [hx1];exact Int.natCast_nonneg _
    by_cases hlt:i % S<W
    ·have g2:decide ((i:Int) % (S:Int)<(W:Int))=true:=decide_eq_true (by rw [hx1];omega);have e1:IntKind.i64.wrap ((i:Int) / (S:Int))=(i:Int) / (S:Int):=fY (by rw [hx2];omega) (by rw [hx2];omega);have e2:IntKind.i64.wrap ((i:Int) / (S:Int) * (T:Int))=(i:Int) / (S:Int) * (T:Int):=fY (by rw [hx0];omega) (by rw [hx0];omega);have e3:IntKind.i64.wrap (IntKind.i64.wrap (IntKind.i64.wrap ((i:Int) / (S:Int)) * (T:Int))+(i:Int) % (S:Int))=((i / S * T+i % S:Nat):Int):=by
      rw [e1,e2,hx0,hx1];exact fY (by omega) (by omega)
     have hlen:i / S * T+i % S<pl.length:=by
      have:=ho.2;rw [hHT] at this;omega
     repeat' (first|refine ah (And.intro g1 g2) ?_|refine aC ?_)
     rw [ae];refine ak (i+1) ?_ (by omega) (by omega);refine au [(1,some 1),(2,some 2),(3,some 3),(4,some 6)] ?_ ?_;and_intros;all_goals try exact aj
     refine .inr fun a ha j hj => ?_;have hj0:j=0:=by omega
     subst hj0;unfold gY;by_cases hai:a<i
     ·rw [if_pos hai];exact PV.le_refl _
     ·have hai2:a=i:=by omega
      subst hai2;rw [if_neg hai,Nat.sub_self,if_pos hlt];have e4:(a:Int) / (S:Int) * (T:Int)+(a:Int) % (S:Int)=((a / S * T+a % S:Nat):Int):=by rw [hx0,hx1];rfl
      first
       | (simp only [e3,Int.toNat_natCast];exact PV.le_refl _)
       | (simp only [e4,Int.toNat_natCast];exact PV.le_refl _)
    ·have g2:decide ((i:Int) % (S:Int)<(W:Int))=false:=decide_eq_false (by rw [hx1];omega);repeat' (first|refine ah (And.intro g1 g2) ?_|refine aC ?_)
     rw [ae];refine ak (i+1) ?_ (by omega) (by omega);refine au [(1,some 1),(2,some 2),(3,some 3),(4,some 6)] ?_ ?_;and_intros;all_goals try exact aj
     refine .inr fun a ha j hj => ?_;have hj0:j=0:=by omega
     subst hj0;unfold gY;by_cases hai:a<i
     ·rw [if_pos hai];exact PV.le_refl _
     ·have hai2:a=i:=by omega
      subst hai2;rw [if_neg hai,Nat.sub_self,if_neg hlt];exact PV.le_refl _
   ·have g1:decide ((i:Int)<(S:Int) * (H:Int))=false:=decide_eq_false (by rw [hSHi];omega);have hi2:i=S * H:=by omega
    subst hi2;have hk4:k=0∨k=1∨k=2∨k=3∨k=4:=by omega
    have hs2:(bu ⟨W,H,T,pl⟩ E).s.length=S * H:=by
     unfold bu;simp only [List.length_map,List.length_range,Int.toNat_natCast];rw [hS,Nat.mul_comm]
    have hcell:∀ a,a<S * H→∀ j,j<1→PV.le (PU (if a % S<W then pl.getD (a / S * T+a % S) 0 else 40000+a)) (bK uC (bu ⟨W,H,T,pl⟩ E).s a j):=fun a ha j hj=>by
     have hj0:j=0:=by omega
     subst hj0;unfold bu bK uC;simp only [Int.toNat_natCast,List.getD_eq_getElem?_getD,List.getElem?_map];rw [List.getElem?_range (by rw [Nat.mul_comm,← hS];exact ha)];simp only [Option.map_some,Option.getD_some,← hS];exact PV.le_refl _
    have hp:fj (iB (nJ m more (k+1)) k)=[PI W,PI H,PI S, .lst 1 (S * H) (bK uC (bu ⟨W,H,T,pl⟩ E).s)]:=by
     rw [← hfin];show [PI W,PI H,PI ((W:Int)+E),PV.lst 1 (bu ⟨W,H,T,pl⟩ E).s.length _]=_;rw [hs2,hS];rfl
    rcases hk4 with rfl|rfl|rfl|rfl|rfl
    ·simp only [nJ,iB,fj,List.cons.injEq,PV.val.injEq,Value.int.injEq,true_and,and_true,PV.lst.injEq] at hp;obtain ⟨p1,p2,p3,p45⟩:=hp;have p6:=PV.lst.inj p45;have p4:=p6.2.1;have p5:=p6.2.2;repeat' (first|refine ah g1 ?_|refine aC ?_)
     rw [ae];refine ak 1 ?_ (by omega) (by omega);simp only [nJ];refine au [(1,some 1)] ?_ ?_;and_intros;all_goals try exact aj
     all_goals first
      | exact .inl (by rw [p1])
      | exact .inl (by rw [p2])
      | exact .inl (by rw [p3])
      | exact p4.symm
      | (intro i hi j hj;show PV.le _ (bK uC (bu m.p0 (cR more 0)).s i j);rw [p5];exact hcell i hi j hj)
    ·simp only [nJ,iB,fj,List.cons.injEq,PV.val.injEq,Value.int.injEq,true_and,and_true,PV.lst.injEq] at hp;obtain ⟨p1,p2,p3,p45⟩:=hp;have p6:=PV.lst.inj p45;have p4:=p6.2.1;have p5:=p6.2.2;repeat' (first|refine ah g1 ?_|refine aC ?_)
     rw [ae];refine ak 2 ?_ (by omega) (by omega);simp only [nJ];refine au [(1,some 1)] ?_ ?_;and_intros;all_goals try exact aj
     all_goals first
      | exact .inl (by rw [p1])
      | exact .inl (by rw [p2])
      | exact .inl (by rw [p3])
      | exact p4.symm
      | (intro i hi j hj;show PV.le _ (bK uC (bu m.p1 (cR more 1)).s i j);rw [p5];exact hcell i hi j hj)
    ·simp only [nJ,iB,fj,List.cons.injEq,PV.val.injEq,Value.int.injEq,true_and,and_true,PV.lst.injEq] at hp;obtain ⟨p1,p2,p3,p45⟩:=hp;have p6:=PV.lst.inj p45;have p4:=p6.2.1;have p5:=p6.2.2;repeat' (first|refine ah g1 ?_|refine aC ?_)
     rw [ae];refine ak 3 ?_ (by omega) (by omega);simp only [nJ];refine au [(1,some 1)] ?_ ?_;and_intros;all_goals try exact aj
     all_goals first
      | exact .inl (by rw [p1])
      | exact .inl (by rw [p2])
      | exact .inl (by rw [p3])
      | exact p4.symm
      | (intro i hi j hj;show PV.le _ (bK uC (bu m.p2 (cR more 2)).s i j);rw [p5];exact hcell i hi j hj)
    ·simp only [nJ,iB,fj,List.cons.injEq,PV.val.injEq,Value.int.injEq,true_and,and_true,PV.lst.injEq] at hp;obtain ⟨p1,p2,p3,p45⟩:=hp;have p6:=PV.lst.inj p45;have p4:=p6.2.1;have p5:=p6.2.2;repeat' (first|refine ah g1 ?_|refine aC ?_)
     rw [ae];refine ak 4 ?_ (by omega) (by omega);simp only [nJ];refine au [(1,some 1)] ?_ ?_;and_intros;all_goals try exact aj
     all_goals first
      | exact .inl (by rw [p1])
      | exact .inl (by rw [p2])
      | exact .inl (by rw [p3])
      | exact p4.symm
      | (intro i hi j hj;show PV.le _ (bK uC (bu m.p3 (cR more 3)).s i j);rw [p5];exact hcell i hi j hj)
    ·simp only [nJ,iB,fj,List.cons.injEq,PV.val.injEq,Value.int.injEq,true_and,and_true,PV.lst.injEq] at hp;obtain ⟨p1,p2,p3,p45⟩:=hp;have p6:=PV.lst.inj p45;have p4:=p6.2.1;have p5:=p6.2.2;repeat' (first|refine ah g1 ?_|refine aC ?_)
     rw [ae];refine ak 5 ?_ (by omega) (by omega);simp only [nJ];refine au [(1,some 1)] ?_ ?_;and_intros;all_goals try exact aj
     all_goals first
      | exact .inl (by rw [p1])
      | exact .inl (by rw [p2])
      | exact .inl (by rw [p3])
      | exact p4.symm
      | (intro i hi j hj;show PV.le _ (bK uC (bu m.p4 (cR more 4)).s i j);rw [p5];exact hcell i hi j hj)
  ·have g0:decide ((k:Int)<5)=false:=decide_eq_false (by omega);have hk2:k=5:=by omega
   subst hk2;repeat' (first|refine ah g0 ?_|refine aC ?_)
   rfl
end
section
attribute [local go_sem] Int.toNat_natCast jX KX Ds Rh Ny
theorem An (c:Scene) (hc:SceneOk c) (more:Int):aA Sg 3 [ag (fi c),I more] (fun r=>r = .b (B true)):=by
 have ht:True:=trivial;have hg:=qS c hc;have hO:=UZ c;have hsz:=fun k hk=>QE c (k:=k) hk;have hT:=Fu hO hsz more;have hsm:Small (ay c).canvas:=cJ c;have hn2:=hO.n2;have h0:=hO.render;have h1:=hT.rend;have hsame:cN (eM (ay c) more)=cN (ay c):=CT hsm rfl fun x y _=>(xN hO hsz more x y).symm;rw [hsame] at h1;have C:∀ x y,ic (ay c).canvas x y→Pt (ay c) (cl c.bits) x y:=fun x y h=>hO.pt h;have hv:ImgV (cN (ay c)) (cl c.bits):=US hsm C;have h3:aA Sg 14 [I (ay c).bits] (fun x=>x = .tup [U (cl c.bits),B (decide ((ay c).bits=8∨(ay c).bits=16))]):=by
  have:=iQ (ay c).bits;rw [show (if (ay c).bits=8 then (255:Int) else if (ay c).bits=16 then 65535 else 0)=bg (ay c).bits from rfl,hO.mx] at this;exact this
 have h4:=lZ (cN (ay c)) (cl c.bits) (Am c) hv;have h5:=fv (cN (ay c)) (wH hsm);have haw:=pW;have hs:∀ i,i<(ay c).images.length→aA Sg 12 [ag (aI ((ay c).images.getD i default)),I more] (fun r=>r = .b (ag (aI (cf ((ay c).images.getD i default) more)))):=fun i hi =>
  EE _ more (Dt hO hi) (hsz i hi).1 (hsz i hi).2
 have hl:(eM (ay c) more).images.length=(ay c).images.length:=by simp [eM]
 have hchk:aW (ay c)=(0,0):=mM hO.V hO.im;have full_of:Full (bg (ay c).bits):=by rw [hO.mx];exact Am c
 generalize ay c=s at *
 have he:=hO.ev;have hck:aW s=(0,0):=hchk;refine aD Tryz.func3 [.tmp 4] ?_;repeat' (first|with_reducible exact bq|refine ah ht ?_|refine bU ?_|((with_reducible refine bN (id:=2) (fun K hW => ?_));(try simp (maxSteps:=999999)(disch:=omega) only [go_sem]);and_intros;all_goals first|(refine hK _ ?_;clear hK K)|try exact ai)|((first|refine an (fun K hK => ?_)|refine fc ?_|refine Fs (hg) ?_|refine xQ s 1 s.images.length (Nat.le_refl _) he.len hsm hck ⟨full_of,fun m hm=>(he.im hO.V.frame m hm).1⟩ (fun x y h=>⟨_,C x y h⟩) ?_);and_intros;all_goals first|(refine hK _ ?_;clear hK K)|try exact ai)|((first|apply bn|apply ba);(case hf=>rfl);(case hc=>exact bM);(all_goals first|(intro hb;(try simp only [gL] at hb))|skip))|exact aG|(refine aK (fun hb => ?_) (fun hb => ?_);all_goals try exact aE)|refine aU (fun KB hB => ?_)|(refine hB _ ?_;clear hB KB)|refine bt (S:=Sg) (by assumption) ?_|(refine ct ?_;(try clear hB KB);(try clear hK K)))
 generalize cN s=M at *
 refine hW _ (aT [(1, .b (I more)),(4, .b (B false)),(5, .b (.c (.ptr 2 0))),(6, .b (.c (.ptr 3 0)))] [(1, .arr 43 28 s.images.length (xR more s.images 0)),
  (2, .fix [.p (PI s.bits), .p (PI s.canvas.x0), .p (PI s.canvas.y0), .p (PI s.canvas.x1), .p (PI s.canvas.y1), .p (PI s.tileW), .p (PI s.tileH), .p (eI s.order), .own 1 s.images.length, .p (yU s.ops)]),(3, .fix ((aI M).map CV.p))] 4) ?_ ?_
 ·refine au [(1,some 1),(2,some 2),(3,some 6)] ?_ ?_;and_intros;all_goals try exact aj
  all_goals exact .inl Jq.symm
 clear hW;repeat' (first|with_reducible exact bq|refine ah ht ?_|refine bU ?_|((first|refine an (fun K hK => ?_)|refine fc ?_);and_intros;all_goals first|(refine hK _ ?_;clear hK K)|try exact ai)|((first|apply bn|apply ba);(case hf=>rfl);(case hc=>exact bM);(all_goals first|(intro hb;(try simp only [gL] at hb))|skip))|exact aG|(refine aK (fun hb => ?_) (fun hb => ?_);all_goals try exact aE)|refine aU (fun KB hB => ?_)|(refine hB _ ?_;clear hB KB)|refine bt (S:=Sg) (by assumption) ?_|(refine ct ?_;(try clear hB KB);(try clear hK K)))
 refine aH (X:=Nat) (fun i=>aT [(1, .b (I more)),(4, .b (B false)),(5, .b (.c (.ptr 2 0))),(6, .b (.c (.ptr 3 0))),(9, .b (I i))] [(1, .arr 43 28 s.images.length (xR more s.images i)),
  (2, .fix [.p (PI s.bits), .p (PI s.canvas.x0), .p (PI s.canvas.y0), .p (PI s.canvas.x1), .p (PI s.canvas.y1), .p (PI s.tileW), .p (PI s.tileH), .p (eI s.order), .own 1 s.images.length, .p (yU s.ops)]),(3, .fix ((aI M).map CV.p))] 4) (fun i=>i≤s.images.length) (fun i=>s.images.length - i) 0 ?_ ?_ ?_
 ·omega
 ·refine au [(1,some 1),(2,some 2),(3,some 3)] ?_ ?_;and_intros;all_goals try exact aj
 intro i hi;rcases Nat.lt_or_ge i s.images.length with h|h
 ·have g0:decide ((i:Int)<s.images.length)=true:=decide_eq_true (by omega);have hsi:=hs i h;repeat' (first|with_reducible exact bq|refine ah g0 ?_|refine bU ?_|((first|refine an (fun K hK => ?_)|refine fc ?_|refine aa (hsi) ?_|refine aw (fun hg=>hsi) ?_);and_intros;all_goals first|(refine hK _ ?_;clear hK K)|try exact ai)|((first|apply bn|apply ba);(case hf=>rfl);(case hc=>exact bM);(all_goals first|(intro hb;(try simp only [gL] at hb))|skip))|exact aG|(refine aK (fun hb => ?_) (fun hb => ?_);all_goals try exact aE)|refine aU (fun KB hB => ?_)|(refine hB _ ?_;clear hB KB)|refine bt (S:=Sg) (by assumption) ?_|(refine ct ?_;(try clear hB KB);(try clear hK K)))
  rw [ae];refine ak (i+1) ?_ (by omega) (by omega);refine au [(1,some 1),(2,some 2),(3,some 3)] ?_ ?_;and_intros;all_goals try exact aj
  all_goals
   refine .inr fun a ha j hj => ?_;by_cases hai:a=i
   ·subst hai;rw [if_pos rfl,if_pos ⟨Nat.zero_le _,hj⟩,Hq];have hivl:j=0∨j=1∨j=2∨j=3∨j=4∨j=5∨j=6∨j=7∨j=8∨j=9∨j=10∨j=11∨j=12∨j=13∨j=14∨j=15∨j=16∨j=17∨j=18∨j=19∨j=20∨j=21∨j=22∨j=23∨j=24∨j=25∨j=26∨j=27:=by omega
    rcases hivl with rfl|rfl|rfl|rfl|rfl|rfl|rfl|rfl|rfl|rfl|rfl|rfl|rfl|rfl|rfl|rfl|rfl|rfl|rfl|rfl|rfl|rfl|rfl|rfl|rfl|rfl|rfl|rfl <;> exact PV.le_refl _
   ·rw [if_neg hai,LN hai];exact PV.le_refl _
 ·have g0:decide ((i:Int)<s.images.length)=false:=decide_eq_false (by omega);have hi2:i=s.images.length:=by omega
  subst hi2;repeat' (first|with_reducible exact bq|refine ah g0 ?_|refine bU ?_|((with_reducible refine bN (id:=4) (fun K hW => ?_));(try simp (maxSteps:=999999)(disch:=omega) only [go_sem]);and_intros;all_goals first|(refine hK _ ?_;clear hK K)|try exact ai)|((first|refine an (fun K hK => ?_)|refine fc ?_);and_intros;all_goals first|(refine hK _ ?_;clear hK K)|try exact ai)|((first|apply bn|apply ba);(case hf=>rfl);(case hc=>exact bM);(all_goals first|(intro hb;(try simp only [gL] at hb))|skip))|exact aG|(refine aK (fun hb => ?_) (fun hb => ?_);all_goals try exact aE)|refine aU (fun KB hB => ?_)|(refine hB _ ?_;clear hB KB)|refine bt (S:=Sg) (by assumption) ?_|(refine ct ?_;(try clear hB KB);(try clear hK K)))
  refine hW _ (aT [(27, .b (B (decide ((s.images.length:Int)<s.images.length)))),(4, .b (B false)),(5, .b (.c (.ptr 2 0))),(6, .b (.c (.ptr 3 0)))] [(2, .fix ((aF (eM s more)).map CV.p)),(3, .fix ((aI M).map CV.p))] 4) ?_ ?_
  ·refine au [(2,some 2),(3,some 3)] ?_ ?_;and_intros;all_goals try exact aj
   all_goals first
    | exact hl.symm
    | (refine fun a ha j hj => ?_;rw [Nh ha];exact PV.le_refl _)
  clear hW;repeat' (first|with_reducible exact bq|refine ah g0 ?_|refine bU ?_|((first|refine an (fun K hK => ?_)|refine fc ?_|refine aa (h1) ?_|refine aw (fun hg=>h1) ?_|refine aa (h3) ?_|refine aw (fun hg=>h3) ?_|refine aa (h4) ?_|refine aw (fun hg=>h4) ?_|refine aa (h5) ?_|refine aw (fun hg=>h5) ?_|refine aa (haw) ?_|refine aw (fun hg=>haw) ?_);and_intros;all_goals first|(refine hK _ ?_;clear hK K)|try exact ai)|((first|apply bn|apply ba);(case hf=>rfl);(case hc=>exact bM);(all_goals first|(intro hb;(try simp only [gL] at hb))|skip))|exact aG|(refine aK (fun hb => ?_) (fun hb => ?_);all_goals try exact aE)|refine aU (fun KB hB => ?_)|(refine hB _ ?_;clear hB KB)|refine bt (S:=Sg) (by assumption) ?_|(refine ct ?_;(try clear hB KB);(try clear hK K)))
  rfl
end
end Go.Proofs.YtcbifofjjpfbcaaGreatDoor
