/- Part of the proof: F23, F16, U3, W2. -/
import Derived.Laws.Externs
import Derived.Test.YtdjmpacladhijaaGreatDoorM6
import Derived.Test.YtdjmpacladhijaaGreatDoorM8
set_option linter.unusedSimpArgs false
set_option linter.unusedVariables false
set_option maxHeartbeats 8000000
set_option maxRecDepth 16000
namespace Go.Proofs.YtdjmpacladhijaaGreatDoor
open Go Go.SL
open Go.RowKit (wrap64)
def gW (p:Pic) (c:Rect):Int:=if p.w.tdiv 5 % 3=0 then c.x1 - c.x0 else 1+p.w % 5
def gH (p:Pic) (c:Rect):Int:=if p.w.tdiv 5 % 3=0 then c.y1 - c.y0 else 1+p.h % 4
def jq (w h:Int) (p:Pixel):Image:=⟨w,h,true,p,kK,kK,kK,kK,kK⟩
def jR (p:Pic) (c:Rect) (m:Int):Image :=
 if p.solid % 2=0 then jq (gW p c) (gH p c) (uq p.row m 0) else gN (gW p c) (gH p c) (aY p.row (gW p c * gH p c).toNat m)
structure PicOk (p:Pic):Prop where
 w:i64 p.w
 h:i64 p.h
 solid:i64 p.solid
 row:RowOk p.row
structure Small (c:Rect):Prop where
 x0 : -2000≤c.x0
 x1:c.x1≤2000
 y0 : -2000≤c.y0
 y1:c.y1≤2000
 w:1≤c.x1 - c.x0∧c.x1 - c.x0≤5
 h:1≤c.y1 - c.y0∧c.y1 - c.y0≤4
theorem Ht {p:Pic} {c:Rect} (hc:Small c):1≤gW p c∧gW p c≤5∧1≤gH p c∧gH p c≤4∧1≤gW p c * gH p c∧gW p c * gH p c≤20:=by
 have hw:=hc.w;have hh:=hc.h;have h1:1≤gW p c∧gW p c≤5∧1≤gH p c∧gH p c≤4:=by unfold gW gH;split <;> omega
 have h2:gW p c * gH p c≤5 * 4:=Int.mul_le_mul h1.2.1 h1.2.2.2 (by omega) (by omega);have h3:1 * 1≤gW p c * gH p c:=Int.mul_le_mul h1.1 h1.2.2.1 (by omega) (by omega);omega
theorem kX {w h:Int} {n:Nat} (hw:1≤w∧w≤5) (hh:1≤h∧h≤4) (hn:n=(w * h).toNat):dg w h n=true:=by
 have hp:0≤w * h:=Int.mul_nonneg (by omega) (by omega);have hf:dD w h=true:=by
  rw [dD,decide_eq_true_eq];have:w=1∨w=2∨w=3∨w=4∨w=5:=by omega
  rcases this with rfl|rfl|rfl|rfl|rfl <;> omega
 rw [dg,hf,decide_eq_true (by omega)];rfl
theorem Lo (p:Pic) (c:Rect) (m:Int) (hp:PicOk p) (hc:Small c) (hm:u16 m):aB Sg 37 [ag (Uh p),ag (aS c),U m] (fun r=>r = .b (ag (aF (jR p c m)))):=by
 obtain ⟨⟨a1,a2⟩,⟨b1,b2⟩,⟨c1,c2⟩,hr⟩:=hp;have hl:=Ht (p:=p) hc;obtain ⟨x0,x1,y0,y1,hw,hh⟩:=hc;have hd:=Ar (p.w.tdiv 5);rw [If a1 a2 (by omega)] at hd;refine az Tryz.func37 [.cell 6 49] ?_;repeat' (first|refine aw ?_|((with_reducible refine aX (id:=4) (fun K hW => ?_));(try simp (maxSteps:=999999)(disch:=omega) only [go_sem]);and_intros;all_goals first|(refine hK _ ?_;clear hK K)|try exact ai)|refine an (fun K hK => ?_)|refine aa (bD _ _ (by omega) (by omega)) ?_|(apply dC;(case hf=>rfl);(case hc=>exact du);(all_goals first|(intro hb;(try simp only [nR] at hb))|skip))|exact bd|(refine aq hK ?_;try clear hK K))
 have hlen:(aY p.row (gW p c * gH p c).toNat m).length=(gW p c * gH p c).toNat:=by simp [aY]
 refine FD ?_ ?_ ba (oe p.row (gW p c * gH p c) m hr (by omega) (by omega) hm);try simp (maxSteps:=999999)(disch:=omega) only [go_sem]
 try (refine hK _ ?_;clear hK K)
 ·refine hW _ (aP [(2, .b (U m)),(3, .b (.c (.ptr 0 0))),(4, .b (.c (.ptr 1 0))),(6, .b (.c (.ptr 2 0))),(7, .b (I (gW p c))),(8, .b (I (gH p c))),(9, .b (.c (.p (lM (aY p.row (gW p c * gH p c).toNat m)))))]
   [(0, .fix ((Uh p).map CV.p)),(1, .fix ((aS c).map CV.p)),(2, .fix ((List.range 28).map fun _=>CV.p .any))] 3) ?_ ?_
  ·clear hW;refine ar [(1,some 1),(2,some 2)] ?_ ?_;and_intros;all_goals try exact ak
  ·clear hW;have hpl:0<(aY p.row (gW p c * gH p c).toNat m).length:=by omega
   repeat' (first|refine aw ?_|refine an (fun K hK => ?_)|refine aa (bD _ _ (by omega) (by omega)) ?_|refine aa (iq _ _ _) ?_|refine aa (kQ _ _ _ (by omega)) ?_|(refine aH (fun hb => ?_) (fun hb => ?_) <;> try exact ax)|(refine aq hK ?_;try clear hK K))
   ·have e2:jR p c m=jq (gW p c) (gH p c) (uq p.row m 0):=by rw [jR,if_pos hb]
    have e:(aY p.row (gW p c * gH p c).toNat m).getD 0 default=uq p.row m 0:=by
     have:0<(gW p c * gH p c).toNat:=by omega
     simp [aY,this]
    rw [e2,e];rfl
   ·have e2:jR p c m=gN (gW p c) (gH p c) (aY p.row (gW p c * gH p c).toNat m):=by rw [jR,if_neg hb]
    rw [e2,bR,if_pos (kX (by omega) (by omega) hlen)];rfl
 ·have e:IntKind.i64.wrap (gW p c * gH p c)=gW p c * gH p c:=eK (by omega) (by omega);show [_,I (IntKind.i64.wrap (gW p c * gH p c)),_]=_;rw [e];rfl
def aN (b:Int):Int:=if b=8 then 255 else if b=16 then 65535 else 0
def eS (l:List Op):Bool:=l.isEmpty || ((l.getD (l.length - 1) default).isolated && !(l.getD (l.length - 1) default).knockout)
def dM (b:Int) (n:Nat) (o:Op) (l:List Op):Int :=
 if ¬ (1≤o.kind∧o.kind≤3) then 9
 else if cZ o=false then 10
 else if o.kind=3∧l.length=0 then 18
 else if o.kind=3 then 0
 else if o.kind=1∧(o.image<0∨n≤o.image)∨o.mask<0∨n<o.mask then 11
 else if bu 1048576 [o.x,o.y,o.maskX,o.maskY]=false then 12
 else if aN b<o.opacity then 13
 else if jn o.operator=false then 14
 else if jn o.mode=false then 15
 else if o.operator≠4∧eS l=false then 16
 else if o.kind=2∧64≤l.length then 17 else 0
def iO (s:Script) (i:Int) (l:List Op):Int:=if i<0∨s.ops.length≤i then 21 else dM s.bits s.images.length (s.ops.getD i.toNat default) l
theorem Kg {o:Int}:(xd o).toList=(ByteArray.mk #[]).toList↔jn o=false:=by grind [xd,jn,pM]
theorem Ix {o:Int}:(Ct o).toList=(ByteArray.mk #[]).toList↔jn o=false:=by grind [Ct,Ao]
theorem Cy (l:List Op) (hl:l.length≤4611686018427387904):aB Sg 163 [.c (.p (kU l))] (fun x=>x = .b (B (eS l))):=FQ l hl
theorem Qs (s:Script) (i:Int) (l:List Op) (hs:ScriptLen s) (hl:l.length≤4611686018427387904):aB Sg 106 [ag (ay s),I i, .c (.p (kU l))] (fun x=>x = .b (I (iO s i l))):=by
 obtain ⟨h1,h2,h3⟩:=hs;refine az Tryz.func106 [.tmp 6] ?_
 repeat' (first|refine aw ?_|refine an (fun K hK => ?_)|refine aa (gR _) ?_|refine aa (IW _) ?_|((first|apply dC|apply dE);(case hf=>rfl);(case hc=>exact du);all_goals try (intro hb;try simp only [nR] at hb))|exact bd|(refine aH (fun hb => ?_) (fun hb => ?_) <;> try exact ax)|(refine aq hK ?_;try clear hK K))
 iterate 6
  ·refine Lw ?_;simp only [iO,dM];generalize s.ops.getD i.toNat default=o at *
   repeat (first|(with_reducible rfl)|(refine Eq.symm (Eq.trans (if_pos ?_) (Eq.symm ?_));focus (first|(assumption;done)|omega|(simp [*];done)))|(refine Eq.symm (Eq.trans (if_neg ?_) (Eq.symm ?_));focus (first|(assumption;done)|omega|(simp [*];done)))|(refine Eq.symm (Eq.trans (if_neg ?_) (Eq.symm ?_));focus (grind;done))|(refine Eq.symm (Eq.trans (if_pos ?_) (Eq.symm ?_));focus (grind;done)))
 have ho:iO s i l=dM s.bits s.images.length (s.ops.getD i.toNat default) l:=by rw [iO,if_neg (by omega)]
 generalize s.ops.getD i.toNat default=o at *
 refine fT ?_ ?_ ba ?_ (DR [o.x,o.y,o.maskX,o.maskY] (by simp));try simp (maxSteps:=999999)(disch:=omega) only [go_sem]
 try (refine hK _ ?_;clear hK K)
 ·repeat' (first|refine aw ?_|refine an (fun K hK => ?_)|refine aa (Hy _) ?_|refine aa (By _) ?_|refine aA (fun hg=>Cy _ (by omega)) ?_|(refine aH (fun hb => ?_) (fun hb => ?_) <;> try exact ax)|(refine aq hK ?_;try clear hK K))
  all_goals
   refine Lw ?_;have hmx:aN s.bits=if s.bits=8 then 255 else if s.bits=16 then 65535 else 0:=rfl;rw [ho];simp only [dM];try simp only [Kg,Ix,Bool.not_eq_false] at *
   repeat (first|(with_reducible rfl)|(refine Eq.symm (Eq.trans (if_pos ?_) (Eq.symm ?_));focus (first|(assumption;done)|omega|(simp [*];done)))|(refine Eq.symm (Eq.trans (if_neg ?_) (Eq.symm ?_));focus (first|(assumption;done)|omega|(simp [*];done)))|(refine Eq.symm (Eq.trans (if_neg ?_) (Eq.symm ?_));focus (grind;done))|(refine Eq.symm (Eq.trans (if_pos ?_) (Eq.symm ?_));focus (grind;done)))
 ·simp (maxSteps:=1000000) (disch:=omega) only [go_sem,fi,fY];refine qJ (gX fun i hi j hj => ?_);have h1:i=0∨i=1∨i=2∨i=3:=by omega
  have h2:j=0:=by omega
  subst h2;rcases h1 with rfl|rfl|rfl|rfl <;> rfl
 ·trivial
section
def qE (n:Int):List PV:=[.val (.int .u64 (n / 18446744073709551616)), .val (.int .u64 (n % 18446744073709551616))]
structure Q128 (n:Int):Prop where
 l:0≤n
 u:n<340282366920938463463374607431768211456
theorem a5M {vs:Array Value} (h:vs.size=3):vs = #[vs.getD 0 undef,vs.getD 1 undef,vs.getD 2 undef]:=by
 apply Array.ext
 ·simpa using h
 ·intro i h1 h2;simp at h2;have:i=0∨i=1∨i=2:=by omega
  rcases this with rfl|rfl|rfl <;> simp [h1]
theorem zd (a b c:Int) (ha:Q64 a) (hb:Q64 b) (hc:0≤c∧c≤1):HT Sg 241 [cY a,cY b,cY c] (.tup [cY ((a+b+c) % 18446744073709551616),cY ((a+b+c) / 18446744073709551616)]):=by
 refine ⟨fun v hv => ?_,fun ok w vs hs hd => ?_⟩
 ·simp only [List.mem_cons,List.not_mem_nil,or_false] at hv;rcases hv with rfl|rfl <;> trivial
 ·have h0:vs.getD 0 undef = .int .u64 a:=hd 0;have h1:vs.getD 1 undef = .int .u64 b:=hd 1;have h2:vs.getD 2 undef = .int .u64 c:=hd 2;refine ⟨.tuple #[.int .u64 ((a+b+c) % 18446744073709551616), .int .u64 ((a+b+c) / 18446744073709551616)], ?_, ?_⟩
  ·rw [SgP,a5M hs,h0,h1,h2,run_callFunc_extern Tryz.func241 (by kernel_rfl) (by kernel_rfl) (by kernel_rfl) (e:=add64Entry) (by kernel_rfl),run_add64 a b c ha.l hb.l hc.1 hc.2];rfl
  ·refine ⟨_,rfl,rfl,fun j => ?_⟩
   match j with
   | 0=>rfl
   | 1=>rfl
   | j+2=>trivial
theorem Pc {P : Program} (x y z : Nat) (hz : z ≤ 1) (w : World) : ((Extern.MathBitsCarry.rows.getD 1 ("", fun _ => pure undef)).2 #[.int .u64 x, .int .u64 y, .int .u64 z]).run P w =
  .ok (.tuple #[.int .u64 (((x+18446744073709551616 - y - z) % 18446744073709551616:Nat):Int), .int .u64 ((if x<y+z then 1 else 0:Nat):Int)]) w:=by
 have:z=0∨z=1:=by omega
 rcases this with rfl|rfl <;> rfl
theorem vk (a b c:Int) (ha:Q64 a) (hb:Q64 b) (hc:0≤c∧c≤1):HT Sg 255 [cY a,cY b,cY c] (.tup [cY ((a+18446744073709551616 - b - c) % 18446744073709551616),cY (if a<b+c then 1 else 0)]):=by
 obtain ⟨x,rfl⟩:=Int.eq_ofNat_of_zero_le ha.l;obtain ⟨y,rfl⟩:=Int.eq_ofNat_of_zero_le hb.l;obtain ⟨z,rfl⟩:=Int.eq_ofNat_of_zero_le hc.1;have hz:z≤1:=by omega
 have hy:=hb.u;refine ⟨fun v hv => ?_,fun ok w vs hs hd => ?_⟩
 ·simp only [List.mem_cons,List.not_mem_nil,or_false] at hv;rcases hv with rfl|rfl <;> trivial
 ·have h0:vs.getD 0 undef = .int .u64 x:=hd 0;have h1:vs.getD 1 undef = .int .u64 y:=hd 1;have h2:vs.getD 2 undef = .int .u64 z:=hd 2;refine ⟨.tuple #[.int .u64 (((x+18446744073709551616 - y - z) % 18446744073709551616:Nat):Int), .int .u64 ((if x<y+z then 1 else 0:Nat):Int)], ?_, ?_⟩
  ·rw [SgP, a5M hs, h0, h1, h2, run_callFunc_extern Tryz.func255 (by kernel_rfl) (by kernel_rfl) (by kernel_rfl) (e := (Extern.MathBitsCarry.rows.getD 1 ("", fun _ => pure undef)).2) (by kernel_rfl), Pc x y z hz]
   rfl
  ·refine ⟨_,rfl,rfl,fun j => ?_⟩;have e1:(((x+18446744073709551616 - y - z) % 18446744073709551616:Nat):Int)=((x:Int)+18446744073709551616 - y - z) % 18446744073709551616:=by omega
   have e2:((if x<y+z then 1 else 0:Nat):Int)=if (x:Int)<y+z then 1 else 0:=by split <;> split <;> omega
   match j with
   | 0=>exact congrArg (Value.int .u64) e1
   | 1=>exact congrArg (Value.int .u64) e2
   | j+2=>trivial
theorem vh {n:Int} (h:Q128 n):Q64 (n / 18446744073709551616)∧Q64 (n % 18446744073709551616):=by
 obtain ⟨h1,h2⟩:=h;exact ⟨⟨by omega,by omega⟩,⟨by omega,by omega⟩⟩
attribute [local go_sem] qE
def kT (x y:Int):Int:=if x=y then 0 else if x<y then -1 else 1
theorem Bf (n:Int):IntKind.u64.wrap n=n % 18446744073709551616:=by simp only [IntKind.wrap,IntKind.bits,IntKind.signed];simp
end
abbrev UD (x:Int):BV := .c (.p (.val (.int .u32 x)))
theorem zZ (n d:Int) (hn:Q64 n) (hd:Q64 d):aB Sg 215 [UQ n,UQ d] (fun r=>r = .b (UQ (cn n d))):=by
 obtain ⟨n0,n1⟩:=hn;obtain ⟨d0,d1⟩:=hd;refine az Tryz.func215 [.tmp 4] ?_
 repeat' (first|refine aC ?_|(apply dC;(case hf=>rfl);(case hc=>exact du);(all_goals first|(intro hb;(try simp only [nR] at hb))|skip))|exact bd|(refine aH (fun hb => ?_) (fun hb => ?_) <;> try exact ax))
 ·rw [cn,if_pos hb]
 ·have h1:=Int.emod_nonneg n hb;have h2:=Int.emod_lt_of_pos n (show 0<d by omega);have h3:0≤n / d:=Int.ediv_nonneg n0 d0;have h4:n / d≤n:=Int.ediv_le_self _ n0;have h5:n % d≥d - n % d→n / d+1≤n:=fun q=>by
   have:=MB n0 (show 0<d by omega);rw [cn,if_neg hb,if_pos q] at this;exact this.2
  rw [cn,if_neg hb,wq (n / d) ⟨h3,by omega⟩,wq (d - n % d) ⟨by omega,by omega⟩];by_cases q:n % d≥d - n % d
  ·have:=h5 q;rw [if_pos q,if_pos q,wq _ ⟨by omega,by omega⟩]
  ·rw [if_neg q,if_neg q]
theorem uU (n:Int):IntKind.u32.wrap n=n % 4294967296:=by simp only [IntKind.wrap,IntKind.bits,IntKind.signed];simp
theorem XG {a:Int} (h0:0≤a) (h1:a<4294967296):CK .u32 a 255=a % 256:=by
 obtain ⟨n,rfl⟩:=Int.eq_ofNat_of_zero_le h0;have e:(BitVec.ofInt 32 (n:Int)).toNat=n:=by rw [BitVec.toNat_ofInt];omega
 show IntKind.u32.wrap (BitVec.ofInt 32 (n:Int) &&& BitVec.ofInt 32 255).toNat=_;rw [BitVec.toNat_and,e,show (BitVec.ofInt 32 255).toNat=2 ^ 8 - 1 by decide,Nat.and_two_pow_sub_one_eq_mod,uU];omega
theorem ZC {a:Int} (h0:0≤a) (h1:a<18446744073709551616):CK .u64 a 65535=a % 65536:=by
 obtain ⟨n,rfl⟩:=Int.eq_ofNat_of_zero_le h0;have e:(BitVec.ofInt 64 (n:Int)).toNat=n:=by rw [BitVec.toNat_ofInt];omega
 show IntKind.u64.wrap (BitVec.ofInt 64 (n:Int) &&& BitVec.ofInt 64 65535).toNat=_;rw [BitVec.toNat_and,e,show (BitVec.ofInt 64 65535).toNat=2 ^ 16 - 1 by decide,Nat.and_two_pow_sub_one_eq_mod,rI (by omega) (by omega)];omega
theorem rn (n:Int) (h0:0≤n) (h1:n<4294967296):aB Sg 227 [UD n] (fun r=>r = .b (UD (cn n 255))):=by
 refine az Tryz.func227 [.tmp 2] ?_;repeat' (refine aC ?_)
 refine aK (X:=Int × Int) (fun s=>aP [(0, .b (UD s.1)),(3, .b (UD s.2))] [] 1) (fun s=>255 * s.2+s.1=n∧0≤s.1∧0≤s.2) (fun s=>s.1.toNat) (n,0) ?_ ?_ ?_
 ·exact ⟨by dsimp only;omega,h0,Int.le_refl _⟩
 ·refine ar [] ?_ ?_;and_intros;all_goals try exact ak
 ·rintro ⟨k,q⟩ ⟨e,k0,q0⟩;dsimp only at e k0 q0 ⊢;have ha:CK .u32 k 255=k % 256:=XG k0 (by omega);by_cases c:k>255
  ·have g1:decide (k>255)=true:=decide_eq_true c;repeat' (first|refine aj g1 ?_|refine aC ?_)
   rw [dJ,ae];refine ao (k / 256+k % 256,q+k / 256) ?_ ⟨by dsimp only;omega,by dsimp only;omega,by dsimp only;omega⟩ (by dsimp only;omega);have hs:k.fdiv (2 ^ min 8 32)=k / 256:=by rw [Int.fdiv_eq_ediv_of_nonneg _ (by decide)];rfl
   refine ar [] ?_ ?_;and_intros;all_goals try exact ak
   ·exact .inl (by rw [hs,ha,uU,show (k / 256+k % 256) % 4294967296=k / 256+k % 256 by omega])
   ·exact .inl (by rw [hs,uU,show (q+k / 256) % 4294967296=q+k / 256 by omega])
  ·have g1:decide (k>255)=false:=decide_eq_false c;repeat' (first|refine aj g1 ?_|refine aC ?_|(apply dC;(case hf=>rfl);(case hc=>exact du);(all_goals first|(intro hb;(try simp only [nR] at hb))|skip))|exact bd)
   have hh:=MR (d:=255) (q:=q) (n:=k) (n0:=n) (by decide) e k0 (by omega) (by decide);rw [show ((255:Int)+1) / 2=128 from rfl] at hh;rw [hh,uU,show (q+1) % 4294967296=q+1 by omega]
theorem nr (n:Int) (h:Q64 n):aB Sg 228 [UQ n] (fun r=>r = .b (UQ (cn n 65535))):=by
 obtain ⟨h0,h1⟩:=h;refine az Tryz.func228 [.tmp 2] ?_;repeat' (refine aC ?_)
 refine aK (X:=Int × Int) (fun s=>aP [(0, .b (UQ s.1)),(3, .b (UQ s.2))] [] 1) (fun s=>65535 * s.2+s.1=n∧0≤s.1∧0≤s.2) (fun s=>s.1.toNat) (n,0) ?_ ?_ ?_
 ·exact ⟨by dsimp only;omega,h0,Int.le_refl _⟩
 ·refine ar [] ?_ ?_;and_intros;all_goals try exact ak
 ·rintro ⟨k,q⟩ ⟨e,k0,q0⟩;dsimp only at e k0 q0 ⊢;have ha:CK .u64 k 65535=k % 65536:=ZC k0 (by omega);by_cases c:k>65535
  ·have g1:decide (k>65535)=true:=decide_eq_true c;repeat' (first|refine aj g1 ?_|refine aC ?_)
   rw [dJ,ae];refine ao (k / 65536+k % 65536,q+k / 65536) ?_ ⟨by dsimp only;omega,by dsimp only;omega,by dsimp only;omega⟩ (by dsimp only;omega);have hs:k.fdiv (2 ^ min 16 64)=k / 65536:=by rw [Int.fdiv_eq_ediv_of_nonneg _ (by decide)];rfl
   refine ar [] ?_ ?_;and_intros;all_goals try exact ak
   ·exact .inl (by rw [hs,ha])
   ·exact .inl (by rw [hs])
  ·have g1:decide (k>65535)=false:=decide_eq_false c;repeat' (first|refine aj g1 ?_|refine aC ?_|(apply dC;(case hf=>rfl);(case hc=>exact du);(all_goals first|(intro hb;(try simp only [nR] at hb))|skip))|exact bd)
   have hh:=MR (d:=65535) (q:=q) (n:=k) (n0:=n) (by decide) e k0 (by omega) (by decide);rw [show ((65535:Int)+1) / 2=32768 from rfl] at hh;rw [hh]
end Go.Proofs.YtdjmpacladhijaaGreatDoor
