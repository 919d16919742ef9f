/- Part of the proof: F15, U3, U4. -/
import Derived.Laws.Externs
import Derived.Test.YtcbifofjjpfbcaaGreatDoorM7
import Derived.Test.YtcbifofjjpfbcaaGreatDoorM8
set_option linter.unusedSimpArgs false
set_option linter.unusedVariables false
set_option maxHeartbeats 2000000
set_option maxRecDepth 16000
namespace Go.Proofs.YtcbifofjjpfbcaaGreatDoor
open Go Go.SL
open Go.RowKit (wrap64)
def bL (s:Script):Int :=
 if ¬ (s.bits=8∨s.bits=16) then 1
 else if aP s.canvas=true∨16777216<kU s.canvas∨cj 1048576 [s.canvas.x0,s.canvas.y0]=false then 2
 else if cD s.canvas s.tileW s.tileH=false then 3
 else if eP s.order (bj s.canvas s.tileW s.tileH * bY s.canvas s.tileW s.tileH)=false then 4
 else if 64<s.images.length∨4096<s.ops.length then 5 else 0
theorem iz (r:Rect) (w h:Int):IntKind.i64.wrap (bj r w h * bY r w h)=bj r w h * bY r w h∧0≤bj r w h * bY r w h:=by
 unfold bj bY;by_cases ht:cD r w h=true
 ·rw [if_pos ht,if_pos ht];simp only [cD,Bool.and_eq_true,Bool.not_eq_true',decide_eq_true_eq] at ht;obtain ⟨he,h1,h2,h3,h4⟩:=ht;have hb:=gO (r:=r) (by simp [he]);have b1:0≤(r.x1 - r.x0 - 1) / w:=Int.ediv_nonneg (by omega) (by omega);have b2:(r.x1 - r.x0 - 1) / w≤r.x1 - r.x0 - 1:=Int.ediv_le_self _ (by omega);have c1:0≤(r.y1 - r.y0 - 1) / h:=Int.ediv_nonneg (by omega) (by omega);have c2:(r.y1 - r.y0 - 1) / h≤r.y1 - r.y0 - 1:=Int.ediv_le_self _ (by omega);have hm:((r.x1 - r.x0 - 1) / w+1) * ((r.y1 - r.y0 - 1) / h+1)≤2147483648 * 2147483648:=Int.mul_le_mul (by omega) (by omega) (by omega) (by omega);have hp:0≤((r.x1 - r.x0 - 1) / w+1) * ((r.y1 - r.y0 - 1) / h+1):=Int.mul_nonneg (by omega) (by omega);exact ⟨fY (by omega) (by omega),hp⟩
 ·rw [if_neg ht,if_neg ht];decide
theorem Uu {s:Script} (h:¬(s.bits=8∨s.bits=16)):bL s=1:=by rw [bL,if_pos h]
theorem Fi {s:Script} (h1:s.bits=8∨s.bits=16) (h:(aP s.canvas=true∨16777216<kU s.canvas)∨cj 1048576 [s.canvas.x0,s.canvas.y0]=false):bL s=2:=by rw [bL,if_neg (fun q=>q h1),if_pos (by rw [← or_assoc];exact h)]
def sg (s:Script):Prop:=(s.bits=8∨s.bits=16)∧(aP s.canvas=false∧kU s.canvas≤16777216)∧cj 1048576 [s.canvas.x0,s.canvas.y0]=true
theorem nr {s:Script} (h:sg s):¬ (aP s.canvas=true∨16777216<kU s.canvas∨cj 1048576 [s.canvas.x0,s.canvas.y0]=false):=by
 obtain ⟨_,⟨h1,h2⟩,h3⟩:=h;rw [h1,h3];simp only [Bool.false_eq_true,false_or,Bool.true_eq_false,or_false];omega
theorem Es {s:Script} (h:sg s) (h3:cD s.canvas s.tileW s.tileH=false):bL s=3:=by rw [bL,if_neg (fun q=>q h.1),if_neg (nr h),if_pos h3]
theorem Ey {s:Script} (h:sg s) (h3:cD s.canvas s.tileW s.tileH=true) (h4:eP s.order (IntKind.i64.wrap (bj s.canvas s.tileW s.tileH * bY s.canvas s.tileW s.tileH))=false):bL s=4:=by
 rw [(iz _ _ _).1] at h4;rw [bL,if_neg (fun q=>q h.1),if_neg (nr h),if_neg (by rw [h3];simp),if_pos h4]
theorem tk {s:Script} (h:sg s) (h3:cD s.canvas s.tileW s.tileH=true) (h4:eP s.order (IntKind.i64.wrap (bj s.canvas s.tileW s.tileH * bY s.canvas s.tileW s.tileH))=true):bL s=if 64<s.images.length∨4096<s.ops.length then 5 else 0:=by
 rw [(iz _ _ _).1] at h4;rw [bL,if_neg (fun q=>q h.1),if_neg (nr h),if_neg (by rw [h3];simp),if_neg (by rw [h4];simp)]
structure ScriptLen (s:Script):Prop where
 order:s.order.length≤4611686018427387904
 images:s.images.length≤4611686018427387904
 ops:s.ops.length≤4611686018427387904
theorem wO (s:Script) (hs:ScriptLen s):aA Sg 67 [ag (aF s)] (fun x=>x = .b (I (bL s))):=by
 obtain ⟨h1,h2,h3⟩:=hs;refine aD Tryz.func67 [.tmp 2] ?_
 repeat' (first|refine ax ?_|((with_reducible refine bN (id:=5) (fun K hW => ?_));(try simp (maxSteps:=999999)(disch:=omega) only [go_sem]);and_intros;all_goals first|(refine hK _ ?_;clear hK K)|try exact ai)|refine an (fun K hK => ?_)|refine aa (gG _) ?_|refine aa (cG _) ?_|refine aw (fun hg=>Eu _) ?_|(refine aK (fun hb => ?_) (fun hb => ?_) <;> try exact aE)|(refine aq hK ?_;try clear hK K))
 ·rw [bL,if_pos hb]
 ·refine IB (.c .any) ?_ ?_ trivial ?_ (fun hg => ?_) (fun hg => ?_)
  ·rfl
  ·rfl
  ·exact na
  ·have hg2:(aP s.canvas || decide (kU s.canvas>16777216))=false:=by simpa using hg
   refine dz ?_;and_intros;all_goals first|(refine hK _ ?_;clear hK K)|exact ai|skip
   refine Ek (args':=[.c (.p (eI [s.canvas.x0,s.canvas.y0]))]) hg ?_ (yM _ (by simp)) ?_ (by trivial) trivial ?_
   ·exact bG
   ·simp (maxSteps:=1000000) (disch:=omega) only [go_sem,fA,fN];refine oG (gX fun i hi j hj => ?_);have h1:i=0∨i=1:=by omega
    have h2:j=0:=by omega
    subst h2;rcases h1 with rfl|rfl <;> rfl
   refine dz ?_;and_intros;all_goals first|(refine hK _ ?_;clear hK K)|exact ai|skip
   refine hW _ (aT [(1, .b (.c (.ptr 0 0))),(5, .b (.c (.ptr 1 0))),(36, .b (B (aP s.canvas || decide (kU s.canvas>16777216) || !cj 1048576 [s.canvas.x0,s.canvas.y0])))] [(0, .fix ((aF s).map CV.p)),(1, .fix ((aQ s.canvas).map CV.p))] 2) ?_ ?_
   ·clear hW;refine au [(1,some 1)] ?_ ?_;and_intros;all_goals try exact aj
   ·clear hW
    repeat' (first|refine ax ?_|refine an (fun K hK => ?_)|refine aa (nB _ _ _) ?_|refine aa (lj _ _ (by omega)) ?_|(refine aK (fun hb => ?_) (fun hb => ?_) <;> try exact aE)|(refine aq hK ?_;try clear hK K))
    ·rw [Fi ‹_› hb]
    ·rename_i q;rw [Es ⟨‹_›,q⟩ hb]
    ·rename_i q1 q2;rw [Ey ⟨‹_›,q1⟩ q2 hb]
    ·rename_i q1 q2 q3;rw [tk ⟨‹_›,q1⟩ q2 q3,if_pos (by omega)]
    ·rename_i q1 q2 q3;rw [tk ⟨‹_›,q1⟩ q2 q3,if_neg (by omega)]
  ·have hg2:(aP s.canvas || decide (kU s.canvas>16777216))=true:=by
    cases h:(aP s.canvas || decide (kU s.canvas>16777216)) with
    | true=>rfl
    | false=>rw [h] at hg;cases hg
   refine dz ?_;and_intros;all_goals first|(refine hK _ ?_;clear hK K)|exact ai|skip
   refine IA (B (cj 1048576 [s.canvas.x0,s.canvas.y0])) hg trivial ?_;refine dz ?_;and_intros;all_goals first|(refine hK _ ?_;clear hK K)|exact ai|skip
   refine hW _ (aT [(1, .b (.c (.ptr 0 0))),(5, .b (.c (.ptr 1 0))),(36, .b (B (aP s.canvas || decide (kU s.canvas>16777216) || !cj 1048576 [s.canvas.x0,s.canvas.y0])))] [(0, .fix ((aF s).map CV.p)),(1, .fix ((aQ s.canvas).map CV.p))] 2) ?_ ?_
   ·clear hW;refine au [(1,some 1)] ?_ ?_;and_intros;all_goals try exact aj
   ·clear hW
    repeat' (first|refine ax ?_|refine an (fun K hK => ?_)|refine aa (nB _ _ _) ?_|refine aa (lj _ _ (by omega)) ?_|(refine aK (fun hb => ?_) (fun hb => ?_) <;> try exact aE)|(refine aq hK ?_;try clear hK K))
    ·rw [Fi ‹_› hb]
    ·rename_i q;rw [Es ⟨‹_›,q⟩ hb]
    ·rename_i q1 q2;rw [Ey ⟨‹_›,q1⟩ q2 hb]
    ·rename_i q1 q2 q3;rw [tk ⟨‹_›,q1⟩ q2 q3,if_pos (by omega)]
    ·rename_i q1 q2 q3;rw [tk ⟨‹_›,q1⟩ q2 q3,if_neg (by omega)]
theorem mh (s:Script) (hs:ScriptLen s):aA Sg 64 [ag (aF s)] (fun x=>x = .b (I (bL s))):=by
 obtain ⟨h1,h2,h3⟩:=hs;refine aD Tryz.func64 [.tmp 2] ?_
 repeat' (first|refine ax ?_|refine an (fun K hK => ?_)|refine aa (iQ _) ?_|refine aa (bl _) ?_|refine aw (fun hg=>Ar _) ?_|refine aa (kS _ _ _) ?_|refine aa (yj _ _ (by omega)) ?_|refine aw (fun hg=>vK _) ?_|(refine aK (fun hb => ?_) (fun hb => ?_) <;> try exact aE)|(refine aq hK ?_;try clear hK K))
 ·rw [Uu hb]
 ·rw [Fi ‹_› ?_];simp only [cj,List.all_cons,List.all_nil,Bool.and_true,Bool.and_eq_false_imp,decide_eq_true_eq,decide_eq_false_iff_not];rcases hb with (h|h)|h
  ·exact .inl h
  ·exact .inr (by omega)
  ·exact .inr (by omega)
 all_goals
  have hw:cj 1048576 [s.canvas.x0,s.canvas.y0]=true:=by
   simp only [cj,List.all_cons,List.all_nil,Bool.and_true,Bool.and_eq_true,decide_eq_true_eq];omega
 ·rename_i q1 q;rw [Es ⟨q1,q.1.1,hw⟩ hb]
 ·rename_i q1 q q2;rw [Ey ⟨q1,q.1.1,hw⟩ q2 hb]
 ·rename_i q1 q q2 q3;rw [tk ⟨q1,q.1.1,hw⟩ q2 q3,if_pos (by omega)]
 ·rename_i q1 q q2 q3;rw [tk ⟨q1,q.1.1,hw⟩ q2 q3,if_neg (by omega)]
section
def qE (n:Int):List PV:=[.val (.int .u64 (n / 18446744073709551616)), .val (.int .u64 (n % 18446744073709551616))]
structure Q128 (n:Int):Prop where
 l:0≤n
 u:n<340282366920938463463374607431768211456
theorem VW {vs:Array Value} (h:vs.size=3):vs = #[vs.getD 0 undef,vs.getD 1 undef,vs.getD 2 undef]:=by
 apply Array.ext
 ·simpa using h
 ·intro i h1 h2;simp at h2;have:i=0∨i=1∨i=2:=by omega
  rcases this with rfl|rfl|rfl <;> simp [h1]
theorem vj (a b c:Int) (ha:Q64 a) (hb:Q64 b) (hc:0≤c∧c≤1):DO Sg 224 [cm a,cm b,cm c] (.tup [cm ((a+b+c) % 18446744073709551616),cm ((a+b+c) / 18446744073709551616)]):=by
 refine ⟨fun v hv => ?_,fun ok w vs hs hd => ?_⟩
 ·simp only [List.mem_cons,List.not_mem_nil,or_false] at hv;rcases hv with rfl|rfl <;> trivial
 ·have h0:vs.getD 0 undef = .int .u64 a:=hd 0;have h1:vs.getD 1 undef = .int .u64 b:=hd 1;have h2:vs.getD 2 undef = .int .u64 c:=hd 2;refine ⟨.tuple #[.int .u64 ((a+b+c) % 18446744073709551616), .int .u64 ((a+b+c) / 18446744073709551616)], ?_, ?_⟩
  ·rw [Zz,VW hs,h0,h1,h2,run_callFunc_extern Tryz.func224 (by kernel_rfl) (by kernel_rfl) (by kernel_rfl) (e:=add64Entry) (by kernel_rfl),run_add64 a b c ha.l hb.l hc.1 hc.2];rfl
  ·refine ⟨_,rfl,rfl,fun j => ?_⟩
   match j with
   | 0=>rfl
   | 1=>rfl
   | j+2=>trivial
theorem Il {P : Program} (x y z : Nat) (hz : z ≤ 1) (w : World) : ((Extern.MathBitsCarry.rows.getD 1 ("", fun _ => pure undef)).2 #[.int .u64 x, .int .u64 y, .int .u64 z]).run P w =
  .ok (.tuple #[.int .u64 (((x+18446744073709551616 - y - z) % 18446744073709551616:Nat):Int), .int .u64 ((if x<y+z then 1 else 0:Nat):Int)]) w:=by
 have:z=0∨z=1:=by omega
 rcases this with rfl|rfl <;> rfl
theorem rl (a b c:Int) (ha:Q64 a) (hb:Q64 b) (hc:0≤c∧c≤1):DO Sg 249 [cm a,cm b,cm c] (.tup [cm ((a+18446744073709551616 - b - c) % 18446744073709551616),cm (if a<b+c then 1 else 0)]):=by
 obtain ⟨x,rfl⟩:=Int.eq_ofNat_of_zero_le ha.l;obtain ⟨y,rfl⟩:=Int.eq_ofNat_of_zero_le hb.l;obtain ⟨z,rfl⟩:=Int.eq_ofNat_of_zero_le hc.1;have hz:z≤1:=by omega
 have hy:=hb.u;refine ⟨fun v hv => ?_,fun ok w vs hs hd => ?_⟩
 ·simp only [List.mem_cons,List.not_mem_nil,or_false] at hv;rcases hv with rfl|rfl <;> trivial
 ·have h0:vs.getD 0 undef = .int .u64 x:=hd 0;have h1:vs.getD 1 undef = .int .u64 y:=hd 1;have h2:vs.getD 2 undef = .int .u64 z:=hd 2;refine ⟨.tuple #[.int .u64 (((x+18446744073709551616 - y - z) % 18446744073709551616:Nat):Int), .int .u64 ((if x<y+z then 1 else 0:Nat):Int)], ?_, ?_⟩
  ·rw [Zz, VW hs, h0, h1, h2, run_callFunc_extern Tryz.func249 (by kernel_rfl) (by kernel_rfl) (by kernel_rfl) (e := (Extern.MathBitsCarry.rows.getD 1 ("", fun _ => pure undef)).2) (by kernel_rfl), Il x y z hz]
   rfl
  ·refine ⟨_,rfl,rfl,fun j => ?_⟩;have e1:(((x+18446744073709551616 - y - z) % 18446744073709551616:Nat):Int)=((x:Int)+18446744073709551616 - y - z) % 18446744073709551616:=by omega
   have e2:((if x<y+z then 1 else 0:Nat):Int)=if (x:Int)<y+z then 1 else 0:=by split <;> split <;> omega
   match j with
   | 0=>exact congrArg (Value.int .u64) e1
   | 1=>exact congrArg (Value.int .u64) e2
   | j+2=>trivial
theorem rN {n:Int} (h:Q128 n):Q64 (n / 18446744073709551616)∧Q64 (n % 18446744073709551616):=by
 obtain ⟨h1,h2⟩:=h;exact ⟨⟨by omega,by omega⟩,⟨by omega,by omega⟩⟩
attribute [local go_sem] qE
theorem xK (a b:Int) (ha:Q64 a) (hb:Q64 b):aA Sg 219 [cm a,cm b] (fun r=>r = .b (ag (qE (a * b)))):=by
 have h:=pZ a b ha.l ha.u hb.l hb.u;refine aD Tryz.func219 [.cell 4 251] ?_;repeat' (first|refine an (fun K hK => ?_)|refine aa (h) ?_|refine ax ?_|(refine aq hK ?_;try clear hK K))
 rfl
def jj (x y:Int):Int:=if x=y then 0 else if x<y then -1 else 1
theorem ql (x y:Int) (hx:Q128 x) (hy:Q128 y):aA Sg 252 [ag (qE x),ag (qE y)] (fun r=>r = .b (I (jj x y))):=by
 obtain ⟨x0,x1⟩:=hx;obtain ⟨y0,y1⟩:=hy;refine aD Tryz.func252 [.tmp 4] ?_
 repeat' (first|refine aC ?_|(refine aK (fun hb => ?_) (fun hb => ?_) <;> try exact aE))
 ·rw [jj,if_pos (by omega)]
 ·rw [jj,if_neg (by omega),if_pos (by omega)]
 ·rename_i hb0;have hne:x≠y:=fun q=>by subst q;exact absurd (hb0 rfl rfl) (by decide)
  rw [jj,if_neg hne,if_neg (by omega)]
theorem mF (n:Int):IntKind.u64.wrap n=n % 18446744073709551616:=by simp only [IntKind.wrap,IntKind.bits,IntKind.signed];simp
theorem mZ (x y:Int) (hx:0≤x) (hy:0≤y) (h:x+y<340282366920938463463374607431768211456):aA Sg 218 [ag (qE x),ag (qE y)] (fun r=>r = .tup [ag (qE (x+y)),B true]):=by
 have qx:=rN (n:=x) ⟨hx,by omega⟩;have qy:=rN (n:=y) ⟨hy,by omega⟩;have h1:=vj (x % 18446744073709551616) (y % 18446744073709551616) 0 qx.2 qy.2 ⟨by decide,by decide⟩;have h2:=vj (x / 18446744073709551616) (y / 18446744073709551616) ((x % 18446744073709551616+y % 18446744073709551616+0) / 18446744073709551616) qx.1 qy.1 ⟨by omega,by omega⟩;refine aD Tryz.func218 [.cell 4 251, .tmp 5] ?_
 repeat' (first|refine ax ?_|refine an (fun K hK => ?_)|refine ni (h1) ?_|refine ni (h2) ?_|(refine aK (fun hb => ?_) (fun hb => ?_) <;> try exact aE)|(refine aq hK ?_;try clear hK K))
 rw [show (x / 18446744073709551616 + y / 18446744073709551616 + (x % 18446744073709551616 + y % 18446744073709551616 + 0) / 18446744073709551616) % 18446744073709551616 = (x + y) / 18446744073709551616 by clear h1 h2; omega,
   show (x % 18446744073709551616+y % 18446744073709551616+0) % 18446744073709551616=(x+y) % 18446744073709551616 by clear h1 h2;omega]
 rfl
theorem JB (x y:Int) (hx:Q128 x) (hy:Q128 y) (h:x<y):aA Sg 238 [ag (qE x),ag (qE y)] (fun r=>r = .tup [ag (qE 0),B false]):=by
 have h0:=ql x y hx hy;rw [show jj x y = -1 by rw [jj,if_neg (by omega),if_pos h]] at h0;have ht:True:=trivial;refine aD Tryz.func238 [.cell 4 251, .tmp 5] ?_;repeat' (first|refine ah ht ?_|refine ax ?_|refine an (fun K hK => ?_)|refine aa (h0) ?_|(refine aq hK ?_;try clear hK K))
 rfl
theorem AQ (x y:Int) (hx:Q128 x) (hy:Q128 y) (h:y≤x):aA Sg 238 [ag (qE x),ag (qE y)] (fun r=>r = .tup [ag (qE (x - y)),B true]):=by
 have qx:=rN hx;have qy:=rN hy;have h0:=ql x y hx hy;have hc:0≤jj x y:=by
  unfold jj;split
  ·decide
  ·rw [if_neg (by omega)];decide
 have h1:=rl (x % 18446744073709551616) (y % 18446744073709551616) 0 qx.2 qy.2 ⟨by decide,by decide⟩;refine aD Tryz.func238 [.cell 4 251, .tmp 5] ?_
 repeat' (first|refine ax ?_|refine an (fun K hK => ?_)|refine aa (h0) ?_|refine ni (h1) ?_|(refine aK (fun hb => ?_) (fun hb => ?_) <;> try exact aE)|(refine aq hK ?_;try clear hK K))
 rw [mF, mF, show (((x / 18446744073709551616 - y / 18446744073709551616) % 18446744073709551616 - if x % 18446744073709551616 < y % 18446744073709551616 + 0 then 1 else 0) % 18446744073709551616) = (x - y) / 18446744073709551616 by
   have:=hx.u;have:=hy.l;clear h0 h1;split <;> omega,
  show (x % 18446744073709551616+18446744073709551616 - y % 18446744073709551616 - 0) % 18446744073709551616=(x - y) % 18446744073709551616 by clear h0 h1;omega]
 rfl
end
section
attribute [local go_sem] qE
theorem LO {a:Int} (h0:0≤a) (h1:a<18446744073709551616):ya .u64 a 1=a % 2:=by
 obtain ⟨n,rfl⟩:=Int.eq_ofNat_of_zero_le h0;have e:(BitVec.ofInt 64 (n:Int)).toNat=n:=by rw [BitVec.toNat_ofInt];omega
 show IntKind.u64.wrap (BitVec.ofInt 64 (n:Int) &&& BitVec.ofInt 64 1).toNat=_;rw [BitVec.toNat_and,e,show (BitVec.ofInt 64 1).toNat=2 ^ 1 - 1 by decide,Nat.and_two_pow_sub_one_eq_mod,nW (by omega) (by omega)];omega
theorem Ws {a:Int}:a.fdiv (2 ^ min 1 64)=a / 2:=by rw [Int.fdiv_eq_ediv_of_nonneg _ (by decide)];rfl
theorem oK (x y:Int) (hx:0≤x) (hy:Q64 y) (h:x * y<340282366920938463463374607431768211456):aA Sg 242 [ag (qE x),cm y] (fun r=>r = .tup [ag (qE (x * y)),B true]):=by
 obtain ⟨y0,y1⟩:=hy;have ht:True:=trivial;refine aD Tryz.func242 [.cell 4 251, .tmp 5] ?_;repeat' (refine aC ?_)
 refine aH (X:=Int × Int × Int) (fun s=>aT [(1, .b (cm s.1)),(2, .b (.c (.ptr 0 0))),(4, .b (.c (.ptr 1 0))),(6, .b (.c (.ptr 2 0))),(7, .b (B true))]
  [(0, .fix ((qE s.2.1).map CV.p)),(1, .fix ((qE 0).map CV.p)),(2, .fix ((qE s.2.2).map CV.p))] 3) (fun s=>0≤s.1∧s.1<18446744073709551616∧0≤s.2.1∧0≤s.2.2∧s.2.2+s.2.1 * s.1=x * y) (fun s=>s.1.toNat) (y,x,0) ?_ ?_ ?_
 ·exact ⟨y0,y1,hx,Int.le_refl _,Int.zero_add _⟩
 ·refine au [(1,some 1),(2,some 2)] ?_ ?_;and_intros;all_goals try exact aj
 ·rintro ⟨k,a,o⟩ ⟨k0,k1,a0,o0,hs⟩;dsimp only at k0 k1 a0 o0 hs ⊢;by_cases hk:k=0
  ·subst hk;rw [Int.mul_zero,Int.add_zero] at hs;subst hs
   repeat' (first|refine aC ?_|(refine aK (fun hb => ?_) (fun hb => ?_) <;> try exact aE))
   rfl
  ·have hak:a * 1≤a * k:=Int.mul_le_mul_of_nonneg_left (by omega) a0;have g1:decide (k>0)=true:=decide_eq_true (by omega);have hb1:=LO k0 k1;have hsh:k.fdiv (2 ^ min 1 64)=k / 2:=Ws;have ha2:2≤k→a+a<340282366920938463463374607431768211456:=fun q=>by
    have:=Int.mul_le_mul_of_nonneg_left q a0;omega
   by_cases hp:k % 2=1
   ·have e1:(ya .u64 k 1 == 1)=true:=by rw [hb1,hp];rfl
    by_cases h2:k / 2=0
    ·have g2:decide (k.fdiv (2 ^ min 1 64)>0)=false:=decide_eq_false (by rw [hsh];omega);repeat' (first|refine ah (And.intro g1 (And.intro e1 g2)) ?_|refine ax ?_|refine an (fun K hK => ?_)|refine aa (mZ o a o0 a0 (by omega)) ?_|(refine aq hK ?_;try clear hK K))
     refine ak (0,a,o+a) ?_ ⟨by dsimp only;omega,by dsimp only;omega,a0,by dsimp only;omega, ?_⟩ (by show (0:Int).toNat<k.toNat;omega)
     ·refine au [(1,some 1),(2,some 2)] ?_ ?_;and_intros;all_goals try exact aj
      exact .inl (by rw [hsh,h2])
     ·have:k=1:=by omega
      subst this;show o+a+a * 0=x * y;rw [← hs,Int.mul_zero,Int.mul_one,Int.add_zero]
    ·have g2:decide (k.fdiv (2 ^ min 1 64)>0)=true:=decide_eq_true (by rw [hsh];omega);have hq:=ha2 (by omega);repeat' (first|refine ah (And.intro g1 (And.intro e1 g2)) ?_|refine ax ?_|refine an (fun K hK => ?_)|refine aa (mZ o a o0 a0 (by omega)) ?_|refine aa (mZ a a a0 a0 hq) ?_|(refine aq hK ?_;try clear hK K))
     refine ak (k / 2,a+a,o+a) ?_ ⟨by dsimp only;omega,by dsimp only;omega,by dsimp only;omega,by dsimp only;omega, ?_⟩ (by show (k / 2).toNat<k.toNat;omega)
     ·refine au [(1,some 1),(2,some 2)] ?_ ?_;and_intros;all_goals try exact aj
      exact .inl (by rw [hsh])
     ·show o+a+(a+a) * (k / 2)=x * y;rw [← hs];have e:k=2 * (k / 2)+1:=by omega
      generalize k / 2=z at *
      subst e;grind
   ·have e1:(ya .u64 k 1 == 1)=false:=by rw [hb1];exact beq_eq_false_iff_ne.2 hp
    have g2:decide (k.fdiv (2 ^ min 1 64)>0)=true:=decide_eq_true (by rw [hsh];omega);have hq:=ha2 (by omega);repeat' (first|refine ah (And.intro g1 (And.intro e1 g2)) ?_|refine ax ?_|refine an (fun K hK => ?_)|refine aa (mZ a a a0 a0 hq) ?_|(refine aq hK ?_;try clear hK K))
    refine ak (k / 2,a+a,o) ?_ ⟨by dsimp only;omega,by dsimp only;omega,by dsimp only;omega,by dsimp only;omega, ?_⟩ (by show (k / 2).toNat<k.toNat;omega)
    ·refine au [(1,some 1),(2,some 2)] ?_ ?_;and_intros;all_goals try exact aj
     exact .inl (by rw [hsh])
    ·show o+(a+a) * (k / 2)=x * y;rw [← hs];have e:k=2 * (k / 2):=by omega
     generalize k / 2=z at *
     subst e;grind
end
end Go.Proofs.YtcbifofjjpfbcaaGreatDoor
