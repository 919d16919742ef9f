/- Part of the proof: P5, Y2, Q1, Y4, Q3. -/
import Derived.Test.YtcbifofjjpfbcaaGreatDoorM25
set_option linter.unusedSimpArgs false
set_option linter.unusedVariables false
set_option maxHeartbeats 8000000
set_option maxRecDepth 16000
namespace Go.Proofs.YtcbifofjjpfbcaaGreatDoor
open Go Go.SL
open Go.RowKit (wrap64)
def AW (m:Image) (mx:Int):Prop:=ImgV m mx∨bd m=false∨m.solid=true
def eJ (m:Image) (mx:Int):Int:=if cK m.w m.h=false then 6 else if bd m=false then 7 else if m.solid=true∧ly m.color mx=false then 8 else 0
theorem xa {m:Image} {mx:Int} (h:ImgV m mx):eJ m mx=0:=by
 have hf:=h.f;have hff:=hf;unfold bd at hff;rw [Bool.and_eq_true] at hff;unfold eJ;rw [hff.1,hf,if_neg (by decide),if_neg (by decide),if_neg];rintro ⟨hs,hp⟩;rw [jy (tw h hs)] at hp;cases hp
theorem Je {p:Pixel} {m:Int} (h:ly p m=true) (h0:0≤p.c0) (h1:0≤p.c1) (h2:0≤p.c2):PixV p m:=by
 unfold ly at h;rw [decide_eq_true_eq] at h;exact ⟨h0,h1,h2,h.1,h.2.1,h.2.2.1,h.2.2.2.1,h.2.2.2.2⟩
def LX (m:Image):Prop:=0≤m.color.c0∧0≤m.color.c1∧0≤m.color.c2
theorem BH {m:Image} {mx:Int} (h:AW m mx) (hc:LX m) (h0:eJ m mx=0):ImgV m mx:=by
 unfold eJ at h0;split at h0
 ·cases h0
 split at h0
 ·cases h0
 split at h0
 ·cases h0
 rename_i q1 q2 q3;rcases h with h|h|h
 ·exact h
 ·exact absurd h q2
 ·refine ⟨by simpa using q2,fun x y _ _ _ _ => ?_⟩;rw [eZ,if_pos h];refine Je ?_ hc.1 hc.2.1 hc.2.2;cases hp:ly m.color mx with
  | true=>rfl
  | false=>exact absurd ⟨h,hp⟩ q3
def fD (mx:Int):Nat→List Image→Int × Int
 | _,[]=>(0,0)
 | i,m :: l=>if eJ m mx=0 then fD mx (i+1) l else (eJ m mx,i)
def aW (s:Script):Int × Int:=if bL s≠0 then (bL s,0) else if (fD (bg s.bits) 0 s.images).1≠0 then fD (bg s.bits) 0 s.images else kt s
theorem tN {mx:Int}:∀ {l:List Image} {i:Nat},(∀ m ∈ l,eJ m mx=0)→fD mx i l=(0,0)
 | [],_,_=>rfl
 | m :: l,i,h=>by rw [fD,if_pos (h m (List.mem_cons_self ..)),tN fun k hk=>h k (List.mem_cons_of_mem _ hk)]
theorem tW {mx:Int}:∀ {l:List Image} {i:Nat},(fD mx i l).1=0→∀ m ∈ l,eJ m mx=0
 | [],_,_,_,hk=>by cases hk
 | m :: l,i,h,k,hk=>by
  rw [fD] at h;split at h
  ·rename_i q;rcases List.mem_cons.1 hk with e|e
   ·rw [e];exact q
   ·exact tW h k e
  ·rename_i q;exact absurd h q
theorem tD {mx:Int} {l:List Image} {i:Nat} (hi:i<l.length):fD mx i (l.drop i)=if eJ (l.getD i default) mx=0 then fD mx (i+1) (l.drop (i+1)) else (eJ (l.getD i default) mx,i):=by rw [List.drop_eq_getElem_cons hi,fD,List.getD_eq_getElem?_getD,List.getElem?_eq_getElem hi];rfl
theorem QM {s:Script} (h:∀ i:Nat,i<s.images.length→ImgV (s.images.getD i default) (bg s.bits)):nQ s:=fun i h0 h1=>by
 obtain ⟨n,rfl⟩:=Int.eq_ofNat_of_zero_le h0;unfold gV;rw [Int.toNat_natCast];exact h n (by omega)
theorem tL {s:Script} (hT:∀ m ∈ s.images,AW m (bg s.bits)∧LX m) (h:(aW s).1=0):bL s=0∧VOps s∧nQ s∧kt s=(0,0):=by
 unfold aW at h;split at h
 ·rename_i q;exact absurd h q
 split at h
 ·rename_i q;exact absurd h q
 rename_i q1 q2;rw [Decidable.not_not] at q1 q2;have V:=Gq h;refine ⟨q1,V,QM fun i hi => ?_,DI V⟩;have hm:s.images.getD i default ∈ s.images:=by
  rw [List.getD_eq_getElem?_getD,List.getElem?_eq_getElem hi];exact List.getElem_mem _
 exact BH (hT _ hm).1 (hT _ hm).2 (tW q2 _ hm)
theorem mM {s:Script} (V:VOps s) (h:nQ s):aW s=(0,0):=by
 have e:fD (bg s.bits) 0 s.images=(0,0):=tN fun m hm=>by
  obtain ⟨i,hi,rfl⟩:=List.mem_iff_getElem.1 hm;have:=h i (by omega) (by omega);unfold gV at this;rw [Int.toNat_natCast,List.getD_eq_getElem?_getD,List.getElem?_eq_getElem hi] at this;exact xa this
 unfold aW;rw [V.frame,if_neg (by decide),e,if_neg (by decide)];exact DI V
section
open Go Go.SL Go.RowKit Go.Shelf
attribute [local go_sem] Oper.semAt_some
theorem Ug {g n:Nat} {sz sz':Nat→Nat} {f f':Nat→Nat→PV} (h:∀ i,i<n→sz i=sz' i∧∀ j,j<sz i→PV.le (f i j) (f' i j)):PV.le (.fn g n sz f) (.fn g n sz' f'):=fun _ _ u ⟨vs,e,hs,hb⟩=>by
 refine ⟨vs,e,hs,fun i hi => ?_⟩;obtain ⟨b,o,h1,h2,h3⟩:=hb i hi;obtain ⟨q1,q2⟩:=h i hi;refine ⟨b,o,h1,h2,fun j hj => ?_⟩;rw [← q1] at hj;obtain ⟨x,x1,x2,x3⟩:=h3 j hj;exact ⟨x,x1,x2,q2 j hj _ _ _ x3⟩
def SG (w h:Int):PV := .fn 150 2 (fun _=>1) (fun i _=>if i=0 then PI h else PI w)
theorem Ep (w h:Int):aA Sg 109 [I w,I h] (fun x=>x = .b (.c (.p (SG w h)))):=by
 refine dY ?_;refine Bv Tryz.func109 rfl (rs:=[.tmp 4]) rfl rfl fG (by decide +kernel) (Nat.le_of_ble_eq_true rfl) (bS bG) ?_;repeat' (refine aC ?_)
 simp only [Option.isSome_some,if_true,CV.lt,true_and];refine Gv (oR (Ug fun i hi => ?_));have h0:i=0∨i=1:=by omega
 rcases h0 with rfl|rfl
 ·refine ⟨rfl,fun j hj => ?_⟩;have h0:j=0:=by have:j<1:=hj;omega
  subst h0;exact fun _ _ _ h=>h
 ·refine ⟨rfl,fun j hj => ?_⟩;have h0:j=0:=by have:j<1:=hj;omega
  subst h0;exact fun _ _ _ h=>h
theorem AB (m:Image) (mx:Int) (hs:m.solid=true) (hf:bd m=true):aA Sg 69 [ag (aI m),U mx] (fun r=>r = .b (I (eJ m mx))):=by
 have h1:=qo m;have h2:=mQ m.color mx;have hfit:cK m.w m.h=true:=by
  have:=hf;unfold bd at this;rw [Bool.and_eq_true] at this;exact this.1
 unfold eJ;rw [hfit,hf,if_neg (by decide),if_neg (by decide)] at h1;rw [hfit,hf,if_neg (by decide),if_neg (by decide)];cases hp:ly m.color mx
 ·rw [if_pos ⟨hs,rfl⟩];rw [hp] at h2;refine aD Tryz.func69 [.cell 4 44] ?_;repeat' (first|with_reducible exact bq|refine ah hs ?_|refine ax ?_|refine an (fun K hK => ?_)|refine aa (h1) ?_|refine aa (h2) ?_|(refine aq hK ?_;try clear hK K))
 ·rw [if_neg (by rintro ⟨_,q⟩;cases q)];rw [hp] at h2;refine aD Tryz.func69 [.cell 4 44] ?_;repeat' (first|with_reducible exact bq|refine ah hs ?_|refine ax ?_|refine an (fun K hK => ?_)|refine aa (h1) ?_|refine aa (h2) ?_|(refine aq hK ?_;try clear hK K))
theorem FE (m:Image) (mx:Int) (hf:bd m=false):aA Sg 69 [ag (aI m),U mx] (fun r=>r = .b (I (eJ m mx))):=by
 have h1:=qo m;unfold eJ;cases hfit:cK m.w m.h
 ·rw [hfit,if_pos rfl] at h1;rw [if_pos rfl];have ht:True:=trivial;refine aD Tryz.func69 [.cell 4 44] ?_;repeat' (first|with_reducible exact bq|refine ah ht ?_|refine ax ?_|refine an (fun K hK => ?_)|refine aa (h1) ?_|(refine aq hK ?_;try clear hK K))
 ·rw [hfit,hf,if_neg (by decide),if_pos rfl] at h1;rw [hf,if_neg (by decide),if_pos rfl];have ht:True:=trivial;refine aD Tryz.func69 [.cell 4 44] ?_;repeat' (first|with_reducible exact bq|refine ah ht ?_|refine ax ?_|refine an (fun K hK => ?_)|refine aa (h1) ?_|(refine aq hK ?_;try clear hK K))
theorem Xs (t:Array Value) (h:t.size=34):∃ t0 t1 t2 t3 t4 t5 t6 t7 t8 t9 t10 t11 t12 t13 t14 t15 t16 t17 t18 t19 t20 t21 t22 t23 t24 t25 t26 t27 t28 t29 t30 t31 t32 t33,t = #[t0,t1,t2,t3,t4,t5,t6,t7,t8,t9,t10,t11,t12,t13,t14,t15,t16,t17,t18,t19,t20,t21,t22,t23,t24,t25,t26,t27,t28,t29,t30,t31,t32,t33]:=by
 obtain ⟨l⟩:=t;have step:∀ {n:Nat} {l:List Value},l.length=n+1→∃ a r,l=a :: r∧r.length=n:=fun {n l} h=>by
  cases l with
  | nil=>cases h
  | cons a r=>exact ⟨a,r,rfl,by simpa using h⟩
 have h:l.length=34:=h;obtain ⟨t0,r1,rfl,h1⟩:=step h;obtain ⟨t1,r2,rfl,h2⟩:=step h1;obtain ⟨t2,r3,rfl,h3⟩:=step h2;obtain ⟨t3,r4,rfl,h4⟩:=step h3;obtain ⟨t4,r5,rfl,h5⟩:=step h4;obtain ⟨t5,r6,rfl,h6⟩:=step h5;obtain ⟨t6,r7,rfl,h7⟩:=step h6;obtain ⟨t7,r8,rfl,h8⟩:=step h7;obtain ⟨t8,r9,rfl,h9⟩:=step h8;obtain ⟨t9,r10,rfl,h10⟩:=step h9;obtain ⟨t10,r11,rfl,h11⟩:=step h10;obtain ⟨t11,r12,rfl,h12⟩:=step h11;obtain ⟨t12,r13,rfl,h13⟩:=step h12;obtain ⟨t13,r14,rfl,h14⟩:=step h13;obtain ⟨t14,r15,rfl,h15⟩:=step h14;obtain ⟨t15,r16,rfl,h16⟩:=step h15;obtain ⟨t16,r17,rfl,h17⟩:=step h16;obtain ⟨t17,r18,rfl,h18⟩:=step h17;obtain ⟨t18,r19,rfl,h19⟩:=step h18;obtain ⟨t19,r20,rfl,h20⟩:=step h19;obtain ⟨t20,r21,rfl,h21⟩:=step h20;obtain ⟨t21,r22,rfl,h22⟩:=step h21;obtain ⟨t22,r23,rfl,h23⟩:=step h22;obtain ⟨t23,r24,rfl,h24⟩:=step h23;obtain ⟨t24,r25,rfl,h25⟩:=step h24;obtain ⟨t25,r26,rfl,h26⟩:=step h25;obtain ⟨t26,r27,rfl,h27⟩:=step h26;obtain ⟨t27,r28,rfl,h28⟩:=step h27;obtain ⟨t28,r29,rfl,h29⟩:=step h28;obtain ⟨t29,r30,rfl,h30⟩:=step h29;obtain ⟨t30,r31,rfl,h31⟩:=step h30;obtain ⟨t31,r32,rfl,h32⟩:=step h31;obtain ⟨t32,r33,rfl,h33⟩:=step h32;obtain ⟨t33,r34,rfl,h34⟩:=step h33;have hr34:r34=[]:=List.eq_nil_of_length_eq_zero h34;subst hr34;exact ⟨_,_,_,_,_,_,_,_,_,_,_,_,_,_,_,_,_,_,_,_,_,_,_,_,_,_,_,_,_,_,_,_,_,_,rfl⟩
theorem BC {bx:Nat→Option Bx} {b:Nat} {l:List PV} (hb:bx b=some (.fix (l.map CV.p))):ep bx (.c (.ptr b 0)) = .c (.ipt l.length (fun j=>l.getD j .any) 0):=by
 have hf:(fun j=>(fK bx ((l.map CV.p).getD (0+j) .any)).toP)=fun j=>l.getD j .any:=by
  funext j;rw [Nat.zero_add,List.getD_eq_getElem?_getD,List.getD_eq_getElem?_getD,List.getElem?_map];cases l[j]? with
  | none=>rfl
  | some x=>rfl
 simp only [ep,ml,hb];rw [if_pos (Nat.zero_le _),List.length_map,Nat.sub_zero];exact congrArg (fun g=>BV.c (.ipt l.length g 0)) hf
theorem EF (m:Image) (mx:Int) (hm:Full mx) (hs:m.solid=false) (h:ImgV m mx):aA Sg 69 [ag (aI m),U mx] (fun r=>r = .b (I 0)):=by
 have h1:=qo m;have hpl:=Ep m.w m.h;have hf:=h.f;have hfit:cK m.w m.h=true:=by
  have:=hf;unfold bd at this;rw [Bool.and_eq_true] at this;exact this.1
 obtain ⟨b1,b2,_,_,b3,b4⟩:=dB hfit;obtain ⟨W,hW⟩:∃ W:Nat,m.w=W:=⟨m.w.toNat,by omega⟩
 obtain ⟨H,hH⟩:∃ H:Nat,m.h=H:=⟨m.h.toNat,by omega⟩
 rw [hfit,hf,if_neg (by decide),if_neg (by decide)] at h1;refine ⟨⟨_,Tryz.func69,rfl,rfl⟩,fun ok w vs hok hgl hsz hden => ?_⟩;have g0:=Jp (S:=Sg) (N:=34) hok hgl hsz hden (show 2≤34 by decide) (bS bG);refine callsIn_wide.1 (callsIn_of_wp_marks (F:=Fence.wide) (n:=5) Tryz.func69 rfl trivial (wpIn_wide.2 ?_));refine uQ fG (aT [(2, .b (.c (.ptr 0 0))),(3, .b (.c (.ptr 1 0))),(4, .b (.c (.ptr 2 0)))] [(0, .fix ((aI m).map CV.p)),(1, .fix ([PU mx].map CV.p)),(2, .fix ([PI 0].map CV.p))] 3) ?_ (show dk 34 _=true by decide +kernel) g0 (fun ρ1 a1 w1 g1 => ?_)
 ·repeat' (refine aC ?_)
  refine ⟨_, ?_,rfl⟩;refine au [(1,some 1),(2,some 2)] ?_ ?_;and_intros;all_goals try exact aj
 refine uQ fG (aT [(2, .b (.c (.ptr 0 0))),(3, .b (.c (.ptr 1 0))),(4, .b (.c (.ptr 2 0)))] [(0, .fix ((aI m).map CV.p)),(1, .fix ([PU mx].map CV.p)),(2, .fix ([PI 0].map CV.p))] 3) ?_ (show dk 34 _=true by decide +kernel) g1 (fun ρ2 a2 w2 g2 => ?_)
 ·have ht:True:=trivial;repeat' (first|refine ah ht ?_|refine ax ?_|refine an (fun K hK => ?_)|refine aa (h1) ?_|(refine aq hK ?_;try clear hK K))
  refine ⟨_, ?_,rfl⟩;refine au [(1,some 1),(2,some 2)] ?_ ?_;and_intros;all_goals try exact aj
 refine uQ fG (aT [(2, .b (.c (.ptr 0 0))),(3, .b (.c (.ptr 1 0))),(4, .b (.c (.ptr 2 0)))] [(0, .fix ((aI m).map CV.p)),(1, .fix ([PU mx].map CV.p)),(2, .fix ([PI 0].map CV.p))] 3) ?_ (show dk 34 _=true by decide +kernel) g2 (fun ρ3 a3 w3 g3 => ?_)
 ·repeat' (first|refine ah hs ?_|refine aC ?_)
  refine ⟨_, ?_,rfl⟩;refine au [(1,some 1),(2,some 2)] ?_ ?_;and_intros;all_goals try exact aj
 refine wp_seq ?_;refine uQ fG (aT [(2, .b (.c (.ptr 0 0))),(3, .b (.c (.ptr 1 0))),(4, .b (.c (.ptr 2 0))),(24, .b (.c (.p (SG m.w m.h))))] [(0, .fix ((aI m).map CV.p)),(1, .fix ([PU mx].map CV.p)),(2, .fix ([PI 0].map CV.p))] 3) ?_ (show dk 34 _=true by decide +kernel) g3 (fun ρ a w1 g => ?_)
 ·repeat' (first|refine an (fun K hK => ?_)|refine aa (hpl) ?_|(refine aq hK ?_;try clear hK K))
  refine ⟨_, ?_,rfl⟩;refine au [(1,some 1),(2,some 2)] ?_ ?_;and_intros;all_goals try exact aj
 refine wp_block ?_;clear g0 g1 g2 g3;have d24:bo (bR { w0:=w,ok0:=ok,rx:=none,N:=34 } _ ρ w1) w1 (SG m.w m.h) (a.tmps.getD 24 undef):=g.slt 24;obtain ⟨lb,hu,hlb,hcl⟩:=d24;obtain ⟨Bh,oh,e1,k1,c1⟩:=hcl 0 (by decide);obtain ⟨Bw,ow,e2,k2,c2⟩:=hcl 1 (by decide);obtain ⟨xh,qh,_,dh⟩:=c1 0 (by decide);obtain ⟨xw,qw,_,dw⟩:=c2 0 (by decide);have dh:xh = .int .i64 m.h:=dh;have dw:xw = .int .i64 m.w:=dw;rw [dh,hH,Nat.add_zero] at qh;rw [dw,hW,Nat.add_zero] at qw;have hlb2:lb = #[.pointer (some ⟨Bh,oh,none⟩), .pointer (some ⟨Bw,ow,none⟩)]:=by
  rw [← e1,← e2];refine Array.ext hlb (fun i h1 h2 => ?_);have hi:i=0∨i=1:=by omega
  rcases hi with rfl|rfl
  ·simp [Array.getD,h1]
  ·simp [Array.getD,h1]
 have f0:=KM g (s:=2) (x := .c (.ptr 0 0)) rfl (BC (l:=aI m) rfl) trivial;have f1:=KM g (s:=3) (x := .c (.ptr 1 0)) rfl (BC (l:=[PU mx]) rfl) trivial;have f4:∃ b o,ρ 2 = .pointer (some ⟨b,o,none⟩)∧a.tmps.getD 4 undef = .pointer (some ⟨b,o+0,none⟩):=g.slt 4;obtain ⟨b,o,r2,f4⟩:=f4;have q2:ld ρ (bR { w0:=w,ok0:=ok,rx:=none,N:=34 } _ ρ w1) w1 (.fix ([PI 0].map CV.p)) (ρ 2):=g.bxs 2 _ rfl;obtain ⟨b',o',cells,ty,hv,hh,hsz2,hone,hdd⟩:=q2;rw [r2] at hv;obtain ⟨rfl,rfl⟩:b=b'∧o=o':=by simpa using hv
 have hbn:w.heap.size≤b:=by
  have:=(g.new 2 _ b rfl (by rw [r2];rfl)).2;rcases this with q|⟨_,_,_,_,q⟩
  ·exact q
  ·cases q
 have hgl1:=VZ g;have hB1:Below w.heap.size w w1:=⟨g.frm.os,g.frm.tape,g.frm.output,g.frm.size,fun k hk=>g.frm.block k hk fun _ _ q=>by cases q⟩
 obtain ⟨t0,t1,t2,t3,t4,t5,t6,t7,t8,t9,t10,t11,t12,t13,t14,t15,t16,t17,t18,t19,t20,t21,t22,t23,t24,t25,t26,t27,t28,t29,t30,t31,t32,t33,ha⟩:=Xs a.tmps g.sz;obtain ⟨tm,df⟩:=a;have hdf:df=[]:=g.dfr;dsimp only at ha hu f0 f1 f4;subst hdf;clear g;subst ha;have hu:t24=_:=hu;have f4:t4 = .pointer (some ⟨b,o,none⟩):=f4;subst hu f4 hlb2;refine CH fG (gf:=150) (N:=34) rfl (enters_of Tryz.func150 (by kernel_rfl) rfl) (Bg 3 (by omega) Bh oh Bw ow w1.heap.size W H (by omega) (by omega) w1 (Nat.le_refl _) k1.1 k2.1 qh qw) (fun _=>rfl)
  (fun x => { tmps := #[t0,t1,t2,t3, .pointer (some ⟨b,o,none⟩),t5, .int .i64 x.1.1, .int .i64 x.1.2,t8,t9,t10,t11,t12,t13,t14,t15,t16,t17,t18,t19,t20,t21,t22,t23, .func (.func 150) #[] #[.pointer (some ⟨Bh,oh,none⟩), .pointer (some ⟨Bw,ow,none⟩)], .int .i64 x.1.1, .int .i64 x.1.2,t27,t28,t29,t30,t31,t32,t33],defers:=[] })
  (fun x=>lW [(2, .b (.c (.ipt (aI m).length (fun j=>(aI m).getD j .any) 0))),(3, .b (.c (.ipt [PU mx].length (fun j=>[PU mx].getD j .any) 0))),(6, .b (I x.1.1)),(7, .b (I x.1.2))]) ?assign (fun x=>⟨rfl,rfl,fun s => ?lt,fun s => ?den⟩) hgl1 (by decide +kernel) (by decide +kernel) (fun x => ?cw) ?done
 case assign =>
  intro l x W0 K hK
  gi_wp2
  exact hK
 case lt =>
  simp only [lW];repeat' split
  all_goals trivial
 case den =>
  simp only [lW];split
  ·rename_i q;subst q;exact f0
  split
  ·rename_i q;subst q;exact f1
  split
  ·rename_i q;subst q;rfl
  split
  ·rename_i q;subst q;rfl
  trivial
 case cw =>
  obtain ⟨⟨px,py⟩,hx,hy⟩:=x;have hp:=zf m px py hf (by omega) (by dsimp only at hx;omega) (by omega) (by dsimp only at hy;omega);have hv:=mQ (eZ m px py) mx;rw [jy (h.p px py (by omega) (by dsimp only at hx;omega) (by omega) (by dsimp only at hy;omega))] at hv;generalize eZ m px py=q at *
  have ht:True:=trivial;dsimp only;repeat' (first|with_reducible exact bq|refine ah ht ?_|refine ax ?_|refine an (fun K hK => ?_)|refine aa (hp) ?_|refine aa (hv) ?_|(refine aq hK ?_;try clear hK K))
 case done =>
  intro D W0 hD hB hK;have hbw:b<w1.heap.size:=ch hh;have hcell:W0.heap[b]?=some (.cells cells ty (0,0)):=(hB.block b hbw).trans hh;have hco:∃ u,W0.cell? ⟨b,o,none⟩=some u∧W0.frozen? ⟨b,o,none⟩=false:=by
   have hsz3:o<cells.size:=by simp at hsz2;omega
   exact ⟨cells.getD o undef,bP hcell hsz3,by simp [World.frozen?,hcell]⟩
  obtain ⟨u0,hco,hfr⟩:=hco;refine (wpIn_wide (n:=5)).1 ?_;simp only [Zz]
  gi_wp2
  have hK':=(KeepsOthers.setCell W0 ⟨b,o,none⟩ (.int .i64 0)).same D _ hK rfl;refine ⟨by simp, .inl ⟨_,_,rfl,run_takeDeferred hK', ?_⟩⟩;have hc5:=cell_kept (World.cell?_setCell_same' W0 ⟨b,o,none⟩ (.int .i64 0) (by rw [hco];rfl)) (grownBy_putObj' _ D (.deferred none)) (fun r e=>by cases e;exact ⟨_,hK',rfl⟩);refine ⟨.int .i64 0, ?_, ?_⟩
  ·simp [results,Tryz.f69,go_sem,hc5]
  ·have hDb:w.heap.size≤D:=Nat.le_trans hB1.size hD;have hB2:Below w.heap.size w ((W0.setCell ⟨b,o,none⟩ (.int .i64 0)).putObj D (.deferred none)):=by
    have q1:Below w.heap.size w W0:=hB1.trans (hB.mono hB1.size);refine (q1.setCell (p:=⟨b,o,none⟩) hbn _).grown (grownBy_putObj' _ D (.deferred none)) ?_ (fun k e=>by cases e;exact hDb);have:=q1.size;have:=(KeepsOthers.setCell W0 ⟨b,o,none⟩ (.int .i64 0)).size;omega
   exact ⟨_,rfl,hB2,rfl⟩
end
section
attribute [local go_sem] cO Int.toNat_natCast cA
def a0g (x:Mic):List PV:=[PI x.op,PI x.kind,PU x.inp.c0,PU x.inp.c1,PU x.inp.c2,PU x.inp.a,PU x.inp.f,PU x.back.c0,PU x.back.c1,PU x.back.c2,PU x.back.a,PU x.back.f,PU x.k,PU x.out.c0,PU x.out.c1,PU x.out.c2,PU x.out.a,PU x.out.f]
end
section
attribute [local go_sem] Int.toNat_natCast cA a0g cO
def Xw:BV := .c (.p (.val (.func (.func 60) #[] #[])))
attribute [local go_sem] Xw
end
theorem vu (m:Image) (mx:Int) (hm:Full mx) (h:AW m mx):aA Sg 17 [ag (aI m),U mx] (fun r=>r = .b (I (eJ m mx))):=by
 by_cases hv:ImgV m mx
 ·rw [xa hv];exact lZ m mx hm hv
 have h1:=iZ m.w m.h;have h2:=sM m;have h3:=fW m.color mx;have ht:True:=trivial;have hfe:bd m=(cK m.w m.h && fM m):=rfl;unfold eJ;cases hf:cK m.w m.h
 ·rw [if_pos rfl];rw [hf] at h1;refine aD Tryz.func17 [.tmp 4] ?_;repeat' (first|with_reducible exact bq|refine ah ht ?_|refine ax ?_|refine an (fun K hK => ?_)|refine aa (h1) ?_|(refine aq hK ?_;try clear hK K))
 rw [if_neg (by decide)];rw [hf] at h1;cases hp:fM m
 ·rw [hfe,hf,hp,if_pos (by decide)];rw [hp] at h2;refine aD Tryz.func17 [.tmp 4] ?_;repeat' (first|with_reducible exact bq|refine ah ht ?_|refine ax ?_|refine an (fun K hK => ?_)|refine aa (h1) ?_|refine aa (h2) ?_|(refine aq hK ?_;try clear hK K))
 have hfo:bd m=true:=by rw [hfe,hf,hp];rfl
 rw [hfo,if_neg (by decide)];rw [hp] at h2;have hs:m.solid=true:=by
  rcases h with h|h|h
  ·exact absurd h hv
  ·rw [hfo] at h;cases h
  ·exact h
 cases hk:ly m.color mx
 ·rw [if_pos ⟨hs,rfl⟩];rw [hk] at h3;refine aD Tryz.func17 [.tmp 4] ?_;repeat' (first|with_reducible exact bq|refine ah hs ?_|refine ax ?_|refine an (fun K hK => ?_)|refine aa (h1) ?_|refine aa (h2) ?_|refine aa (h3) ?_|(refine aq hK ?_;try clear hK K))
 ·rw [if_neg (by rintro ⟨_,q⟩;cases q)];rw [hk] at h3;refine aD Tryz.func17 [.tmp 4] ?_;repeat' (first|with_reducible exact bq|refine ah hs ?_|refine ax ?_|refine an (fun K hK => ?_)|refine aa (h1) ?_|refine aa (h2) ?_|refine aa (h3) ?_|(refine aq hK ?_;try clear hK K))
theorem nE (s:Script) (hs:ScriptLen s) (hT:bL s=0→Full (bg s.bits)∧∀ m ∈ s.images,AW m (bg s.bits)):aA Sg 36 [ag (aF s)] (fun r=>r = .tup [I (aW s).1,I (aW s).2]):=by
 have h1:=mh s hs;have h2:=mc s hs;have h3:aA Sg 14 [I s.bits] (fun x=>x = .tup [U (bg s.bits),B (decide (s.bits=8∨s.bits=16))]):=iQ s.bits;unfold aW;by_cases hf:bL s=0
 ·obtain ⟨hm,hi⟩:=hT hf;rw [if_neg (by rw [Decidable.not_not];exact hf)];rw [hf] at h1;have ht:True:=trivial;obtain ⟨R,hR⟩:∃ R,(if (fD (bg s.bits) 0 s.images).1≠0 then fD (bg s.bits) 0 s.images else kt s)=R:=⟨_,rfl⟩
  rw [hR];refine aD Tryz.func36 [.tmp 2, .tmp 3] ?_;repeat' (first|refine ah ht ?_|refine ax ?_|refine an (fun K hK => ?_)|refine aa (h1) ?_|refine aa (h3) ?_|(refine aq hK ?_;try clear hK K))
  refine aH (X:=Nat) (fun i=>aT [(1, .b (.c (.ptr 0 0))),(5, .b (U (bg s.bits))),(7, .b (I i))] [(0, .fix ((aF s).map CV.p))] 1) (fun i=>i≤s.images.length∧fD (bg s.bits) 0 s.images=fD (bg s.bits) i (s.images.drop i)) (fun i=>s.images.length - i) 0 ?_ ?_ ?_
  ·exact ⟨Nat.zero_le _,by rw [List.drop_zero]⟩
  ·refine au [] ?_ ?_;and_intros;all_goals try exact aj
  ·rintro i ⟨hil,hgo⟩;have hlen:=hs.images;rcases Nat.lt_or_ge i s.images.length with h|h
   ·rw [tD h] at hgo;have hmem:s.images.getD i default ∈ s.images:=by
     rw [List.getD_eq_getElem?_getD,List.getElem?_eq_getElem h];exact List.getElem_mem _
    have hv:=vu (s.images.getD i default) (bg s.bits) hm (hi _ hmem);by_cases h0:eJ (s.images.getD i default) (bg s.bits)=0
    ·rw [if_pos h0] at hgo;rw [h0] at hv
     repeat' (first|refine ah ht ?_|refine ax ?_|refine an (fun K hK => ?_)|refine aa (hv) ?_|(refine aK (fun hb => ?_) (fun hb => ?_) <;> try exact aE)|(refine aq hK ?_;try clear hK K))
     rw [ae];refine ak (i+1) ?_ ⟨by omega,hgo⟩ (by omega);refine au [] ?_ ?_;and_intros;all_goals try exact aj
    ·rw [if_neg h0] at hgo;have g0:(eJ (s.images.getD i default) (bg s.bits) != 0)=true:=by rw [bne_iff_ne];exact h0
     have hR2:R=(eJ (s.images.getD i default) (bg s.bits),(i:Int)):=by rw [← hR,hgo,if_pos h0]
     rw [hR2]
     repeat' (first|with_reducible exact bq|refine ah g0 ?_|refine ax ?_|refine an (fun K hK => ?_)|refine aa (hv) ?_|(refine aK (fun hb => ?_) (fun hb => ?_) <;> try exact aE)|(refine aq hK ?_;try clear hK K))
   ·have e:s.images.drop i=[]:=List.drop_eq_nil_of_le h;rw [e] at hgo;have hR2:R=kt s:=by rw [← hR,hgo,if_neg (by simp [fD])]
    rw [← hR2] at h2
    repeat' (first|with_reducible exact bq|refine ax ?_|refine an (fun K hK => ?_)|refine aa (h2) ?_|(refine aK (fun hb => ?_) (fun hb => ?_) <;> try exact aE)|(refine aq hK ?_;try clear hK K))
 ·rw [if_pos hf];have g0:(bL s != 0)=true:=by rw [bne_iff_ne];exact hf
  refine aD Tryz.func36 [.tmp 2, .tmp 3] ?_;repeat' (first|with_reducible exact bq|refine ah g0 ?_|refine ax ?_|refine an (fun K hK => ?_)|refine aa (h1) ?_|(refine aq hK ?_;try clear hK K))
end Go.Proofs.YtcbifofjjpfbcaaGreatDoor
