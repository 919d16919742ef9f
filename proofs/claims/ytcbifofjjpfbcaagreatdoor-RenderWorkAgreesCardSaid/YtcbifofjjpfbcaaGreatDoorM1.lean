/- Part of the proof: SlE, SlF, SlG, SlH, SlI, SlJ. -/
import Derived.Test.YtcbifofjjpfbcaaGreatDoorM0
set_option linter.unusedSimpArgs false
namespace Go.SL
open Go
def St.newBox (st:St) (x:Bx):St := { st with bx:=fun i=>if i=st.nx then some x else st.bx i,nx:=st.nx+1 }
def St.newBoxO (st:St) (x:Option Bx):St := { st with bx:=fun i=>if i=st.nx then x else st.bx i,nx:=st.nx+1 }
theorem FA {st:St} {x:Bx}:st.newBoxO (some x)=st.newBox x:=rfl
def St.setBox (st:St) (id:Nat) (x:Bx):St := { st with bx:=fun i=>if i=id then some x else st.bx i }
def St.delBox (st:St) (id:Nat):St := { st with bx:=fun i=>if i=id then none else st.bx i }
def fQ.upd (ρ:fQ) (id:Nat) (v:Value):fQ:=fun i=>if i=id then v else ρ i
section
variable {S:Env} {E:Ent} {st:St} {ρ:fQ} {a:Act} {w:World}
theorem Gam.newBoxN {w' : World} (g : Gam S E st ρ a w) (hB : RowKit.Below w.heap.size w w') (x : Bx) (v0 : Value) (hx : x.lt st.nx)
  (hblk:∀ b,mZ v0=some b→w.heap.size≤b∧b<w'.heap.size)
  (hd:∀ ok',fG (bL E st.bx ρ w) ok' w w'→(∀ b,w.heap.size≤b→b<w'.heap.size→mZ v0≠some b→ok' b)→jG (ρ.upd st.nx v0) ok' w' x v0):Gam S E (st.newBox x) (ρ.upd st.nx v0) a w':=by
 have hρ:∀ id,id<st.nx→(ρ.upd st.nx v0) id=ρ id:=fun id h=>by simp only [fQ.upd];rw [if_neg (by omega)]
 have hlt:∀ id,st.bx id≠none→id<st.nx:=fun id h=>by
  cases hb:st.bx id with
  | none=>exact absurd hb h
  | some b=>exact (g.wfb id b hb).1
 have hk:fG (bL E st.bx ρ w) (bL E (st.newBox x).bx (ρ.upd st.nx v0) w') w w':=fun b ⟨h1,h2,h3⟩=>by
  refine ⟨⟨Nat.lt_of_lt_of_le h1 hB.size,h2,fun id hid => ?_⟩,fun _=>World.cell?_of_block (hB.block b h1)⟩
  by_cases he:id=st.nx
  ·subst he
   simp only [fQ.upd,if_true]
   intro hb
   have:=(hblk b hb).1
   omega
  ·simp only [St.newBox,he,if_false] at hid
   rw [hρ id (hlt id hid)]
   exact h3 id hid
 refine ⟨g.dfr,g.sz,⟨hB.os.trans g.frm.os,hB.tape.trans g.frm.tape,hB.output.trans g.frm.output,Nat.le_trans g.frm.size hB.size,fun k hk hx => ?_,fun b o l hr => ?_⟩,
  fun s=>SV.lt_mono (Nat.le_succ _) (g.wfs s),fun id b hb => ?_,fun id b hb => ?_,fun id y b h1 h2 => ?_,fun i j b h1 h2 h3 h4 => ?_,
  fun b o l hr=>⟨Nat.lt_succ_of_lt (g.rx0 b o l hr).1,(hρ 0 (g.rx0 b o l hr).1).trans (g.rx0 b o l hr).2⟩,fun s=>bu.mono hk hρ (g.wfs s) (g.slt s),fun gg n f hg => ?_,fun s=>⟨SV.lt_mono (Nat.le_succ _) (g.kept s).1,bu.mono hk hρ (g.kept s).1 (g.kept s).2⟩⟩
 ·exact (hB.block k (Nat.lt_of_lt_of_le hk g.frm.size)).trans (g.frm.block k hk hx)
 ·obtain ⟨c,c0,t,h1,h2,h3⟩:=g.frm.rxb b o l hr
  exact ⟨c,c0,t,(hB.block b (bN h1)).trans h1,h2,h3⟩
 ·simp only [St.newBox] at hb
  split at hb
  ·simp only [Option.some.injEq] at hb
   subst hb
   subst_vars
   exact ⟨Nat.lt_succ_self _,Bx.lt_mono (Nat.le_succ _) hx⟩
  ·exact ⟨Nat.lt_succ_of_lt (g.wfb id b hb).1,Bx.lt_mono (Nat.le_succ _) (g.wfb id b hb).2⟩
 ·by_cases he:id=st.nx
  ·subst he
   simp only [St.newBox,if_true,Option.some.injEq] at hb
   subst hb
   simp only [fQ.upd,if_true]
   refine hd _ hk fun b q1 q2 q3=>⟨q2,fun q=>absurd q (by have:=g.frm.size;omega),fun id hid => ?_⟩
   by_cases he:id=st.nx
   ·subst he
    simp only [fQ.upd,if_true]
    exact q3
   ·simp only [St.newBox,he,if_false] at hid
    rw [hρ id (hlt id hid)]
    intro hb
    cases hq:st.bx id with
    | none=>exact hid hq
    | some y =>
     have:=(g.new id y b hq hb).1
     omega
  ·simp only [St.newBox,he,if_false] at hb
   rw [hρ id (g.wfb id b hb).1]
   exact jG.mono hk hρ (g.wfb id b hb).2 (fun c hc=>hB.block c (g.new id b c hb hc).1) (g.bxs id b hb)
 ·by_cases he:id=st.nx
  ·subst he
   simp only [fQ.upd,if_true] at h2
   have:=hblk b h2
   exact ⟨this.2, .inl (Nat.le_trans g.frm.size this.1)⟩
  ·simp only [St.newBox,he,if_false] at h1
   rw [hρ id (g.wfb id y h1).1] at h2
   have:=g.new id y b h1 h2
   rw [hρ id (g.wfb id y h1).1]
   exact ⟨Nat.lt_of_lt_of_le this.1 hB.size,this.2⟩
 ·by_cases hi:i=st.nx <;> by_cases hj:j=st.nx
  ·rw [hi,hj]
  ·subst hi
   simp only [St.newBox,hj,if_false] at h2
   cases hb:st.bx j with
   | none=>exact absurd hb h2
   | some y =>
    rw [hρ j (hlt j h2)] at h4
    have h5:=(g.new j y b hb h4).1
    simp only [fQ.upd,if_true] at h3
    have:=(hblk b h3).1
    omega
  ·subst hj
   simp only [St.newBox,hi,if_false] at h1
   cases hb:st.bx i with
   | none=>exact absurd hb h1
   | some y =>
    rw [hρ i (hlt i h1)] at h3
    have h5:=(g.new i y b hb h3).1
    simp only [fQ.upd,if_true] at h4
    have:=(hblk b h4).1
    omega
  ·simp only [St.newBox,hi,hj,if_false] at h1 h2
   rw [hρ i (hlt i h1)] at h3
   rw [hρ j (hlt j h2)] at h4
   exact g.inj i j b h1 h2 h3 h4
 ·obtain ⟨h1,h2⟩:=g.glb gg n f hg
  refine ⟨(hk gg h1).1,fun j hj => ?_⟩
  obtain ⟨x,hx,h3,hd⟩:=h2 j hj
  exact ⟨x,((hk gg h1).2 j).trans hx,h3,bt.mono hk hd⟩
theorem Gam.newBox {w' : World} (g : Gam S E st ρ a w) (hB : RowKit.Below w.heap.size w w') (x : Bx) (v0 : Value) (hx : x.lt st.nx)
  (hblk:∀ b,mZ v0=some b→w.heap.size≤b∧b<w'.heap.size)
  (hd:∀ ok',fG (bL E st.bx ρ w) ok' w w'→jG (ρ.upd st.nx v0) ok' w' x v0):Gam S E (st.newBox x) (ρ.upd st.nx v0) a w' :=
 g.newBoxN hB x v0 hx hblk fun ok' h _=>hd ok' h
theorem Gam.delBox (g:Gam S E st ρ a w) (id:Nat):Gam S E (st.delBox id) ρ a w:=by
 have hsub:∀ i y,(st.delBox id).bx i=some y→st.bx i=some y:=fun i y h=>by
  simp only [St.delBox] at h
  split at h
  ·simp at h
  ·exact h
 have hsub':∀ i,(st.delBox id).bx i≠none→st.bx i≠none:=fun i h=>by
  simp only [St.delBox] at h
  split at h
  ·simp at h
  ·exact h
 have hk:fG (bL E st.bx ρ w) (bL E (st.delBox id).bx ρ w) w w:=fun b ⟨h1,h2,h3⟩=>⟨⟨h1,h2,fun i hi=>h3 i (hsub' i hi)⟩,fun _=>rfl⟩
 have hρ:∀ id,id<st.nx→ρ id=ρ id:=fun _ _=>rfl
 refine ⟨g.dfr,g.sz,g.frm,g.wfs,fun i b hb=>g.wfb i b (hsub i b hb),fun i b hb=>jG.mono hk hρ (g.wfb i b (hsub i b hb)).2 (fun _ _=>rfl) (g.bxs i b (hsub i b hb)),
  fun i y b h1 h2=>g.new i y b (hsub i y h1) h2,fun i j b h1 h2=>g.inj i j b (hsub' i h1) (hsub' j h2),g.rx0,fun s=>bu.mono hk hρ (g.wfs s) (g.slt s),fun gg n f hg => ?_,fun s=>⟨(g.kept s).1,bu.mono hk hρ (g.kept s).1 (g.kept s).2⟩⟩
 obtain ⟨h1,h2⟩:=g.glb gg n f hg
 refine ⟨(hk gg h1).1,fun j hj => ?_⟩
 obtain ⟨x,hx,h3,hd⟩:=h2 j hj
 exact ⟨x,hx,h3,bt.mono hk hd⟩
theorem Gam.setBox {w' : World} {id : Nat} {x x' : Bx} {b : Nat} (g : Gam S E st ρ a w) (hb : st.bx id = some x) (hρb : mZ (ρ id) = some b)
  (hos:w'.os=w.os) (htape:w'.tape=w.tape) (hout:w'.output=w.output) (hsize:w.heap.size≤w'.heap.size) (hoth:∀ k,k<w.heap.size→k≠b→w'.heap[k]?=w.heap[k]?)
  (hx:x'.lt st.nx)
  (hshape:(∃ cs cs',x = .fix cs∧x' = .fix cs'∧cs'.length=cs.length)∨∃ e sz n f f',x = .arr e sz n f∧x' = .arr e sz n f')
  (hcells:∃ c c' t,w.heap[b]?=some (.cells c t (0,0))∧w'.heap[b]?=some (.cells c' t (0,0))∧c'.size=c.size ∧
   ∀ o cs,ρ id = .pointer (some ⟨b,o,none⟩)→x = .fix cs→∀ j,j<o∨o+cs.length≤j→c'[j]?=c[j]?)
  (hd:fG (bL E st.bx ρ w) (bL E (st.setBox id x').bx ρ w') w w'→jG ρ (bL E (st.setBox id x').bx ρ w') w' x' (ρ id)):Gam S E (st.setBox id x') ρ a w':=by
 have hne:∀ i,(st.setBox id x').bx i≠none→st.bx i≠none:=fun i h=>by
  simp only [St.setBox] at h
  split at h
  ·rename_i he;subst he;rw [hb];simp
  ·exact h
 have hk:fG (bL E st.bx ρ w) (bL E (st.setBox id x').bx ρ w') w w':=fun k ⟨h1,h2,h3⟩=>by
  refine ⟨⟨by omega,h2,fun i hi=>h3 i (hne i hi)⟩,fun _=>World.cell?_of_block (hoth k h1 ?_)⟩
  rintro rfl
  exact h3 id (by rw [hb];simp) hρb
 have hρ:∀ id,id<st.nx→ρ id=ρ id:=fun _ _=>rfl
 obtain ⟨c,c',t,hc,hc',hcs,hout'⟩:=hcells
 refine ⟨g.dfr,g.sz,⟨hos.trans g.frm.os,htape.trans g.frm.tape,hout.trans g.frm.output,Nat.le_trans g.frm.size hsize,fun k hk hx => ?_,fun b1 o l hr => ?_⟩,
  g.wfs,fun i y hy => ?_,fun i y hy => ?_,fun i y b1 h1 h2 => ?_,fun i j b1 h1 h2=>g.inj i j b1 (hne i h1) (hne j h2),g.rx0,
  fun s=>bu.mono hk hρ (g.wfs s) (g.slt s),fun gg n f hg => ?_,fun s=>⟨(g.kept s).1,bu.mono hk hρ (g.kept s).1 (g.kept s).2⟩⟩
 ·refine (hoth k (Nat.lt_of_lt_of_le hk g.frm.size) ?_).trans (g.frm.block k hk hx)
  rintro rfl
  rcases (g.new id x k hb hρb).2 with h|⟨o,cs,h1,h2,h3⟩
  ·omega
  ·exact hx _ _ h3
 ·obtain ⟨d,d0,t1,h1,h2,h3,h4⟩:=g.frm.rxb b1 o l hr
  by_cases he:b1=b
  ·subst he
   rw [hc] at h1
   simp only [Option.some.injEq,Obj.cells.injEq,and_true] at h1
   obtain ⟨rfl,rfl⟩:=h1
   refine ⟨c',d0,t,hc',h2,hcs.trans h3,fun j hj => ?_⟩
   rcases (g.new id x b1 hb hρb).2 with h|⟨o',cs,e1,e2,e3⟩
   ·have:=bN h2
    omega
   ·rw [hr] at e3
    simp only [Option.some.injEq,Prod.mk.injEq,true_and] at e3
    obtain ⟨rfl,rfl⟩:=e3
    exact (hout' _ _ e1 e2 j hj).trans (h4 j hj)
  ·exact ⟨d,d0,t1,(hoth b1 (bN h1) he).trans h1,h2,h3,h4⟩
 ·simp only [St.setBox] at hy
  split at hy
  ·rename_i he
   subst he
   simp only [Option.some.injEq] at hy
   subst hy
   exact ⟨(g.wfb i x hb).1,hx⟩
  ·exact g.wfb i y hy
 ·by_cases he:i=id
  ·subst he
   simp only [St.setBox,if_true,Option.some.injEq] at hy
   subst hy
   exact hd hk
  ·simp only [St.setBox,he,if_false] at hy
   refine jG.mono hk hρ (g.wfb i y hy).2 (fun k hkb=>hoth k (g.new i y k hy hkb).1 ?_) (g.bxs i y hy)
   rintro rfl
   exact he (g.inj i id k (by rw [hy];simp) (by rw [hb];simp) hkb hρb)
 ·by_cases he:i=id
  ·subst he
   simp only [St.setBox,if_true,Option.some.injEq] at h1
   subst h1
   obtain ⟨h3,h4⟩:=g.new i x b1 hb h2
   refine ⟨by omega, ?_⟩
   rcases h4 with h4|⟨o,cs,e1,e2,e3⟩
   ·exact .inl h4
   ·rcases hshape with ⟨cs1,cs2,f1,f2,f3⟩|⟨_,_,_,_,_,f1,_⟩
    ·subst e2
     simp only [Bx.fix.injEq] at f1
     subst f1
     exact .inr ⟨o,cs2,e1,f2,by rw [f3];exact e3⟩
    ·rw [f1] at e2
     cases e2
  ·simp only [St.setBox,he,if_false] at h1
   obtain ⟨h3,h4⟩:=g.new i y b1 h1 h2
   exact ⟨by omega,h4⟩
 ·obtain ⟨h1,h2⟩:=g.glb gg n f hg
  refine ⟨(hk gg h1).1,fun j hj => ?_⟩
  obtain ⟨x,hx,h3,hd⟩:=h2 j hj
  exact ⟨x,((hk gg h1).2 j).trans hx,h3,bt.mono hk hd⟩
theorem Gam.moveBox {w' : World} {id e s n : Nat} {f : Nat → Nat → PV} (g : Gam S E st ρ a w) (hb : st.bx id = some (.arr e s n f)) (hg : w.grownBy w' (mZ (ρ id))) (x : Bx) (v0 : Value) (hx : x.lt st.nx)
  (hblk:∀ b,mZ v0=some b→(mZ (ρ id)=some b∨w.heap.size≤b)∧b<w'.heap.size)
  (hd:∀ ok',fG (bL E st.bx ρ w) ok' w w'→jG (ρ.upd st.nx v0) ok' w' x v0):Gam S E ((st.delBox id).newBox x) (ρ.upd st.nx v0) a w':=by
 have hρ:∀ id,id<st.nx→(ρ.upd st.nx v0) id=ρ id:=fun id h=>by simp only [fQ.upd];rw [if_neg (by omega)]
 have hbx:∀ i,((st.delBox id).newBox x).bx i=if i=st.nx then some x else if i=id then none else st.bx i:=fun i=>rfl
 have hold:∀ i y,st.bx i=some y→i<st.nx:=fun i y h=>(g.wfb i y h).1
 have hsome:∀ i,st.bx i≠none→∃ y,st.bx i=some y:=fun i h=>by
  cases hi:st.bx i with
  | none=>exact absurd hi h
  | some y=>exact ⟨y,rfl⟩
 have hk:fG (bL E st.bx ρ w) (bL E ((st.delBox id).newBox x).bx (ρ.upd st.nx v0) w') w w':=fun b ⟨h1,h2,h3⟩=>by
  have hne:mZ (ρ id)≠some b:=h3 id (by rw [hb];simp)
  refine ⟨⟨Nat.lt_of_lt_of_le h1 hg.size,h2,fun i hi => ?_⟩,fun _=>World.cell?_of_block (hg.block b h1 (fun e=>hne e.symm))⟩
  rw [hbx] at hi
  by_cases he:i=st.nx
  ·subst he
   simp only [fQ.upd,if_true]
   intro hv
   rcases (hblk b hv).1 with h|h
   ·exact hne h
   ·omega
  ·rw [if_neg he] at hi
   by_cases hi2:i=id
   ·rw [if_pos hi2] at hi;exact absurd rfl hi
   ·rw [if_neg hi2] at hi
    obtain ⟨y,hy⟩:=hsome i hi
    rw [hρ i (hold i y hy)]
    exact h3 i hi
 have hnew:∀ b,mZ (ρ id)=some b→E.w0.heap.size≤b:=fun b hbb=>by
  rcases (g.new id _ b hb hbb).2 with h|⟨_,_,_,h,_⟩
  ·exact h
  ·cases h
 refine ⟨g.dfr,g.sz,⟨hg.os.trans g.frm.os,hg.tape.trans g.frm.tape,hg.output.trans g.frm.output,Nat.le_trans g.frm.size hg.size,fun k hk hx => ?_,fun b o l hr => ?_⟩,
  fun s=>SV.lt_mono (Nat.le_succ _) (g.wfs s),fun i b hib => ?_,fun i b hib => ?_,fun i y b h1 h2 => ?_,fun i j b h1 h2 h3 h4 => ?_,
  fun b o l hr=>⟨Nat.lt_succ_of_lt (g.rx0 b o l hr).1,(hρ 0 (g.rx0 b o l hr).1).trans (g.rx0 b o l hr).2⟩,fun s=>bu.mono hk hρ (g.wfs s) (g.slt s),fun gg n f hg' => ?_,fun s=>⟨SV.lt_mono (Nat.le_succ _) (g.kept s).1,bu.mono hk hρ (g.kept s).1 (g.kept s).2⟩⟩
 ·exact (hg.block k (Nat.lt_of_lt_of_le hk g.frm.size) (fun e=>by have:=hnew k e.symm;omega)).trans (g.frm.block k hk hx)
 ·obtain ⟨c,c0,t,h1,h2,h3⟩:=g.frm.rxb b o l hr
  exact ⟨c,c0,t,(hg.block b (bN h1) (fun e=>by have:=hnew b e.symm;have:=bN h2;omega)).trans h1,h2,h3⟩
 ·rw [hbx] at hib
  show i<st.nx+1∧b.lt (st.nx+1)
  split at hib
  ·simp only [Option.some.injEq] at hib
   subst hib
   subst_vars
   exact ⟨Nat.lt_succ_self _,Bx.lt_mono (Nat.le_succ _) hx⟩
  ·split at hib
   ·simp at hib
   ·exact ⟨Nat.lt_succ_of_lt (g.wfb i b hib).1,Bx.lt_mono (Nat.le_succ _) (g.wfb i b hib).2⟩
 ·rw [hbx] at hib
  by_cases he:i=st.nx
  ·subst he
   rw [if_pos rfl] at hib
   simp only [Option.some.injEq] at hib
   subst hib
   simp only [fQ.upd,if_true]
   exact hd _ hk
  ·rw [if_neg he] at hib
   by_cases hi2:i=id
   ·rw [if_pos hi2] at hib;cases hib
   ·rw [if_neg hi2] at hib
    rw [hρ i (hold i b hib)]
    refine jG.mono hk hρ (g.wfb i b hib).2 (fun c hc=>hg.block c (g.new i b c hib hc).1 (fun e => ?_)) (g.bxs i b hib)
    exact hi2 (g.inj i id c (by rw [hib];simp) (by rw [hb];simp) hc e.symm)
 ·rw [hbx] at h1
  by_cases he:i=st.nx
  ·subst he
   simp only [fQ.upd,if_true] at h2
   obtain ⟨h3,h4⟩:=hblk b h2
   refine ⟨h4, .inl ?_⟩
   rcases h3 with h3|h3
   ·exact hnew b h3
   ·exact Nat.le_trans g.frm.size h3
  ·rw [if_neg he] at h1
   by_cases hi2:i=id
   ·rw [if_pos hi2] at h1;cases h1
   ·rw [if_neg hi2] at h1
    rw [hρ i (hold i y h1)] at h2 ⊢
    have:=g.new i y b h1 h2
    exact ⟨Nat.lt_of_lt_of_le this.1 hg.size,this.2⟩
 ·rw [hbx] at h1 h2
  have key:∀ i,i≠st.nx→(if i=st.nx then some x else if i=id then none else st.bx i)≠none→i≠id∧st.bx i≠none:=fun i hi h=>by
   rw [if_neg hi] at h
   by_cases h':i=id
   ·rw [if_pos h'] at h;exact absurd rfl h
   ·rw [if_neg h'] at h;exact ⟨h',h⟩
  have cross:∀ i b,i≠st.nx→(if i=st.nx then some x else if i=id then none else st.bx i)≠none→mZ (ρ.upd st.nx v0 i)=some b→mZ v0=some b→False:=fun i b hi h e1 e2=>by
   obtain ⟨h5,h6⟩:=key i hi h
   obtain ⟨y,hy⟩:=hsome i h6
   rw [hρ i (hold i y hy)] at e1
   rcases (hblk b e2).1 with h7|h7
   ·exact h5 (g.inj i id b h6 (by rw [hb];simp) e1 h7)
   ·have:=(g.new i y b hy e1).1
    omega
  by_cases hi:i=st.nx <;> by_cases hj:j=st.nx
  ·rw [hi,hj]
  ·subst hi
   exact (cross j b hj h2 h4 (by simpa [fQ.upd] using h3)).elim
  ·subst hj
   exact (cross i b hi h1 h3 (by simpa [fQ.upd] using h4)).elim
  ·obtain ⟨h5,h6⟩:=key i hi h1
   obtain ⟨h7,h8⟩:=key j hj h2
   obtain ⟨y,hy⟩:=hsome i h6
   obtain ⟨z,hz⟩:=hsome j h8
   rw [hρ i (hold i y hy)] at h3
   rw [hρ j (hold j z hz)] at h4
   exact g.inj i j b h6 h8 h3 h4
 ·obtain ⟨h1,h2⟩:=g.glb gg n f hg'
  refine ⟨(hk gg h1).1,fun j hj => ?_⟩
  obtain ⟨x,hx,h3,hd⟩:=h2 j hj
  exact ⟨x,((hk gg h1).2 j).trans hx,h3,bt.mono hk hd⟩
end
end Go.SL
namespace Go.SL
open Go
def CV.one:CV→Prop
 | .p (.val v)=>v.oneCell'=true
 | .p .any=>False
 | _=>True
def CV.toP:CV→PV
 | .p x=>x
 | _ => .any
def BV.cells:BV→List CV
 | .c x=>[x]
 | .agg cs=>cs
def BV.one:BV→Prop
 | .c x=>x.one
 | .agg _=>True
def CV.ofV (v:Value):CV := .p (.val v)
def jw (cs:List CV) (off:Nat) (xs:List CV):List CV:=cs.take off ++ xs ++ cs.drop (off+xs.length)
def Env.zero (S:Env) (t:TypeId):Option (List Value) :=
 match (S.P.info? t).bind (·.zero) with
 | some z=>if z.cells.toList.all (·.oneCell') then some z.cells.toList else none
 | none=>none
def Env.bld (S:Env) (t:TypeId):Option (Option (List (Nat × Nat)) × Nat) :=
 match S.P.underlying t with
 | some (.array _ e)=>(S.P.info? e).map fun i=>(none,i.size)
 | some (.struct fs)=>(fs.toList.mapM fun f=>(S.P.info? f.type).map fun i=>(f.offset,i.size)).map fun l=>(some l,0)
 | _=>none
def nu:Option (List (Nat × Nat)) × Nat→Nat→Option (Nat × Nat)
 | (some l,_),i=>l[i]?
 | (none,s),i=>some (i * s,s)
def gu (place:Nat→Option (Nat × Nat)) (ev:Operand→SV):List (Nat × Operand)→List CV→Option (Prop × List CV)
 | [],cs=>some (True,cs)
 | (i,x) :: rest,cs =>
  match place i,(ev x).strip with
  | some (off,sz), .b v=>match gu place ev rest (jw cs off v.cells) with
   | some (p,r)=>some ((v.cells.length=sz∧off+sz≤cs.length∧v.one)∧p,r)
   | none=>none
  | _,_=>none
def su (bx:Nat→Option Bx):SV→Option (Prop × Nat × Nat × (Nat→Nat→PV))
 | .b (.c (.p (.lst sz n f)))=>some (True,sz,n,f)
 | .b (.c (.own id n))=>match bx id with
  | some (.arr _ sz n' f)=>some (n≤n',sz,n,f)
  | _=>none
 | _=>none
def gh (n:Nat) (f g:Nat→Nat→PV) (i j:Nat):PV:=if i<n then f i j else g (i - n) j
structure Upd (b o l:Nat) (w w':World):Prop where
 os:w'.os=w.os
 tape:w'.tape=w.tape
 output:w'.output=w.output
 size:w.heap.size≤w'.heap.size
 block:∀ k,k<w.heap.size→k≠b→w'.heap[k]?=w.heap[k]?
 own:∃ c c' t,w.heap[b]?=some (.cells c t (0,0))∧w'.heap[b]?=some (.cells c' t (0,0))∧c'.size=c.size∧∀ j,j<o∨o+l≤j→c'[j]?=c[j]?
def mz (S:Env) (ok:Nat→Prop) (w:World):Prop :=
 ∀ g n f,S.gl g=some (n,f)→ok g∧∀ j,j<n→∃ x,w.cell? ⟨g,j,none⟩=some x∧x.oneCell'=true∧bt ok w (f j) x
def Ib (ok:Nat→Prop) (w w':World) (b:Nat):Prop:=b<w'.heap.size∧(b<w.heap.size→ok b)
def bM:fQ:=fun _ => .nilFunc
def Cl (S : Env) (f : FuncId) : Prop := ∃ fn, S.P.funcs[f]? = some fn ∧ (fn.name == "runtime.NumGoroutine") = false ∧ fn.body.isNone = false
def aF (S:Env) (f:FuncId) (args:List BV) (R:SV→Prop):Prop :=
 Cl S f∧∀ (ok:Nat→Prop) (w:World) (vs:Array Value),(∀ b,ok b→b<w.heap.size)→mz S ok w →
  vs.size=args.length→(∀ j,bR bM ok w (args.getD j .any) (vs.getD j undef)) →
  Calls S.P f vs w fun e w'=>∃ v r,e = .returned v∧R r∧SV.lt 0 r∧RowKit.Below w.heap.size w w'∧bu bM (Ib ok w w') w' r v
def Bi (S:Env) (f:FuncId) (args:List BV) (X:SV):Prop :=
 SV.lt 0 X∧∀ (ok:Nat→Prop) (w:World) (vs:Array Value),vs.size=args.length→(∀ j,bR bM ok w (args.getD j .any) (vs.getD j undef))→∃ v,(callFunc f vs).run S.P w = .ok (.value v) w∧bu bM ok w X v
def Vo (S:Env) (f:FuncId) (cs:List PV) (args:List BV) (R:SV→List PV→Prop):Prop :=
 Cl S f∧∀ (ok:Nat→Prop) (w:World) (vs:Array Value) (b o:Nat) (cells:Array Value) (t:TypeId),(∀ b,ok b→b<w.heap.size)→mz S ok w →
  w.heap[b]?=some (.cells cells t (0,0))→o+cs.length≤cells.size→¬ ok b→(∀ j,j<cs.length→(cells.getD (o+j) undef).oneCell'=true) →
  (∀ j,bt ok w (cs.getD j .any) (cells.getD (o+j) undef)) →
  vs.size=args.length→(∀ j,bR bM ok w (args.getD j .any) (vs.getD j undef)) →
  Calls S.P f (#[.pointer (some ⟨b,o,none⟩)] ++ vs) w fun e w'=>∃ v r cs' c',e = .returned v∧R r cs'∧SV.lt 0 r∧cs'.length=cs.length∧Upd b o cs.length w w' ∧
   w'.heap[b]?=some (.cells c' t (0,0))∧(∀ j,j<cs.length→(c'.getD (o+j) undef).oneCell'=true) ∧
   (∀ j,bt (fun k=>Ib ok w w' k∧k≠b) w' (cs'.getD j .any) (c'.getD (o+j) undef))∧bu bM (fun k=>Ib ok w w' k∧k≠b) w' r v
def PV.le (x y:PV):Prop:=∀ ok w u,bt ok w x u→bt ok w y u
def BV.le (x y:BV):Prop:=∀ ρ ok w u,bR ρ ok w x u→bR ρ ok w y u
def fZ:List BV→List BV→Prop
 | [],[]=>True
 | x :: r,y :: s=>BV.le x y∧fZ r s
 | _,_=>False
def CV.flat:CV→Prop
 | .p (.val _)=>True
 | _=>False
def BV.flat:BV→Prop
 | .c x=>x.flat
 | .agg cs=>∀ c ∈ cs,CV.flat c
def SV.flat:SV→Prop
 | .b x=>x.flat
 | .tup vs=>∀ v ∈ vs,BV.flat v
 | _=>False
def eR (bx:Nat→Option Bx):CV→CV
 | .own id n=>match bx id with
  | some (.arr _ sz n' f)=>if n≤n' then .p (.lst sz n f) else .own id n
  | _ => .own id n
 | x=>x
def Ej (bx:Nat→Option Bx):BV→BV
 | .c x => .c (eR bx x)
 | .agg cs => .agg (cs.map (eR bx))
def iX (bx:Nat→Option Bx):CV→CV
 | .ptr id off=>match bx id with
  | some (.fix cs)=>if off≤cs.length then .ipt (cs.length - off) (fun j=>(eR bx (cs.getD (off+j) .any)).toP) 0 else .ptr id off
  | _ => .ptr id off
 | .pel id sz i off=>match bx id with
  | some (.arr _ s n f)=>if sz=s∧i<n then .ipt sz (f i) off else .pel id sz i off
  | _ => .pel id sz i off
 | x=>eR bx x
def dp (bx:Nat→Option Bx):BV→BV
 | .c x => .c (iX bx x)
 | .agg cs => .agg (cs.map (iX bx))
def dO:SV→BV
 | .b x=>x
 | .grd _ x=>x
 | _ => .any
def kr (S:Env) (f:FuncId) (args:List BV) (e sz n:Nat) (g:Nat→Nat→PV):Prop :=
 Cl S f∧∀ (ok:Nat→Prop) (w:World) (vs:Array Value),(∀ b,ok b→b<w.heap.size)→mz S ok w →
  vs.size=args.length→(∀ j,bR bM ok w (args.getD j .any) (vs.getD j undef)) →
  Calls S.P f vs w fun ex w'=>∃ v xs,ex = .returned v∧RowKit.Below w.heap.size w w'∧0<sz∧w'.ownsRow w.heap.size e sz v n xs∧(∀ x ∈ xs,x.oneCell'=true) ∧
   ∀ i,i<n→∀ j,j<sz→bt (fun _=>False) w' (g i j) (xs.getD (i * sz+j) undef)
def nD:SV→Option (FuncId × List BV)
 | .b (.c (.clo f ps))=>some (f,ps.map fun p => .c (.ptr p.1 p.2))
 | .b (.c (.p (.fn f n sz g)))=>some (f,(List.range n).map fun i => .c (.ipt (sz i) (g i) 0))
 | .b (.c (.p (.val (.func (.func f) a b))))=>if a = #[]∧b = #[] then some (f,[]) else none
 | _=>none
def nY (S:Env) (bx:Nat→Option Bx) (nx:Nat) (f:FuncId) (args:List BV) (X:SV) (bx':Nat→Option Bx) (nx':Nat):Prop :=
 Cl S f∧∀ (E:Ent) (st:St) (ρ:fQ) (a:Act) (w:World) (vs:Array Value),st.bx=bx→st.nx=nx→Gam S E st ρ a w→vs.size=args.length →
  (∀ j,bR ρ (bL E st.bx ρ w) w (args.getD j .any) (vs.getD j undef)) →
  Calls S.P f vs w fun e w'=>∃ v ρ',e = .returned v∧bu ρ' (bL E bx' ρ' w') w' X v∧X.lt nx'∧Gam S E ⟨st.fr,bx',nx',st.kf⟩ ρ' a w'
inductive CallP (S:Env) (st:St) (f:FuncId) (args:List BV) (K:SV→St→Prop):Prop where
 | pure (args':List BV) (X:SV) (h:aF S f args' (fun r=>r=X)) (ha:fZ args args') (hl:∀ x ∈ args',BV.lt 0 x) (hk:K X st)
 | lend (args':List BV) (X:SV) (h:aF S f args' (fun r=>r=X)) (ha:fZ (args.map (dp st.bx)) args') (hl:∀ x ∈ args',BV.lt 0 x) (hf:X.flat) (hk:K X st) (hp:S.rcv (f+1000000)=false)
 | recv (id off : Nat) (cs0 : List CV) (cs : List PV) (rest args' : List BV) (X : SV) (Y : List PV) (h : Vo S f cs args' (fun r cs' => r = X ∧ cs' = Y)) (he : args = .c (.ptr id off) :: rest)
   (hb:st.bx id=some (.fix cs0)) (hoff:off+cs.length≤cs0.length) (hcs:(cs0.drop off).take cs.length=cs.map CV.p)
   (ha:fZ rest args') (hl:∀ x ∈ args',BV.lt 0 x) (hr:S.rcv f=true) (hy:Y.length=cs.length) (hk:K X (st.setBox id (.fix (jw cs0 off (Y.map CV.p)))))
 | recvEl (id sz i e n : Nat) (g : Nat → Nat → PV) (cs : List PV) (rest args' : List BV) (X : SV) (Y : List PV) (h : Vo S f cs args' (fun r cs' => r = X ∧ cs' = Y)) (he : args = .c (.pel id sz i 0) :: rest)
   (hb:st.bx id=some (.arr e sz n g)) (hi:i<n) (hsz:cs.length=sz) (hcs:∀ j,j<sz→cs.getD j .any=g i j)
   (ha:fZ rest args') (hl:∀ x ∈ args',BV.lt 0 x) (hr:S.rcv f=true) (hy:Y.length=sz) (hk:K X (st.setBox id (.arr e sz n fun i' j=>if i'=i then Y.getD j .any else g i' j)))
 | inl (X:SV) (bx':Nat→Option Bx) (nx':Nat) (h:nY S st.bx st.nx f args X bx' nx') (hr:S.rcv f=true) (hw:∀ i,nx'≤i→bx' i=none) (hk:K X ⟨st.fr,bx',nx',st.kf⟩) (hn:st.nx≤nx')
 | own (args' : List BV) (e sz n : Nat) (g : Nat → Nat → PV) (h : kr S f args' e sz n g) (ha : fZ (args.map (dp st.bx)) args') (hl : ∀ x ∈ args', BV.lt 0 x) (hr : S.rcv (f + 2000000) = true)
   (hk:K (.b (.c (.own st.nx n))) (st.newBox (.arr e sz n g)))
 | ext (args':List BV) (X:SV) (h:Bi S f args' X) (ha:fZ args args') (hl:∀ x ∈ args',BV.lt 0 x) (hk:K X st)
def RL (t:TypeId):Operand→Nat
 | .tmp a=>4000000+1000 * t+a
 | _=>4000000
def Env.frz (S:Env) (t:TypeId) (x:Operand):Bool:=S.rcv (RL t x)
def TM (b:Bool) (nx s n:Nat) (z:List Value):SV:=bif b then .b (.c (.p (.lst s n fun _ j => .val (z.getD j undef)))) else .b (.c (.own nx n))
def Vc (b:Bool) (e s n:Nat) (z:List Value):Option Bx:=bif b then none else some (.arr e s n fun _ j => .val (z.getD j undef))
theorem TD {nx s n:Nat} {z:List Value}:TM false nx s n z = .b (.c (.own nx n)):=rfl
theorem UW {nx s n:Nat} {z:List Value}:TM true nx s n z = .b (.c (.p (.lst s n fun _ j => .val (z.getD j undef)))):=rfl
theorem UO {e s n:Nat} {z:List Value}:Vc false e s n z=some (.arr e s n fun _ j => .val (z.getD j undef)):=rfl
theorem UY {e s n:Nat} {z:List Value}:Vc true e s n z=none:=rfl
def dk (S:Env) (st:St) (ev:Operand→SV) (op:Op) (K:SV→St→Prop):Prop :=
 match op with
 | .build t parts=>match S.bld t,S.zero t with
  | some pl,some z=>match gu (nu pl) ev parts.toList (z.map CV.ofV) with
   | some (vc,cs)=>vc∧K (.b (.agg cs)) st
   | none=>False
  | _,_=>False
 | .alloc t=>match S.zero t with
  | some z=>K (.b (.c (.ptr st.nx 0))) (st.newBox (.fix (z.map CV.ofV)))
  | none=>False
 | .box _ x=>match (ev x).strip with
  | .b v=>v.one∧K (.b (.c (.ptr st.nx 0))) (st.newBox (.fix v.cells))
  | _=>False
 | .buildSlice t len parts=>match S.el t with
  | some (none,e,s,_)=>match S.zero e with
   | some z=>match gu (fun i=>some (i * s,s)) ev parts.toList (((List.range (len * s)).map fun i=>CV.ofV (z.getD (i % z.length) undef))) with
    | some (vc,cs)=>(vc∧0<s∧z.length=s∧len * s≤16777216∧0≤len)∧K (.b (.c (.own st.nx len))) (st.newBox (.arr e s len fun i j=>(cs.getD (i * s+j) .any).toP))
    | none=>False
   | none=>False
  | _=>False
 | .store t p x=>match (ev p).strip,(ev x).strip,S.ti t with
  | .b (.c (.ptr id off)), .b v,some (sz,_)=>match st.bx id with
   | some (.fix cs)=>(v.cells.length=sz∧off+sz≤cs.length∧v.one)∧K .any (st.setBox id (.fix (jw cs off v.cells)))
   | _=>False
  | .b (.c (.pel id s i off)), .b v,some (sz,_)=>match st.bx id with
   | some (.arr e s' n f) => (s = s' ∧ i < n ∧ off + sz ≤ s ∧ v.cells.length = sz ∧ v.one ∧ v.lt 0) ∧
     K .any (st.setBox id (.arr e s' n fun i' j=>if i'=i then (if off≤j∧j<off+sz then (v.cells.getD (j - off) .any).toP else f i j) else f i' j))
   | _=>False
  | _,_,_=>False
 | .makeSlice t l c=>match (ev l).strip,(ev c).strip,S.el t with
  | .b (.c (.p (.val (.int _ l')))), .b (.c (.p (.val (.int _ c')))),some (none,e,s,_)=>match S.zero e,S.P.info? e with
   | some z, some i => (0 ≤ l' ∧ l' ≤ c' ∧ (i.bytes : Int) * c' ≤ 281474976710656 ∧ c' ≤ 9223372036854775807 ∧ 0 < s ∧ z.length = s) ∧
     K (TM (S.frz t l) st.nx s l'.toNat z) (st.newBoxO (Vc (S.frz t l) e s l'.toNat z))
   | _,_=>False
  | _,_,_=>False
 | .call c=>match c.callee,c.args.toList,c.argTypes.toList with
  | .builtin .append,[x,y],[t,t']=>match S.el t,su st.bx (ev y).strip with
   | some (none,e,s,_),some (vc,sz,m,g)=>match S.P.info? e,S.zero e,(ev x).strip with
    | some i,some z, .b (.c (.p (.val (.slice none 0 0)))) =>
     (vc∧t=t'∧(sz=s∨m=0)∧0<s∧z.length=s∧m * i.bytes≤140737488355328∧m≤maxLen)∧K (.b (.c (.own st.nx m))) (st.newBox (.arr e s m g))
    | some i,some z, .b (.c (.own id n))=>match st.bx id with
     | some (.arr e' s' n' f) =>
      (vc∧t=t'∧e=e'∧s=s'∧n≤n'∧(sz=s∨m=0)∧0<s∧z.length=s∧(n+m) * i.bytes≤140737488355328∧n+m≤maxLen) ∧
       K (.b (.c (.own st.nx (n+m)))) ((st.delBox id).newBox (.arr e s (n+m) (gh n f g)))
     | _=>False
    | _,_,_=>False
   | _,_=>False
  | .builtin .copy,[x,y],[t,_]=>match S.el t,(ev x).strip,(ev y).strip with
   | some (none,_,s,_), .b (.c (.sub id s1 lo n)), .b (.c (.p (.lst sz m g)))=>match st.bx id with
    | some (.arr e' s2 n' f)=>(s1=s∧s2=s∧sz=s∧n≤m∧lo+n≤n'∧0<n)∧K (.b (.c (.p (.val (.int .i64 n))))) (st.setBox id (.arr e' s2 n' fun i j=>if lo≤i∧i<lo+n then g (i - lo) j else f i j))
    | _=>False
   | _,_,_=>False
  | .value (.func f),args,_=>CallP S st f (args.map fun x=>dO (ev x)) K
  | .value (.tmp t),args,_=>match nD (ev (.tmp t)).strip with
   | some (f,xs)=>CallP S st f (args.map (fun x=>dO (ev x)) ++ xs) K
   | none=>False
  | _,_,_=>False
 | _=>False
def jo (S:Env) (st:St) (o:Oper) (K:St→Prop):Prop :=
 match ro S st.bx (st.ev S) o.op with
 | some (vc,r)=>vc∧K (st.set o.dst r)
 | none=>aV (o.op.operands.toList.map (st.ev S))∧dk S st (st.ev S) o.op fun r st'=>K (st'.set o.dst r)
def iP (st:St) (d:Option Nat) (want:Bool):Option Bool :=
 match d with
 | some d=>match st.fr d with
  | .b (.c (.p (.val (.bool t))))=>some (t == want)
  | .grd p (.c (.p (.val (.bool t))))=>some (p && (t == want))
  | _=>none
 | none=>none
def eP (S:Env) (ops:Array Oper) (st:St) (o:Oper) (K:St→Prop):Prop :=
 match o.guard with
 | none=>jo S st o K
 | some (j,want)=>match iP st ((ops[j]?).bind (·.dst)) want with
  | some g=>match ro S st.bx (st.ev S) o.op with
   | some (vc, .b r)=>r.lt st.nx∧(g=true→vc)∧K (st.set o.dst (.grd g r))
   | some (vc, .grd p r)=>r.lt st.nx∧(g=true→vc∧p=true)∧K (st.set o.dst (.grd g r))
   | _ => ((g = true → jo S st o K) ∧ (g = false → K (st.set o.dst .any))) ∨
     ∃ x:BV,x.lt st.nx∧(g=true→jo S st o fun s=>s=st.set o.dst (.b x))∧K (st.set o.dst (.grd g x))
  | none=>False
def aZ (S:Env) (ops:Array Oper):List Oper→St→(St→Prop)→Prop
 | [],st,K=>K st
 | o :: rest,st,K=>eP S ops st o fun st'=>aZ S ops rest st' K
end Go.SL
namespace Go.SL
open Go
section
variable {S:Env} {E:Ent} {st:St} {ρ:fQ} {a:Act} {w:World} {ok:Nat→Prop}
theorem Ge {u:Value} (h:u.oneCell'=true):u.cells = #[u]:=by cases u <;> first|rfl|simp [Value.oneCell'] at h
theorem LS {x:CV} {u:Value} (h:x.one) (hx:ca ρ ok w x u):u.oneCell'=true:=by
 cases x with
 | p x =>
  cases x with
  | val v=>cases hx;exact h
  | lst sz n f=>obtain ⟨_,_,rfl,_⟩:=hx;rfl
  | fn g n sz f=>obtain ⟨_,rfl,_⟩:=hx;rfl
  | any=>exact h.elim
 | ptr id off=>obtain ⟨_,_,_,rfl⟩:=hx;rfl
 | pel id sz i off=>obtain ⟨_,_,_,_,rfl⟩:=hx;rfl
 | own id n=>obtain ⟨_,_,_,_,_,_,_,rfl⟩:=hx;rfl
 | ipt sz g off=>obtain ⟨_,_,rfl,_⟩:=hx;rfl
 | clo f ps=>obtain ⟨vs,rfl,_⟩:=hx;rfl
 | sub id sz lo n=>obtain ⟨_,_,_,_,_,_,rfl⟩:=hx;rfl
theorem nz {v : BV} {u : Value} (h : v.one) (hx : bR ρ ok w v u) :
  u.cells.size=v.cells.length∧(∀ j,j<u.cells.size→(u.cells.getD j undef).oneCell'=true)∧∀ j,ca ρ ok w (v.cells.getD j .any) (u.cells.getD j undef):=by
 cases v with
 | c x =>
  have h1:=LS h hx
  rw [Ge h1]
  refine ⟨rfl,fun j hj => ?_,fun j => ?_⟩
  ·have:j=0:=by simp at hj;exact hj
   subst this
   exact h1
  ·cases j with
   | zero=>exact hx
   | succ j=>simp [BV.cells,ca,bt]
 | agg cs =>
  obtain ⟨us,rfl,hs,h1,hd⟩:=hx
  exact ⟨hs,h1,hd⟩
theorem xx (off : Nat) : ∀ (l : List Value) (n : Nat) (cells : Array Value), off + n + l.length ≤ cells.size →
  ((l.zipIdx n).foldl (fun cs x=>cs.setIfInBounds (off+x.2) x.1) cells).size=cells.size ∧
  ∀ k,((l.zipIdx n).foldl (fun cs x=>cs.setIfInBounds (off+x.2) x.1) cells)[k]?=if off+n≤k∧k<off+n+l.length then l[k - (off+n)]? else cells[k]?
 | [],n,cells,_=>⟨rfl,fun k=>by simp;intro h1 h2;omega⟩
 | x :: l,n,cells,h=>by
  simp only [List.length_cons] at h
  obtain ⟨h1,h2⟩:=xx off l (n+1) (cells.setIfInBounds (off+n) x) (by simp;omega)
  simp only [List.zipIdx_cons,List.foldl_cons]
  refine ⟨by rw [h1,Array.size_setIfInBounds],fun k => ?_⟩
  rw [h2 k]
  by_cases hk:k=off+n
  ·subst hk
   have hlt:off+n<cells.size:=by omega
   rw [if_neg (by omega),if_pos (by simp only [List.length_cons];omega)]
   simp [hlt]
  ·rw [Array.getElem?_setIfInBounds_ne (Ne.symm hk)]
   by_cases hk2:off+(n+1)≤k∧k<off+(n+1)+l.length
   ·rw [if_pos hk2,if_pos (by simp only [List.length_cons];omega)]
    have:k - (off+n)=(k - (off+(n+1)))+1:=by omega
    rw [this,List.getElem?_cons_succ]
   ·rw [if_neg hk2,if_neg (by simp only [List.length_cons];omega)]
theorem pR {cs xs:List CV} {off:Nat} (h:off+xs.length≤cs.length):(jw cs off xs).length=cs.length:=by
 simp [jw];omega
theorem qW {cs xs : List CV} {off : Nat} (h : off + xs.length ≤ cs.length) (k : Nat) :
  (jw cs off xs).getD k .any=if off≤k∧k<off+xs.length then xs.getD (k - off) .any else cs.getD k .any:=by
 simp only [jw,List.getD_eq_getElem?_getD,List.append_assoc]
 by_cases h1:k<off
 ·rw [if_neg (by omega),List.getElem?_append_left (by simp;omega),List.getElem?_take,if_pos h1]
 ·rw [List.getElem?_append_right (by simp;omega)]
  have e:(cs.take off).length=off:=by simp;omega
  rw [e]
  by_cases h2:k<off+xs.length
  ·rw [if_pos (by omega),List.getElem?_append_left (by omega)]
  ·rw [if_neg (by omega),List.getElem?_append_right (by omega),List.getElem?_drop]
   congr 2
   omega
theorem vO {cs xs:List CV} {off:Nat} {c:CV} (h:c ∈ jw cs off xs):c ∈ cs∨c ∈ xs:=by
 simp only [jw,List.mem_append] at h
 rcases h with (h|h)|h
 ·exact .inl (List.mem_of_mem_take h)
 ·exact .inr h
 ·exact .inl (List.mem_of_mem_drop h)
theorem aT? {α:Type} {c:Array α} {k:Nat} {d:α}:c.getD k d=(c[k]?).getD d:=Array.getD_eq_getD_getElem?
theorem pY {v:BV} {nx:Nat} (h:v.lt nx):∀ c ∈ v.cells,CV.lt nx c:=by
 cases v with
 | c x=>intro c hc;simp only [BV.cells,List.mem_singleton] at hc;subst hc;exact h
 | agg cs=>exact h
theorem tO {place : Nat → Option (Nat × Nat)} {ev : Operand → SV} {av : Operand → Value} {nx : Nat} : ∀ {parts : List (Nat × Operand)} {cs : List CV} {vc : Prop} {cs' : List CV} {cells : Array Value},
  gu place ev parts cs=some (vc,cs')→vc→(∀ p ∈ parts,bu ρ ok w (ev p.2).strip (av p.2)∧(ev p.2).strip.lt nx) →
  cells.size=cs.length→(∀ j,j<cells.size→(cells.getD j undef).oneCell'=true)→(∀ j,ca ρ ok w (cs.getD j .any) (cells.getD j undef))→(∀ c ∈ cs,CV.lt nx c) →
  ∃ cells',Instr.fill place cells (parts.map fun p=>(p.1,av p.2))=some cells'∧cells'.size=cs'.length∧cs'.length=cs.length ∧
   (∀ j,j<cells'.size→(cells'.getD j undef).oneCell'=true)∧(∀ j,ca ρ ok w (cs'.getD j .any) (cells'.getD j undef))∧(∀ c ∈ cs',CV.lt nx c)
 | [],cs,vc,cs',cells,h,_,_,hs,h1,hd,hl=>by
  simp only [gu,Option.some.injEq,Prod.mk.injEq] at h
  obtain ⟨_,rfl⟩:=h
  exact ⟨cells,rfl,hs,rfl,h1,hd,hl⟩
 | (i,x) :: rest,cs,vc,cs',cells,h,hvc,hev,hs,h1,hd,hl=>by
  simp only [gu] at h
  split at h
  ·rename_i off sz v hp hx
   split at h
   ·rename_i p r hr
    simp only [Option.some.injEq,Prod.mk.injEq] at h
    obtain ⟨rfl,rfl⟩:=h
    obtain ⟨⟨v1,v2,v3⟩,hp'⟩:=hvc
    have hx':=hev (i,x) (List.mem_cons_self ..)
    simp only at hx'
    rw [hx] at hx'
    obtain ⟨c1,c2,c3⟩:=nz v3 hx'.1
    have hle:off+v.cells.length≤cs.length:=by omega
    have hput:=xx off (av x).cells.toList 0 cells (by simp;omega)
    have hlen:(av x).cells.toList.length=v.cells.length:=by simpa using c1
    obtain ⟨p1,p2⟩:=hput
    have hget : ∀ k, (((av x).cells.toList.zipIdx 0).foldl (fun cs x => cs.setIfInBounds (off + x.2) x.1) cells).getD k undef =
      if off≤k∧k<off+v.cells.length then (av x).cells.getD (k - off) undef else cells.getD k undef:=fun k=>by
     rw [aT?,p2 k,hlen]
     simp only [Nat.add_zero]
     split
     ·rw [aT?];simp
     ·rw [aT?]
    obtain ⟨cells',f1,f2,f3,f4,f5,f6⟩:=tO (cells:=((av x).cells.toList.zipIdx 0).foldl (fun cs x=>cs.setIfInBounds (off+x.2) x.1) cells) hr hp'
     (fun p hp=>hev p (List.mem_cons_of_mem _ hp)) (by rw [p1,pR hle,hs])
     (fun j hj=>by
      rw [hget j]
      split
      ·exact c2 _ (by omega)
      ·exact h1 _ (by omega))
     (fun j=>by
      rw [hget j,qW hle]
      split
      ·exact c3 _
      ·exact hd j)
     (fun c hc=>by
      rcases vO hc with hc|hc
      ·exact hl c hc
      ·exact pY hx'.2 c hc)
    refine ⟨cells', ?_,f2,f3.trans (pR hle),f4,f5,f6⟩
    simp only [List.map_cons,Instr.fill,hp]
    have hc:((av x).cells.size≠sz || decide (off+(av x).cells.size>cells.size))=false:=by
     rw [c1]
     simp [v1]
     omega
    rw [if_neg (by rw [hc];simp)]
    rw [← f1]
    congr 1
    rw [← Array.foldl_toList,Array.toList_zipIdx]
   ·simp at h
  ·simp at h
theorem tC {o : Oper} {v : Value} {w' : World} {next : Act → World → Prop} {Q : Exit → Act → World → Prop} {P : Program} (hr : (execOp a.eval o).run P w = .ok (.value v) w') (hn : next (a.put o.dst v) w') :
  o.wp P a w next Q:=by
 unfold Oper.wp
 rw [hr]
 exact hn
def kO (S:Env) (E:Ent) (K:St→Prop) (a:Act) (w:World):Prop:=∃ st ρ,Gam S E st ρ a w∧K st
theorem kO.mk_set {K : St → Prop} {d : Option Nat} {r : SV} {v : Value} (g : Gam S E st ρ a w) (hd : ∀ k, d = some k → k < E.N) (hl : r.lt st.nx)
  (hv:bu ρ (bL E st.bx ρ w) w r v) (hK:K (st.set d r)):kO S E K (a.put d v) w:=⟨_,ρ,g.set hd hl hv,hK⟩
theorem jH {t:TypeId} {z:List Value} (h:S.zero t=some z):∃ i zv,S.P.info? t=some i∧i.zero=some zv∧zv.cells.toList=z∧∀ x ∈ z,x.oneCell'=true:=by
 unfold Env.zero at h
 cases hi:S.P.info? t with
 | none=>simp [hi] at h
 | some i =>
  cases hz:i.zero with
  | none=>simp [hi,hz] at h
  | some zv =>
   simp only [hi,Option.bind_some,hz] at h
   split at h
   ·rename_i hall
    simp only [Option.some.injEq] at h
    subst h
    exact ⟨i,zv,rfl,hz,rfl,fun x hx=>List.all_eq_true.1 hall x hx⟩
   ·simp at h
theorem El {l:List Value} (j:Nat):ca ρ ok w ((l.map CV.ofV).getD j .any) (l.getD j undef):=by
 by_cases hj:j<l.length
 ·simp [List.getD_eq_getElem?_getD,hj,CV.ofV,ca,bt]
 ·simp [List.getD_eq_getElem?_getD,List.getElem?_eq_none (Nat.le_of_not_lt hj),ca,bt]
theorem IT {l:List Value} {nx:Nat}:∀ c ∈ l.map CV.ofV,CV.lt nx c:=by
 intro c hc
 obtain ⟨v,_,rfl⟩:=List.mem_map.1 hc
 trivial
theorem rS (w:World) (o:Obj):RowKit.Below w.heap.size w (w.alloc o):=(RowKit.Below.refl _ _).alloc (Nat.le_refl _) o
theorem Gam.newFix (g : Gam S E st ρ a w) (cells : Array Value) (t : TypeId) (cs : List CV) (hl : ∀ c ∈ cs, CV.lt st.nx c) (hs : cells.size = cs.length)
  (h1:∀ j,j<cells.size→(cells.getD j undef).oneCell'=true) (hd:∀ j,ca ρ (bL E st.bx ρ w) w (cs.getD j .any) (cells.getD j undef)) :
  Gam S E (st.newBox (.fix cs)) (ρ.upd st.nx (.pointer (some ⟨w.heap.size,0,none⟩))) a (w.alloc (.cells cells t)):=by
 refine g.newBox (rS w _) (.fix cs) (.pointer (some ⟨w.heap.size,0,none⟩)) hl (fun b hb => ?_) (fun ok' hk => ?_)
 ·simp only [mZ,Option.some.injEq] at hb
  subst hb
  exact ⟨Nat.le_refl _,by simp⟩
 ·refine ⟨w.heap.size,0,cells,t,rfl,heap_alloc_new w _,by omega,fun j hj=>by rw [Nat.zero_add];exact h1 j (by omega),fun j => ?_⟩
  rw [Nat.zero_add]
  exact ca.mono hk (fun id hid=>by simp only [fQ.upd];rw [if_neg (by omega)]) (CV.lt_getD hl j) (hd j)
theorem tJ (st:St) (ρ:fQ) (w':World) (b:Nat) (ok:Nat→Prop):bu (ρ.upd st.nx (.pointer (some ⟨b,0,none⟩))) ok w' (.b (.c (.ptr st.nx 0))) (.pointer (some ⟨b,0,none⟩)) :=
 ⟨b,0,by simp [fQ.upd],rfl⟩
theorem wZ (st:St) (x:Bx):(SV.b (.c (.ptr st.nx 0))).lt (st.newBox x).nx:=Nat.lt_succ_self _
theorem nI (st:St) (x:Bx) (n:Nat):(SV.b (.c (.own st.nx n))).lt (st.newBox x).nx:=Nat.lt_succ_self _
theorem wH {t : TypeId} {sz : Nat} {ag : Bool} (ht : S.ti t = some (sz, ag)) (w : World) (b o : Nat) (cur : Array Value) (ty : TypeId) (u : Value)
  (hh:w.heap[b]?=some (.cells cur ty (0,0))) (hsz:u.cells.size=sz) (hle:o+sz≤cur.size) (h1:∀ j,j<u.cells.size→(u.cells.getD j undef).oneCell'=true) :
  (Instr.storeAt t (.pointer (some ⟨b,o,none⟩)) u).run S.P w = .ok () (w.setRow b (cur.toList.take o ++ u.cells.toList ++ cur.toList.drop (o+u.cells.toList.length)).toArray):=by
 have hone:∀ x ∈ u.cells.toList,x.oneCell'=true:=by
  intro x hx
  obtain ⟨j,hj,rfl⟩:=List.getElem_of_mem hx
  have:=h1 j (by simpa using hj)
  have hj':j<u.cells.size:=by simpa using hj
  simpa [hj'] using this
 have:=run_storeCells_at (P:=S.P) b o ty u.cells.toList 0 cur w hh (by simp;omega) hone
 simp only [Nat.add_zero] at this
 simp [Instr.storeAt,Instr.sureAddr,storeVar,Sem.run_bind,cn ht,hsz,this]
theorem nP {cur us : Array Value} {o : Nat} (h : o + us.size ≤ cur.size) (k : Nat) :
  ((cur.toList.take o ++ us.toList ++ cur.toList.drop (o+us.toList.length)).toArray)[k]?=if o≤k∧k<o+us.size then us[k - o]? else cur[k]?:=by
 simp only [List.getElem?_toArray,List.append_assoc]
 have e:(cur.toList.take o).length=o:=by simp;omega
 by_cases h1:k<o
 ·rw [if_neg (by omega),List.getElem?_append_left (by omega),List.getElem?_take,if_pos h1];simp
 ·rw [List.getElem?_append_right (by omega),e]
  by_cases h2:k<o+us.size
  ·rw [if_pos (by omega),List.getElem?_append_left (by simp;omega)];simp
  ·rw [if_neg (by omega),List.getElem?_append_right (by simp;omega),List.getElem?_drop]
   simp only [Array.length_toList,Array.getElem?_toList]
   congr 1
   omega
theorem ju {cur us:Array Value} {o:Nat} (h:o+us.size≤cur.size):((cur.toList.take o ++ us.toList ++ cur.toList.drop (o+us.toList.length)).toArray).size=cur.size:=by
 simp;omega
end
end Go.SL
namespace Go.SL
open Go
section
variable {S:Env} {E:Ent} {st:St} {ρ:fQ} {a:Act} {w:World}
def tM (S:Env) (E:Ent) (K:SV→St→Prop) (a:Act) (v:Value) (w':World):Prop :=
 ∃ st' ρ' r,Gam S E st' ρ' a w'∧bu ρ' (bL E st'.bx ρ' w') w' r v∧r.lt st'.nx∧K r st'
theorem tM.nxt {K:St→Prop} {d:Option Nat} {v:Value} {w':World} (hd:∀ k,d=some k→k<E.N) (h:tM S E (fun r st'=>K (st'.set d r)) a v w'):kO S E K (a.put d v) w':=by
 obtain ⟨st',ρ',r,g,hr,hl,hk⟩:=h
 exact kO.mk_set g hd hl hr hk
theorem AD {t : TypeId} {parts : Array (Nat × Operand)} {pl : Option (List (Nat × Nat)) × Nat} {z : List Value} {vc : Prop} {cs : List CV}
  (hb:S.bld t=some pl) (hz:S.zero t=some z) (hf:gu (nu pl) (st.ev S) parts.toList (z.map CV.ofV)=some (vc,cs)) (hvc:vc) (g:Gam S E st ρ a w)
  (hc:∀ p ∈ parts.toList,(st.ev S p.2).cond) :
  ∃ v,(Instr.build t (parts.map fun p=>(p.1,a.eval p.2))).run S.P w = .ok v w∧bu ρ (bL E st.bx ρ w) w (.b (.agg cs)) v∧(SV.b (.agg cs)).lt st.nx:=by
 obtain ⟨i,zv,hi,hzz,hcz,h1⟩:=jH hz
 have hev:∀ p ∈ parts.toList,bu ρ (bL E st.bx ρ w) w (st.ev S p.2).strip (a.eval p.2)∧(st.ev S p.2).strip.lt st.nx :=
  fun p hp=>⟨jt (g.ev p.2).1 (hc p hp),qt (g.ev p.2).2⟩
 obtain ⟨cells',f1,f2,f3,f4,f5,f6⟩:=tO (cells:=zv.cells) hf hvc hev (by rw [← hcz];simp)
  (fun j hj=>by
   refine h1 _ ?_
   rw [← hcz]
   simp [hj])
  (fun j=>by
   have:=El (ρ:=ρ) (ok:=bL E st.bx ρ w) (w:=w) (l:=z) j
   rw [← hcz] at this ⊢
   simpa [List.getD_eq_getElem?_getD] using this) IT
 have hbu:S.P.built t (parts.map fun p=>(p.1,a.eval p.2)).toList=some cells':=by
  unfold Env.bld at hb
  unfold Program.built
  rw [hi]
  split at hb
  ·rename_i n e hu
   cases hie:S.P.info? e with
   | none=>simp [hie] at hb
   | some ie =>
    simp only [hie,Option.map_some,Option.some.injEq] at hb
    subst hb
    simp only [hu,hzz,hie]
    rw [← f1]
    simp [nu]
    rfl
  ·rename_i fs hu
   cases hp:fs.toList.mapM (fun f=>(S.P.info? f.type).map fun i=>(f.offset,i.size)) with
   | none=>simp [hp] at hb
   | some places =>
    simp only [hp,Option.map_some,Option.some.injEq] at hb
    subst hb
    simp only [hu,hzz,hp]
    rw [← f1]
    simp [nu]
    rfl
  ·simp at hb
 exact ⟨_,run_build w t _ cells' hbu,⟨cells',rfl,f2,f4,f5⟩,f6⟩
theorem BC {t : TypeId} {z : List Value} {K : SV → St → Prop} (hz : S.zero t = some z) (g : Gam S E st ρ a w)
  (hk:K (.b (.c (.ptr st.nx 0))) (st.newBox (.fix (z.map CV.ofV)))) :
  ∃ v w',(Instr.alloc t true (.tuple #[])).run S.P w = .ok v w'∧tM S E K a v w':=by
 obtain ⟨i,zv,hi,hzz,hcz,h1⟩:=jH hz
 have hr:(Instr.alloc t true (.tuple #[])).run S.P w = .ok (.pointer (some ⟨w.heap.size,0,none⟩)) (w.alloc (.cells zv.cells t)):=by
  simp [Instr.alloc,zeroValue,typeInfo,hi,hzz,newVar,newRow]
 refine ⟨_,_,hr,_,_,_,g.newFix zv.cells t (z.map CV.ofV) IT (by rw [← hcz];simp) (fun j hj=>h1 _ (by rw [← hcz];simp [hj])) (fun j => ?_),tJ st ρ _ _ _,wZ st _,hk⟩
 have:=El (ρ:=ρ) (ok:=bL E st.bx ρ w) (w:=w) (l:=z) j
 rw [← hcz] at this ⊢
 simpa [List.getD_eq_getElem?_getD] using this
theorem Fx {t : TypeId} {v : BV} {u : Value} {K : SV → St → Prop} (h1 : v.one) (hd : bR ρ (bL E st.bx ρ w) w v u) (hl : v.lt st.nx) (g : Gam S E st ρ a w)
  (hk:K (.b (.c (.ptr st.nx 0))) (st.newBox (.fix v.cells))) :
  ∃ x w',(Instr.box t u).run S.P w = .ok x w'∧tM S E K a x w':=by
 obtain ⟨c1,c2,c3⟩:=nz h1 hd
 have hr:(Instr.box t u).run S.P w = .ok (.pointer (some ⟨w.heap.size,0,none⟩)) (w.alloc (.cells u.cells t)):=by
  simp [Instr.box,newVar,newRow]
 exact ⟨_,_,hr,_,_,_,g.newFix u.cells t v.cells (pY hl) c1 c2 c3,tJ st ρ _ _ _,wZ st _,hk⟩
theorem uQ {t : TypeId} {sz id off : Nat} {ag : Bool} {v : BV} {cs : List CV} {u p : Value} {K : SV → St → Prop} (ht : S.ti t = some (sz, ag)) (hb : st.bx id = some (.fix cs))
  (hsz:v.cells.length=sz) (hle:off+sz≤cs.length) (h1:v.one) (hp:ca ρ (bL E st.bx ρ w) w (.ptr id off) p) (hd:bR ρ (bL E st.bx ρ w) w v u) (hl:v.lt st.nx) (g:Gam S E st ρ a w)
  (hk:K .any (st.setBox id (.fix (jw cs off v.cells)))) :
  ∃ w',(Instr.storeAt t p u).run S.P w = .ok () w'∧Gam S E (st.setBox id (.fix (jw cs off v.cells))) ρ a w'∧K .any (st.setBox id (.fix (jw cs off v.cells))):=by
 obtain ⟨c1,c2,c3⟩:=nz h1 hd
 obtain ⟨b,o,cells,ty,hv,hh,hs,hone,hdb⟩:=g.bxs id _ hb
 obtain ⟨b',o',hr,rfl⟩:=hp
 rw [hv] at hr
 simp only [Value.pointer.injEq,Option.some.injEq,Addr.mk.injEq,and_true] at hr
 obtain ⟨rfl,rfl⟩:=hr
 have hfit:o+off+u.cells.size≤cells.size:=by omega
 refine ⟨_,wH ht w b (o+off) cells ty u hh (by omega) (by omega) c2, ?_,hk⟩
 have hhp:=setRow_heap w b cells (cells.toList.take (o+off) ++ u.cells.toList ++ cells.toList.drop (o+off+u.cells.toList.length)).toArray ty (0,0) hh
 have hget : ∀ k, ((cells.toList.take (o + off) ++ u.cells.toList ++ cells.toList.drop (o + off + u.cells.toList.length)).toArray).getD k undef =
   if o+off≤k∧k<o+off+u.cells.size then u.cells.getD (k - (o+off)) undef else cells.getD k undef:=fun k=>by
  rw [aT?,nP hfit]
  split <;> rw [aT?]
 have hlen:(jw cs off v.cells).length=cs.length:=pR (by omega)
 have hlt':∀ c ∈ jw cs off v.cells,CV.lt st.nx c:=fun c hc=>by
  rcases vO hc with hc|hc
  ·exact (g.wfb id _ hb).2 c hc
  ·exact pY hl c hc
 refine g.setBox hb (by rw [hv];rfl) rfl rfl rfl (Nat.le_of_eq (size_setRow w b _).symm) (fun k _ hk=>setRow_other w b k _ hk) hlt' (.inl ⟨_,_,rfl,rfl,hlen⟩)
  ⟨cells,_,ty,hh,hhp,ju hfit,fun o2 cs2 e1 e2 j hj => ?_⟩ (fun hkeep => ?_)
 ·rw [hv] at e1
  simp only [Value.pointer.injEq,Option.some.injEq,Addr.mk.injEq,true_and,and_true] at e1
  simp only [Bx.fix.injEq] at e2
  subst e1;subst e2
  rw [nP hfit,if_neg (by omega)]
 ·refine ⟨b,o,_,ty,hv,hhp,by rw [ju hfit,hlen];exact hs,fun j hj => ?_,fun j => ?_⟩
  ·rw [hget]
   split
   ·exact c2 _ (by omega)
   ·exact hone j (by omega)
  ·rw [hget,qW (by omega)]
   have e:(o+off≤o+j∧o+j<o+off+u.cells.size)↔(off≤j∧j<off+v.cells.length):=by omega
   have hρ:∀ id,id<st.nx→ρ id=ρ id:=fun _ _=>rfl
   by_cases hj:off≤j∧j<off+v.cells.length
   ·rw [if_pos hj,if_pos (e.2 hj),show o+j - (o+off)=j - off by omega]
    exact ca.mono hkeep hρ (CV.lt_getD (pY hl) _) (c3 _)
   ·rw [if_neg hj,if_neg (fun h=>hj (e.1 h))]
    exact ca.mono hkeep hρ (CV.lt_getD (g.wfb id _ hb).2 _) (hdb j)
theorem yS {x:CV} {u:Value} {ok:Nat→Prop} (h:ca ρ ok w x u):bt ok w x.toP u:=by cases x <;> first|exact h|trivial
theorem dq {i n j sz:Nat} (hi:i<n) (hj:j<sz):i * sz+j<n * sz :=
 Nat.lt_of_lt_of_le (show i * sz+j<i * sz+sz by omega) (by rw [← Nat.succ_mul];exact Nat.mul_le_mul_right _ (by omega))
theorem NM {i i' j j' sz:Nat} (hj:j<sz) (hj':j'<sz) (h:i * sz+j=i' * sz+j'):i=i'∧j=j':=by
 have h1:(i * sz+j) / sz=i:=by rw [Nat.mul_comm,Nat.mul_add_div (by omega)];simp [Nat.div_eq_of_lt hj]
 have h2:(i' * sz+j') / sz=i':=by rw [Nat.mul_comm,Nat.mul_add_div (by omega)];simp [Nat.div_eq_of_lt hj']
 have:i=i':=by rw [← h1,← h2,h]
 subst this
 exact ⟨rfl,by omega⟩
theorem vF {t : TypeId} {sz id s i off e n : Nat} {ag : Bool} {v : BV} {f : Nat → Nat → PV} {u p : Value} {K : SV → St → Prop} (ht : S.ti t = some (sz, ag)) (hb : st.bx id = some (.arr e s n f))
  (hi:i<n) (hsz:v.cells.length=sz) (hle:off+sz≤s) (h1:v.one) (hp:ca ρ (bL E st.bx ρ w) w (.pel id s i off) p) (hd:bR ρ (bL E st.bx ρ w) w v u) (g:Gam S E st ρ a w)
  (hk:K .any (st.setBox id (.arr e s n fun i' j=>if i'=i then (if off≤j∧j<off+sz then (v.cells.getD (j - off) .any).toP else f i j) else f i' j))) :
  ∃ w',(Instr.storeAt t p u).run S.P w = .ok () w' ∧
   Gam S E (st.setBox id (.arr e s n fun i' j=>if i'=i then (if off≤j∧j<off+sz then (v.cells.getD (j - off) .any).toP else f i j) else f i' j)) ρ a w' ∧
   K .any (st.setBox id (.arr e s n fun i' j=>if i'=i then (if off≤j∧j<off+sz then (v.cells.getD (j - off) .any).toP else f i j) else f i' j)):=by
 obtain ⟨c1,c2,c3⟩:=nz h1 hd
 obtain ⟨h0,xs,hown,hone,hdb⟩:=g.bxs id _ hb
 obtain ⟨b',m,c,hr,rfl⟩:=hp
 rcases hown.2 with ⟨e1,e2⟩|⟨gb,cap,cur,hv,hg0,hh,hn,hcm,hcs,htk⟩
 ·omega
 rw [hv] at hr
 simp only [Value.slice.injEq,Option.some.injEq,Addr.mk.injEq,and_true] at hr
 obtain ⟨rfl,rfl,rfl⟩:=hr
 have hrow:i * s+s≤cur.size:=by
  rw [hcs,← Nat.succ_mul];exact Nat.mul_le_mul_right _ (by omega)
 have hfit:i * s+off+u.cells.size≤cur.size:=by omega
 refine ⟨_,wH ht w gb (i * s+off) cur e u hh (by omega) (by omega) c2, ?_,hk⟩
 have hhp:=setRow_heap w gb cur (cur.toList.take (i * s+off) ++ u.cells.toList ++ cur.toList.drop (i * s+off+u.cells.toList.length)).toArray e (0,0) hh
 have hget:=fun k=>nP (cur:=cur) (us:=u.cells) (o:=i * s+off) hfit k
 refine g.setBox hb (by rw [hv];rfl) rfl rfl rfl (Nat.le_of_eq (size_setRow w gb _).symm) (fun k _ hk=>setRow_other w gb k _ hk) trivial (.inr ⟨_,_,_,_,_,rfl,rfl⟩)
  ⟨cur,_,e,hh,hhp,ju hfit,fun o2 cs2 e1 e2 j hj=>by rw [hv] at e1;cases e1⟩ (fun hkeep => ?_)
 have hlenxs:xs.length=n * s:=hown.1
 have hxs:∀ k,k<n * s→xs.getD k undef=cur.getD k undef:=fun k hkk=>by
  rw [← htk]
  simp [List.getElem?_take,hkk]
 let cur':=(cur.toList.take (i * s+off) ++ u.cells.toList ++ cur.toList.drop (i * s+off+u.cells.toList.length)).toArray
 have hsz':cur'.size=cur.size:=ju hfit
 have hcc:n * s≤cur.size:=by rw [hcs];exact Nat.mul_le_mul_right _ hn
 have hget':∀ k,k<n * s→(cur'.toList.take (n * s)).getD k undef=if i * s+off≤k∧k<i * s+off+u.cells.size then u.cells.getD (k - (i * s+off)) undef else cur.getD k undef:=fun k hkk=>by
  rw [List.getD_eq_getElem?_getD,List.getElem?_take,if_pos hkk,Array.getElem?_toList]
  show (cur'[k]?).getD undef=_
  rw [hget k]
  split <;> rw [aT?]
 refine ⟨h0,cur'.toList.take (n * s),⟨by rw [List.length_take,Array.length_toList,hsz'];omega, .inr ⟨gb,cap,cur',hv,hg0,hhp,hn,hcm,by rw [hsz',hcs],rfl⟩⟩,fun x hx => ?_,fun i' hi' j hj => ?_⟩
 ·obtain ⟨k,hk1,rfl⟩:=List.getElem_of_mem hx
  have hk2:k<n * s:=by simp at hk1;omega
  have e:=hget' k hk2
  rw [List.getD_eq_getElem?_getD,List.getElem?_eq_getElem hk1] at e
  simp only [Option.getD_some] at e
  rw [e]
  split
  ·exact c2 _ (by omega)
  ·rw [← hxs k hk2]
   refine hone _ ?_
   rw [List.getD_eq_getElem?_getD,List.getElem?_eq_getElem (by omega)]
   exact List.getElem_mem _
 ·rw [hget' _ (dq hi' hj)]
  dsimp only
  by_cases he:i'=i
  ·subst he
   rw [if_pos rfl]
   by_cases hjj:off≤j∧j<off+sz
   ·rw [if_pos hjj,if_pos (by omega),show i' * s+j - (i' * s+off)=j - off by omega]
    exact bt.mono hkeep (yS (c3 _))
   ·rw [if_neg hjj,if_neg (by omega),← hxs _ (dq hi' hj)]
    exact bt.mono hkeep (hdb i' hi' j hj)
  ·rw [if_neg he,if_neg,← hxs _ (dq hi' hj)]
   ·exact bt.mono hkeep (hdb i' hi' j hj)
   ·rintro ⟨q1,q2⟩
    have hq:i' * s+j=i * s+(i' * s+j - i * s):=by omega
    have:=(NM hj (show i' * s+j - i * s<s by omega) hq).1
    exact he this
theorem Qz {k n s:Nat} (h:k<n * s):k / s<n∧k % s<s∧k / s * s+k % s=k:=by
 have hs:0<s:=by
  rcases Nat.eq_zero_or_pos s with rfl|q
  ·simp at h
  ·exact q
 refine ⟨(Nat.div_lt_iff_lt_mul hs).2 h,Nat.mod_lt _ hs, ?_⟩
 rw [Nat.mul_comm];exact Nat.div_add_mod k s
theorem CB {t t' ty e e' s id lo n m N : Nat} {ag : Bool} {q f : Nat → Nat → PV} {ud us : Value} {K : SV → St → Prop} (he : S.el t = some (none, e, s, ag)) (hb : st.bx id = some (.arr e' s N f))
  (hnm:n≤m) (hlo:lo+n≤N) (hn0:0<n) (hd:ca ρ (bL E st.bx ρ w) w (.sub id s lo n) ud) (hs:bt (bL E st.bx ρ w) w (.lst s m q) us) (g:Gam S E st ρ a w)
  (hk:K (.b (.c (.p (.val (.int .i64 n))))) (st.setBox id (.arr e' s N fun i j=>if lo≤i∧i<lo+n then q (i - lo) j else f i j))) :
  ∃ v w',(Builtin.copy_ #[t,t'] ty #[ud,us]).run S.P w = .ok v w'∧tM S E K a v w':=by
 obtain ⟨hu,hti⟩:=ln he
 obtain ⟨h0,xs,hown,hone,hdb⟩:=g.bxs id _ hb
 obtain ⟨b',M,c,c',hr,hle,rfl⟩:=hd
 rcases hown.2 with ⟨e1,e2⟩|⟨gb,cap,cur,hv,hg0,hh,hn,hcm,hcs,htk⟩
 ·omega
 rw [hv] at hr
 simp only [Value.slice.injEq,Option.some.injEq,Addr.mk.injEq,and_true] at hr
 obtain ⟨rfl,rfl,rfl⟩:=hr
 obtain ⟨sa,sc,rfl,hmc,hsrc⟩:=hs
 obtain ⟨sb,so,rfl,hok,hcell⟩:=hsrc (by omega)
 let vf:Nat→Value:=fun k=>(w.cell? ⟨sb,so+k,none⟩).getD undef
 have key:∀ k,k<n * s→w.cell? ⟨sb,so+k,none⟩=some (vf k)∧(vf k).oneCell'=true∧bt (bL E st.bx ρ w) w (q (k / s) (k % s)) (vf k):=fun k hk=>by
  obtain ⟨q1,q2,q3⟩:=Qz hk
  obtain ⟨x,hx,h1,h2⟩:=hcell (k / s) (by omega) (k % s) q2
  rw [q3] at hx
  have e:vf k=x:=by show (w.cell? _).getD undef=x;rw [hx];rfl
  rw [e]
  exact ⟨hx,h1,h2⟩
 let cs:Array Value:=((List.range (n * s)).map vf).toArray
 have hcs1:cs.size=n * s:=by simp [cs]
 have hcsl:cs.toList.length=n * s:=by simp [cs]
 have hget0:∀ k,k<n * s→cs.getD k undef=vf k:=fun k hk=>by simp [cs,hk]
 have hone2:∀ v ∈ cs.toList,v.oneCell'=true:=fun v hv=>by
  have hv:v ∈ (List.range (n * s)).map vf:=by simpa [cs] using hv
  obtain ⟨k,hk,rfl⟩:=List.mem_map.1 hv
  exact (key k (List.mem_range.1 hk)).2.1
 have hmul:(lo+n) * s≤N * s:=Nat.mul_le_mul_right _ hlo
 have hcc:N * s≤cur.size:=by rw [hcs];exact Nat.mul_le_mul_right _ hn
 have hfit:lo * s+cs.size≤cur.size:=by rw [hcs1];rw [Nat.add_mul] at hmul;omega
 have hload:(loadCells ⟨sb,so,none⟩ (n * s)).run S.P w = .ok cs w:=run_loadCells w ⟨sb,so,none⟩ (n * s) vf fun j hj=>by rw [Addr.add_lit];exact (key j hj).1
 have hst:=run_storeCells_at S.P gb (lo * s) e' cs.toList 0 cur w hh (by rw [hcsl];omega) hone2
 rw [Nat.add_zero] at hst
 have hmin:Nat.min m n=n:=Nat.min_eq_right hnm
 have hrun : (Builtin.copy_ #[t, t'] ty #[.slice (some ⟨gb, lo * s, none⟩) n c', .slice (some ⟨sb, so, none⟩) m sc]).run S.P w =
   .ok (goInt n) (w.setRow gb (cur.toList.take (lo * s) ++ cs.toList ++ cur.toList.drop (lo * s+cs.toList.length)).toArray):=by
  simp [Builtin.copy_,Sem.run_bind,run_underlying hu,Builtin.lenOf,Builtin.firstCells,cn hti,hmin,hload,hst]
 refine ⟨_,_,hrun,st.setBox id (.arr e' s N fun i j=>if lo≤i∧i<lo+n then q (i - lo) j else f i j),ρ, .b (.c (.p (.val (.int .i64 n)))), ?_,rfl,trivial,hk⟩
 have hhp:=setRow_heap w gb cur (cur.toList.take (lo * s) ++ cs.toList ++ cur.toList.drop (lo * s+cs.toList.length)).toArray e' (0,0) hh
 have hget:=fun k=>nP (cur:=cur) (us:=cs) (o:=lo * s) hfit k
 refine g.setBox hb (by rw [hv];rfl) rfl rfl rfl (Nat.le_of_eq (size_setRow w gb _).symm) (fun k _ hk=>setRow_other w gb k _ hk) trivial (.inr ⟨_,_,_,_,_,rfl,rfl⟩)
  ⟨cur,_,e',hh,hhp,ju hfit,fun o2 cs2 e1 e2 j hj=>by rw [hv] at e1;cases e1⟩ (fun hkeep => ?_)
 have hlenxs:xs.length=N * s:=hown.1
 have hxs:∀ k,k<N * s→xs.getD k undef=cur.getD k undef:=fun k hkk=>by
  rw [← htk]
  simp [List.getElem?_take,hkk]
 let cur':=(cur.toList.take (lo * s) ++ cs.toList ++ cur.toList.drop (lo * s+cs.toList.length)).toArray
 have hsz':cur'.size=cur.size:=ju hfit
 have hget':∀ k,k<N * s→(cur'.toList.take (N * s)).getD k undef=if lo * s≤k∧k<lo * s+cs.size then cs.getD (k - lo * s) undef else cur.getD k undef:=fun k hkk=>by
  rw [List.getD_eq_getElem?_getD,List.getElem?_take,if_pos hkk,Array.getElem?_toList]
  show (cur'[k]?).getD undef=_
  rw [hget k]
  split <;> rw [aT?]
 refine ⟨h0,cur'.toList.take (N * s),⟨by rw [List.length_take,Array.length_toList,hsz'];omega, .inr ⟨gb,cap,cur',hv,hg0,hhp,hn,hcm,by rw [hsz',hcs],rfl⟩⟩,fun x hx => ?_,fun i hi j hj => ?_⟩
 ·obtain ⟨k,hk1,rfl⟩:=List.getElem_of_mem hx
  have hk2:k<N * s:=by simp at hk1;omega
  have e:=hget' k hk2
  rw [List.getD_eq_getElem?_getD,List.getElem?_eq_getElem hk1] at e
  simp only [Option.getD_some] at e
  rw [e]
  split
  ·rw [hget0 _ (by omega)]
   exact (key _ (by omega)).2.1
  ·rw [← hxs k hk2]
   refine hone _ ?_
   rw [List.getD_eq_getElem?_getD,List.getElem?_eq_getElem (by omega)]
   exact List.getElem_mem _
 ·rw [hget' _ (dq hi hj)]
  dsimp only
  by_cases hin:lo≤i∧i<lo+n
  ·have a1:lo * s≤i * s:=Nat.mul_le_mul_right _ hin.1
   have a2:(i - lo) * s+j<n * s:=dq (by omega) hj
   have a3:(i - lo) * s=i * s - lo * s:=Nat.sub_mul ..
   rw [if_pos hin,if_pos (by omega),show i * s+j - lo * s=(i - lo) * s+j by omega,hget0 _ a2]
   have h3:=(key _ a2).2.2
   have d1:((i - lo) * s+j) / s=i - lo:=by rw [Nat.mul_comm,Nat.mul_add_div (by omega)];simp [Nat.div_eq_of_lt hj]
   have d2:((i - lo) * s+j) % s=j:=by rw [Nat.mul_comm,Nat.mul_add_mod];exact Nat.mod_eq_of_lt hj
   rw [d1,d2] at h3
   exact bt.mono hkeep h3
  ·rw [if_neg hin,if_neg,← hxs _ (dq hi hj)]
   ·exact bt.mono hkeep (hdb i hi j hj)
   ·rintro ⟨q1,q2⟩
    refine hin ⟨?_, ?_⟩
    ·refine Nat.le_of_not_lt fun hc => ?_
     have:(i+1) * s≤lo * s:=Nat.mul_le_mul_right _ hc
     rw [Nat.succ_mul] at this
     omega
    ·refine Nat.lt_of_not_le fun hc => ?_
     have:(lo+n) * s≤i * s:=Nat.mul_le_mul_right _ hc
     rw [Nat.add_mul] at this
     omega
end
end Go.SL
namespace Go.SL
open Go
section
variable {S:Env} {E:Ent} {st:St} {ρ:fQ} {a:Act} {w:World}
theorem Gam.newArr (g : Gam S E st ρ a w) (cells : Array Value) (e s len cap : Nat) (f : Nat → Nat → PV) (h0 : 0 < s) (hcap : cap ≤ maxLen) (hlc : len ≤ cap) (hs : cells.size = cap * s)
  (h1:∀ j,j<cells.size→(cells.getD j undef).oneCell'=true) (hd:∀ i,i<len→∀ j,j<s→bt (bL E st.bx ρ w) w (f i j) (cells.getD (i * s+j) undef)) :
  Gam S E (st.newBox (.arr e s len f)) (ρ.upd st.nx (.slice (some ⟨w.heap.size,0,none⟩) len cap)) a (w.alloc (.cells cells e)):=by
 refine g.newBox (rS w _) (.arr e s len f) _ trivial (fun b hb => ?_) (fun ok' hk => ?_)
 ·simp only [mZ,Option.some.injEq] at hb
  subst hb
  exact ⟨Nat.le_refl _,by simp⟩
 ·have hle:len * s≤cap * s:=Nat.mul_le_mul_right _ hlc
  refine ⟨h0,cells.toList.take (len * s),⟨by rw [List.length_take,Array.length_toList,hs];omega, .inr ⟨w.heap.size,cap,cells,rfl,Nat.zero_le _,heap_alloc_new w _,hlc,hcap,hs,rfl⟩⟩,fun x hx => ?_,fun i hi j hj => ?_⟩
  ·obtain ⟨k,hk1,rfl⟩:=List.getElem_of_mem hx
   have hk2:k<cells.size:=by simp at hk1;omega
   have:=h1 k hk2
   simpa [hk2] using this
  ·have hlt:i * s+j<len * s:=dq hi hj
   have e:(cells.toList.take (len * s)).getD (i * s+j) undef=cells.getD (i * s+j) undef:=by
    rw [List.getD_eq_getElem?_getD,List.getElem?_take,if_pos hlt,Array.getElem?_toList,aT?]
   rw [e]
   exact bt.mono hk (hd i hi j hj)
theorem tr (st : St) (ρ : fQ) (w' : World) (b n c : Nat) (ok : Nat → Prop) (h : n ≤ c) :
  bu (ρ.upd st.nx (.slice (some ⟨b,0,none⟩) n c)) ok w' (.b (.c (.own st.nx n))) (.slice (some ⟨b,0,none⟩) n c) :=
 ⟨some ⟨b,0,none⟩,n,c,by simp [fQ.upd],Nat.le_refl _,h,fun _=>⟨b,rfl⟩,rfl⟩
theorem uB {α:Type} {n k:Nat} {f:Nat→α} {d:α} (h:k<n):((List.range n).map f).getD k d=f k:=by
 simp [List.getD_eq_getElem?_getD,h]
theorem rf {t len e s : Nat} {ag : Bool} {parts : Array (Nat × Operand)} {z : List Value} {vc : Prop} {cs : List CV} {K : SV → St → Prop}
  (he:S.el t=some (none,e,s,ag)) (hz:S.zero e=some z) (hf:gu (fun i=>some (i * s,s)) (st.ev S) parts.toList ((List.range (len * s)).map fun i=>CV.ofV (z.getD (i % z.length) undef))=some (vc,cs))
  (hvc:vc) (h0:0<s) (hzl:z.length=s) (hsm:len * s≤16777216) (_hl0:0≤len) (g:Gam S E st ρ a w) (hc:∀ p ∈ parts.toList,(st.ev S p.2).cond)
  (hk:K (.b (.c (.own st.nx len))) (st.newBox (.arr e s len fun i j=>(cs.getD (i * s+j) .any).toP))) :
  ∃ v w',(Instr.buildSlice t len (parts.map fun p=>(p.1,a.eval p.2))).run S.P w = .ok v w'∧tM S E K a v w':=by
 obtain ⟨hu,hti⟩:=ln he
 obtain ⟨i,zv,hi,hzz,hcz,h1⟩:=jH hz
 have hzs:zv.cells.size=s:=by rw [← hzl,← hcz];simp
 have hev:∀ p ∈ parts.toList,bu ρ (bL E st.bx ρ w) w (st.ev S p.2).strip (a.eval p.2)∧(st.ev S p.2).strip.lt st.nx :=
  fun p hp=>⟨jt (g.ev p.2).1 (hc p hp),qt (g.ev p.2).2⟩
 have hzget:∀ k,zv.cells[k % zv.cells.size]! = z.getD (k % z.length) undef:=fun k=>by
  have hk:k % zv.cells.size<zv.cells.size:=Nat.mod_lt _ (by omega)
  rw [getElem!_pos zv.cells _ hk,← hcz]
  simp [List.getD_eq_getElem?_getD,hk]
 obtain ⟨cells',f1,f2,f3,f4,f5,f6⟩:=tO (cells:=(Array.range (len * s)).map (zv.cells[· % zv.cells.size]!)) hf hvc hev (by simp)
  (fun j hj=>by
   have hj':j<len * s:=by simpa using hj
   have hz':j % z.length<z.length:=Nat.mod_lt _ (by omega)
   simp only [aT?,Array.getElem?_map,Array.getElem?_range,hj',if_true,Option.map_some,Option.getD_some,hzget]
   rw [List.getD_eq_getElem?_getD,List.getElem?_eq_getElem hz']
   exact h1 _ (List.getElem_mem hz'))
  (fun j=>by
   by_cases hj':j<len * s
   ·rw [uB hj']
    simp only [aT?,Array.getElem?_map,Array.getElem?_range,hj',if_true,Option.map_some,Option.getD_some,hzget]
    rfl
   ·rw [List.getD_eq_getElem?_getD,List.getElem?_eq_none (by simp;omega)];trivial) (fun c hc=>by
   obtain ⟨_,_,rfl⟩:=List.mem_map.1 hc
   trivial)
 have hlen:cells'.size=len * s:=by rw [f2,f3];simp
 have hr:(Instr.buildSlice t len (parts.map fun p=>(p.1,a.eval p.2))).run S.P w = .ok (.slice (some ⟨w.heap.size,0,none⟩) len len) (w.alloc (.cells cells' e)):=by
  have hns:¬ (16777216<len * s):=by omega
  rcases Nat.eq_zero_or_pos len with e0|hl0
  ·subst e0
   have q:(Array.range (0 * s)).map (zv.cells[· % zv.cells.size]!) = #[]:=by simp
   rw [q] at f1
   have q2:Array.map (fun _:Nat=>(default:Value)) (Array.range 0) = #[]:=by simp
   simp [Instr.buildSlice,Sem.run_bind,run_underlying hu,cn hti,q2,f1,newRow]
  have hz0:¬ (len * s=0):=Nat.ne_of_gt (Nat.mul_pos hl0 h0)
  simp [Instr.buildSlice,Sem.run_bind,run_underlying hu,cn hti,hns,hz0,zeroValue,typeInfo,hi,hzz,f1,newRow]
 have hmax:len≤maxLen:=by
  have:len≤len * s:=Nat.le_mul_of_pos_right _ h0
  unfold maxLen;omega
 exact ⟨_,_,hr,_,_,_,g.newArr cells' e s len len _ h0 hmax (Nat.le_refl _) hlen f4 (fun i _ j _=>yS (f5 _)),tr st ρ _ _ _ _ _ (Nat.le_refl _),nI st _ _,hk⟩
theorem sI {t e s : Nat} {ag : Bool} {kl kc : IntKind} {l c : Int} {z : List Value} {i : TypeInfo} {K : SV → St → Prop}
  (he:S.el t=some (none,e,s,ag)) (hz:S.zero e=some z) (hi:S.P.info? e=some i) (hl:0≤l) (hlc:l≤c) (hb:(i.bytes:Int) * c≤281474976710656) (h63:c≤9223372036854775807)
  (h0:0<s) (hzl:z.length=s) {fz:Bool} (g:Gam S E st ρ a w)
  (hk:K (TM fz st.nx s l.toNat z) (st.newBoxO (Vc fz e s l.toNat z))) :
  ∃ v w',(Instr.makeSlice t (.int kl l) (.int kc c)).run S.P w = .ok v w'∧tM S E K a v w':=by
 obtain ⟨hu,hti⟩:=ln he
 obtain ⟨i',zv,hi',hzz,hcz,h1⟩:=jH hz
 rw [hi] at hi'
 simp only [Option.some.injEq] at hi'
 subst hi'
 obtain ⟨i2,d,hi2,hs2,_,_⟩:=pP hti
 rw [hi] at hi2
 simp only [Option.some.injEq] at hi2
 subst hi2
 have hr:=run_make (P:=S.P) w t e i zv hu hi hzz kl kc l c hl hlc hb h63
 have hzs:zv.cells.size=s:=by rw [← hzl,← hcz];simp
 have hget:∀ k,k<c.toNat * s→(madeCells zv.cells (c.toNat * i.size)).getD k undef=z.getD (k % s) undef:=fun k hkk=>by
  have hm:k % zv.cells.size<zv.cells.size:=Nat.mod_lt _ (by omega)
  rw [hs2]
  simp only [madeCells,aT?,Array.getElem?_map,Array.getElem?_range,hkk,if_true,Option.map_some,Option.getD_some]
  rw [getElem!_pos zv.cells _ hm,← hcz]
  simp only [hzs] at hm ⊢
  simp [List.getD_eq_getElem?_getD,hzs,hm]
 have hsz:(madeCells zv.cells (c.toNat * i.size)).size=c.toNat * s:=by rw [size_madeCells,hs2]
 have hmod:∀ i j,j<s→(i * s+j) % s=j:=fun i j hj=>by rw [Nat.mul_comm,Nat.mul_add_mod,Nat.mod_eq_of_lt hj]
 have hone:∀ j,j<(madeCells zv.cells (c.toNat * i.size)).size→((madeCells zv.cells (c.toNat * i.size)).getD j undef).oneCell'=true:=fun j hj=>by
  rw [hget j (by omega)]
  have hm:j % s<z.length:=by rw [hzl];exact Nat.mod_lt _ h0
  rw [List.getD_eq_getElem?_getD,List.getElem?_eq_getElem hm]
  exact h1 _ (List.getElem_mem hm)
 have hel:∀ i',i'<l.toNat→∀ j,j<s→(madeCells zv.cells (c.toNat * i.size)).getD (i' * s+j) undef=z.getD j undef:=fun i' hi' j hj=>by
  have hlt:i' * s+j<c.toNat * s:=Nat.lt_of_lt_of_le (dq hi' hj) (Nat.mul_le_mul_right _ (by omega))
  rw [hget _ hlt,hmod _ _ hj]
 have G:=g.newArr (madeCells zv.cells (c.toNat * i.size)) e s l.toNat c.toNat (fun _ j => .val (z.getD j undef)) h0 (by unfold maxLen;omega) (by omega) hsz hone (fun i' hi' j hj=>by rw [hel i' hi' j hj];rfl)
 cases fz with
 | false=>exact ⟨_,_,hr,_,_,_,G,tr st ρ _ _ _ _ _ (by omega),nI st _ _,hk⟩
 | true =>
  have e1:(st.newBox (.arr e s l.toNat fun _ j => .val (z.getD j undef))).delBox st.nx=st.newBoxO none:=by
   simp only [St.newBox,St.delBox,St.newBoxO,St.mk.injEq,true_and,and_true]
   funext k
   by_cases hk:k=st.nx
   ·simp [hk]
   ·simp [hk]
  have G2:=G.delBox st.nx
  rw [e1] at G2
  refine ⟨_,_,hr,_,_, .b (.c (.p (.lst s l.toNat fun _ j => .val (z.getD j undef)))),G2,⟨_,_,rfl,by omega,fun hn=>⟨_,0,rfl,⟨by simp,fun q => ?_,fun id hid hbk => ?_⟩,fun i' hi' j hj => ?_⟩⟩,trivial,hk⟩
  ·have:=g.frm.size
   omega
  ·by_cases hq:id=st.nx
   ·rw [hq] at hid
    exact hid (by simp [St.newBoxO])
   ·have hne:st.bx id≠none:=by
     intro hx
     refine hid ?_
     simp only [St.newBoxO,if_neg hq,hx]
    cases hx:st.bx id with
    | none=>exact hne hx
    | some x =>
     have hr2:(ρ.upd st.nx (.slice (some ⟨w.heap.size,0,none⟩) l.toNat c.toNat)) id=ρ id:=by simp only [fQ.upd];rw [if_neg hq]
     rw [hr2] at hbk
     have:=(g.new id x _ hx hbk).1
     omega
  ·have hlt:i' * s+j<(madeCells zv.cells (c.toNat * i.size)).size:=by
    rw [hsz]
    exact Nat.lt_of_lt_of_le (dq hi' hj) (Nat.mul_le_mul_right _ (by omega))
   refine ⟨_,by rw [Nat.zero_add];exact bG (heap_alloc_new w _) hlt,hone _ hlt, ?_⟩
   rw [hel i' hi' j hj]
   rfl
theorem LY {y : SV} {vc : Prop} {sz m : Nat} {gg : Nat → Nat → PV} {u : Value} (h : su st.bx y = some (vc, sz, m, gg)) (hvc : vc) (g : Gam S E st ρ a w) (hy : bu ρ (bL E st.bx ρ w) w y u) :
  ∃ A c,u = .slice A m c∧(0<m→∃ b o,A=some ⟨b,o,none⟩∧∀ i,i<m→∀ j,j<sz→∃ x,w.cell? ⟨b,o+(i * sz+j),none⟩=some x∧x.oneCell'=true∧bt (bL E st.bx ρ w) w (gg i j) x):=by
 unfold su at h
 split at h
 ·simp only [Option.some.injEq,Prod.mk.injEq] at h
  obtain ⟨_,rfl,rfl,rfl⟩:=h
  obtain ⟨A,c,hu,_,hc⟩:=hy
  refine ⟨A,c,hu,fun h0 => ?_⟩
  obtain ⟨b,o,hA,_,hcc⟩:=hc h0
  exact ⟨b,o,hA,hcc⟩
 ·rename_i id n
  split at h
  ·rename_i e sz' n' f hb
   simp only [Option.some.injEq,Prod.mk.injEq] at h
   obtain ⟨rfl,rfl,rfl,rfl⟩:=h
   obtain ⟨A,m',c,hr,h1,h2,h3,hu⟩:=hy
   refine ⟨A,c,hu,fun h0 => ?_⟩
   obtain ⟨hs0,xs,hown,hone,hd⟩:=g.bxs id _ hb
   rcases hown.2 with ⟨e1,e2⟩|⟨gb,cap,cur,hv,_,hh,hn,_,hcs,htk⟩
   ·omega
   ·rw [hr] at hv
    simp only [Value.slice.injEq] at hv
    obtain ⟨rfl,rfl,rfl⟩:=hv
    refine ⟨gb,0,rfl,fun i hi j hj => ?_⟩
    have hlt:i * sz'+j<m' * sz':=dq (by omega) hj
    have hlt2:i * sz'+j<cur.size:=by rw [hcs];exact Nat.lt_of_lt_of_le hlt (Nat.mul_le_mul_right _ hn)
    have hlx:i * sz'+j<xs.length:=by rw [hown.1];exact hlt
    have hxe:xs.getD (i * sz'+j) undef=cur.getD (i * sz'+j) undef:=by
     rw [← htk];simp [List.getElem?_take,hlt]
    refine ⟨cur.getD (i * sz'+j) undef,by rw [Nat.zero_add];exact bG hh hlt2, ?_, ?_⟩
    ·rw [← hxe,List.getD_eq_getElem?_getD,List.getElem?_eq_getElem hlx]
     exact hone _ (List.getElem_mem hlx)
    ·rw [← hxe]
     exact hd i (by omega) j hj
  ·simp at h
 ·simp at h
theorem vA (t ty e : TypeId) (i : TypeInfo) (size : Nat) (ht : S.P.underlying t = some (.slice e)) (hi : S.P.info? e = some i)
  (v:Value) (n:Nat) (xs:List Value) (hown:w.ownsRow 0 e size v n xs) (c:Nat):(Builtin.append_ #[t,t] ty #[v, .slice none 0 c]).run S.P w = .ok v w:=by
 rcases hown.2 with ⟨rfl,rfl⟩|⟨g,cap,cur,rfl,_,_,hnc,_⟩
 ·simp [Builtin.append_,run_underlying ht,sizeOf,typeInfo,hi,Builtin.lenOf,Builtin.firstCells]
 ·simp [Builtin.append_,run_underlying ht,sizeOf,typeInfo,hi,Builtin.lenOf,Builtin.firstCells,hnc,storeCells]
theorem tP {t ty e s m n : Nat} {ag : Bool} {i : TypeInfo} {z : List Value} {y : SV} {vc : Prop} {sz : Nat} {gg : Nat → Nat → PV} {u v : Value} {xs : List Value}
  (he:S.el t=some (none,e,s,ag)) (hz:S.zero e=some z) (hi:S.P.info? e=some i) (hsrc:su st.bx y=some (vc,sz,m,gg)) (hvc:vc) (hsz:sz=s∨m=0) (h0:0<s) (hzl:z.length=s)
  (hby:(n+m) * i.bytes≤140737488355328) (hmx:n+m≤maxLen) (g:Gam S E st ρ a w) (hy:bu ρ (bL E st.bx ρ w) w y u) (hown:w.ownsRow 0 e s v n xs) :
  ∃ v' w' news,(Builtin.append_ #[t,t] ty #[v,u]).run S.P w = .ok v' w'∧w'.ownsRow 0 e s v' (n+m) (xs ++ news)∧w.grownBy w' v.ownBlock∧(v'.ownBlock=v.ownBlock∨v'.ownBlock=some w.heap.size) ∧
   (∀ x ∈ news,x.oneCell'=true)∧∀ i,i<m→∀ j,j<s→bt (bL E st.bx ρ w) w (gg i j) (news.getD (i * s+j) undef):=by
 obtain ⟨hu,hti⟩:=ln he
 obtain ⟨i',zv,hi',hzz,hcz,h1⟩:=jH hz
 rw [hi] at hi'
 simp only [Option.some.injEq] at hi'
 subst hi'
 obtain ⟨i2,d,hi2,hs2,_,_⟩:=pP hti
 rw [hi] at hi2
 simp only [Option.some.injEq] at hi2
 subst hi2
 have hzs:zv.cells.size=s:=by rw [← hzl,← hcz];simp
 obtain ⟨A,c,rfl,hc⟩:=LY hsrc hvc g hy
 rcases Nat.eq_zero_or_pos m with hm|hm
 ·subst hm
  cases A with
  | none=>exact ⟨v,w,[],vA t ty e i s hu hi v n xs hown c,by simpa using hown,World.grownBy.refl w _, .inl rfl,by simp,fun i hi=>by omega⟩
  | some ad =>
   obtain ⟨v',w',hr,q1,q2,_,q4⟩:=run_append_own_at (P:=S.P) w 0 t ty e i zv s i.bytes hu hi hzz hs2 rfl hzs h0 v n xs hown ad 0 c [] (by simp) (by simp) (by simp) hmx hby (Nat.zero_le _)
   exact ⟨v',w',[],hr,q1,q2,q4,by simp,fun i hi=>by omega⟩
 ·obtain ⟨b,o,rfl,hcc⟩:=hc hm
  have hsz':sz=s:=by omega
  subst hsz'
  let news:=(List.range (m * sz)).map fun k=>(w.cell? ⟨b,o+k,none⟩).getD undef
  have hdiv:∀ k,k<m * sz→k / sz<m∧k % sz<sz∧k / sz * sz+k % sz=k:=fun k hk =>
   ⟨Nat.div_lt_of_lt_mul (by rw [Nat.mul_comm];exact hk),Nat.mod_lt _ h0,by rw [Nat.mul_comm];exact Nat.div_add_mod k sz⟩
  have hcell:∀ k,k<m * sz→∃ x,w.cell? ⟨b,o+k,none⟩=some x∧x.oneCell'=true:=fun k hk=>by
   obtain ⟨d1,d2,d3⟩:=hdiv k hk
   obtain ⟨x,hx,hx1,_⟩:=hcc _ d1 _ d2
   rw [d3] at hx
   exact ⟨x,hx,hx1⟩
  have hnl:news.length=m * sz:=by simp [news]
  obtain ⟨v',w',hr,q1,q2,_,q4⟩:=run_append_own_at (P:=S.P) w 0 t ty e i zv sz i.bytes hu hi hzz hs2 rfl hzs h0 v n xs hown ⟨b,o,none⟩ m c news hnl
   (fun j x hx=>by
    have hj:j<m * sz:=by
     rcases Nat.lt_or_ge j (m * sz) with h|h
     ·exact h
     ·rw [List.getElem?_eq_none (by omega)] at hx;cases hx
    obtain ⟨y,hy,_⟩:=hcell j hj
    have:news[j]?=some y:=by simp [news,hj,hy]
    rw [this] at hx
    simp only [Option.some.injEq] at hx
    subst hx
    rw [Addr.add_lit];exact hy)
   (fun x hx=>by
    obtain ⟨k,hk,rfl⟩:=List.mem_map.1 hx
    obtain ⟨y,hy,hy1⟩:=hcell k (List.mem_range.1 hk)
    rw [hy];exact hy1) hmx hby (Nat.zero_le _)
  refine ⟨v',w',news,hr,q1,q2,q4,fun x hx => ?_,fun i' hi' j hj => ?_⟩
  ·obtain ⟨k,hk,rfl⟩:=List.mem_map.1 hx
   obtain ⟨y,hy,hy1⟩:=hcell k (List.mem_range.1 hk)
   rw [hy];exact hy1
  ·obtain ⟨x,hx,_,hd⟩:=hcc i' hi' j hj
   have:news.getD (i' * sz+j) undef=x:=by rw [show news=_ from rfl,uB (dq hi' hj),hx];rfl
   rw [this];exact hd
theorem lZ {w:World} {e s n:Nat} {v:Value} {xs:List Value} (h:w.ownsRow 0 e s v n xs):v.ownBlock=mZ v:=by
 rcases h.2 with ⟨rfl,_⟩|⟨gb,cap,cur,rfl,_⟩ <;> rfl
theorem Dl {w:World} {e s n b:Nat} {v:Value} {xs:List Value} (h:w.ownsRow 0 e s v n xs) (hb:mZ v=some b):b<w.heap.size:=by
 rcases h.2 with ⟨rfl,_⟩|⟨gb,cap,cur,rfl,_,hh,_⟩
 ·simp [mZ] at hb
 ·simp only [mZ,Option.some.injEq] at hb
  subst hb
  exact bN hh
theorem Kw {w : World} {e s n : Nat} {v : Value} {xs : List Value} (h : w.ownsRow 0 e s v n xs) :
  ∃ A c,v = .slice A n c∧n≤c∧(0<n→∃ b,A=some ⟨b,0,none⟩):=by
 rcases h.2 with ⟨rfl,rfl⟩|⟨gb,cap,cur,rfl,_,_,hn,_⟩
 ·exact ⟨none,0,rfl,Nat.le_refl _,fun h=>by omega⟩
 ·exact ⟨_,cap,rfl,hn,fun _=>⟨gb,rfl⟩⟩
theorem yz {w:World} {e s n:Nat} {v:Value} {xs:List Value} (h:w.ownsRow 0 e s v n xs) (st:St) (ρ:fQ) (ok:Nat→Prop) (w':World):bu (ρ.upd st.nx v) ok w' (.b (.c (.own st.nx n))) v:=by
 obtain ⟨A,c,rfl,hn,hb⟩:=Kw h
 exact ⟨A,n,c,by simp [fQ.upd],Nat.le_refl _,hn,hb,rfl⟩
theorem sL {t ty e s m : Nat} {ag : Bool} {i : TypeInfo} {z : List Value} {y : SV} {vc : Prop} {sz : Nat} {gg : Nat → Nat → PV} {u : Value} {K : SV → St → Prop}
  (he:S.el t=some (none,e,s,ag)) (hz:S.zero e=some z) (hi:S.P.info? e=some i) (hsrc:su st.bx y=some (vc,sz,m,gg)) (hvc:vc) (hsz:sz=s∨m=0) (h0:0<s) (hzl:z.length=s)
  (hby:m * i.bytes≤140737488355328) (hmx:m≤maxLen) (g:Gam S E st ρ a w) (hy:bu ρ (bL E st.bx ρ w) w y u)
  (hk:K (.b (.c (.own st.nx m))) (st.newBox (.arr e s m gg))) :
  ∃ v w',(Builtin.append_ #[t,t] ty #[.slice none 0 0,u]).run S.P w = .ok v w'∧tM S E K a v w':=by
 have hown:w.ownsRow 0 e s (.slice none 0 0) 0 []:=⟨by simp, .inl ⟨rfl,rfl⟩⟩
 obtain ⟨v',w',news,hr,q1,q2,q3,q4,q5⟩:=tP (ty:=ty) (n:=0) he hz hi hsrc hvc hsz h0 hzl (by simpa using hby) (by simpa using hmx) g hy hown
 simp only [Nat.zero_add,List.nil_append] at q1
 have hB:RowKit.Below w.heap.size w w':=⟨q2.os,q2.tape,q2.output,q2.size,fun k hk=>q2.block k hk (by simp [Value.ownBlock])⟩
 refine ⟨v',w',hr,_,_,_,g.newBox hB (.arr e s m gg) v' trivial (fun b hb=>⟨?_,Dl q1 hb⟩) (fun ok' hkp=>⟨h0,news,q1,q4,fun i hi j hj=>bt.mono hkp (q5 i hi j hj)⟩),yz q1 st ρ _ _,nI st _ _,hk⟩
 rw [← lZ q1] at hb
 rcases q3 with q3|q3
 ·rw [q3] at hb;simp [Value.ownBlock] at hb
 ·rw [q3] at hb;simp only [Option.some.injEq] at hb;omega
theorem Dh {w:World} {e s n n':Nat} {A:Option Addr} {c:Nat} {xs:List Value} (h:w.ownsRow 0 e s (.slice A n' c) n' xs) (hn:n≤n'):w.ownsRow 0 e s (.slice A n c) n (xs.take (n * s)):=by
 obtain ⟨hl,h⟩:=h
 refine ⟨by rw [List.length_take,hl];exact Nat.min_eq_left (Nat.mul_le_mul_right s hn), ?_⟩
 rcases h with ⟨h1,h2⟩|⟨gb,cap,cur,hv,hg,hh,hc,hm,hs,ht⟩
 ·simp only [Value.slice.injEq] at h1
  obtain ⟨rfl,rfl,rfl⟩:=h1
  have:n=0:=by omega
  subst this
  exact .inl ⟨rfl,rfl⟩
 ·simp only [Value.slice.injEq] at hv
  obtain ⟨rfl,_,rfl⟩:=hv
  refine .inr ⟨gb,c,cur,rfl,hg,hh,by omega,hm,hs, ?_⟩
  rw [← ht,List.take_take,Nat.min_eq_left (Nat.mul_le_mul_right s hn)]
theorem sM {t ty e s m n n' id : Nat} {ag : Bool} {i : TypeInfo} {z : List Value} {y : SV} {vc : Prop} {sz : Nat} {f gg : Nat → Nat → PV} {u v : Value} {K : SV → St → Prop}
  (he:S.el t=some (none,e,s,ag)) (hz:S.zero e=some z) (hi:S.P.info? e=some i) (hsrc:su st.bx y=some (vc,sz,m,gg)) (hvc:vc) (hsz:sz=s∨m=0) (h0:0<s) (hzl:z.length=s)
  (hby:(n+m) * i.bytes≤140737488355328) (hmx:n+m≤maxLen) (g:Gam S E st ρ a w) (hy:bu ρ (bL E st.bx ρ w) w y u) (hb:st.bx id=some (.arr e s n' f)) (hnn:n≤n')
  (hx:ca ρ (bL E st.bx ρ w) w (.own id n) v)
  (hk:K (.b (.c (.own st.nx (n+m)))) ((st.delBox id).newBox (.arr e s (n+m) (gh n f gg)))) :
  ∃ v' w',(Builtin.append_ #[t,t] ty #[v,u]).run S.P w = .ok v' w'∧tM S E K a v' w':=by
 obtain ⟨_,xs,hown,hone,hd⟩:=g.bxs id _ hb
 obtain ⟨A,m',c,hr,h1,h2,h3,rfl⟩:=hx
 have hmn:m'=n':=by
  rcases hown.2 with ⟨e1,e2⟩|⟨gb,cap,cur,hv,_⟩
  ·rw [hr] at e1;simp only [Value.slice.injEq] at e1;omega
  ·rw [hr] at hv;simp only [Value.slice.injEq] at hv;omega
 subst hmn
 rw [hr] at hown
 have hxl:xs.length=m' * s:=hown.1
 replace hone:∀ x ∈ xs.take (n * s),x.oneCell'=true:=fun x hx=>hone x (List.mem_of_mem_take hx)
 replace hd:∀ i,i<n→∀ j,j<s→bt (bL E st.bx ρ w) w (f i j) ((xs.take (n * s)).getD (i * s+j) undef):=fun i hi j hj=>by
  have:=hd i (by omega) j hj
  rw [List.getD_eq_getElem?_getD] at this ⊢
  rw [List.getElem?_take,if_pos (dq hi hj)]
  exact this
 have hbA:(Value.slice A n c).ownBlock=(Value.slice A m' c).ownBlock:=by cases A <;> rfl
 have hbb':(Value.slice A m' c).ownBlock=mZ (ρ id):=by rw [hr];exact lZ hown
 have hown:=Dh hown hnn
 generalize xs.take (n * s)=xs at *
 obtain ⟨v',w',news,hrun,q1,q2,q3,q4,q5⟩:=tP (ty:=ty) he hz hi hsrc hvc hsz h0 hzl hby hmx g hy hown
 have hbb:(Value.slice A n c).ownBlock=mZ (ρ id):=by rw [hbA];exact hbb'
 refine ⟨v',w',hrun,_,_,_,g.moveBox hb (by rw [← hbb];exact q2) (.arr e s (n+m) (gh n f gg)) v' trivial (fun b hb'=>⟨?_,Dl q1 hb'⟩) (fun ok' hkp=>⟨h0,xs ++ news,q1,fun x hx => ?_,fun i hi j hj => ?_⟩),
  yz q1 st ρ _ _,Nat.lt_succ_self _,hk⟩
 ·rw [← lZ q1] at hb'
  rcases q3 with q3|q3
  ·rw [q3,hbb] at hb';exact .inl hb'
  ·rw [q3] at hb';simp only [Option.some.injEq] at hb';exact .inr (by omega)
 ·rcases List.mem_append.1 hx with h|h
  ·exact hone x h
  ·exact q4 x h
 ·have hlx:xs.length=n * s:=hown.1
  unfold gh
  by_cases hi':i<n
  ·rw [if_pos hi',List.getD_eq_getElem?_getD,List.getElem?_append_left (by rw [hlx];exact dq hi' hj),← List.getD_eq_getElem?_getD]
   exact bt.mono hkp (hd i hi' j hj)
  ·rw [if_neg hi',List.getD_eq_getElem?_getD,List.getElem?_append_right (by rw [hlx];have:=Nat.mul_le_mul_right s (Nat.le_of_not_lt hi');omega),← List.getD_eq_getElem?_getD,hlx]
   have e1:i * s+j - n * s=(i - n) * s+j:=by
    rw [Nat.sub_mul];have:=Nat.mul_le_mul_right s (Nat.le_of_not_lt hi');omega
   rw [e1]
   exact bt.mono hkp (q5 _ (by omega) j hj)
end
end Go.SL
namespace Go.SL
open Go
section
variable {S:Env} {E:Ent} {st:St} {ρ:fQ} {a:Act} {w:World}
theorem fp {ρ : fQ} {ok : Nat → Prop} {w : World} : ∀ {l l' : List BV}, fZ l l' → l.length = l'.length ∧
  ∀ {u:Nat→Value},(∀ j,j<l.length→bR ρ ok w (l.getD j .any) (u j))→∀ j,bR ρ ok w (l'.getD j .any) (u j)
 | [],[],_=>⟨rfl,fun _ j=>by simp [bR,ca,bt]⟩
 | x :: l,y :: l',⟨h1,h2⟩=>by
  obtain ⟨q1,q2⟩:=fp (ρ:=ρ) (ok:=ok) (w:=w) h2
  refine ⟨by simp [q1],fun {u} hu j => ?_⟩
  cases j with
  | zero=>exact h1 _ _ _ _ (hu 0 (by simp))
  | succ j=>exact q2 (u:=fun k=>u (k+1)) (fun k hk=>hu (k+1) (by simpa using hk)) j
theorem Ck {x:SV} {u:Value} {ok:Nat→Prop} (h:bu ρ ok w x u) (hc:x.cond):bR ρ ok w (dO x) u:=by
 cases x with
 | b x=>exact h
 | grd p x=>exact h.1 hc
 | tup vs=>trivial
 | any=>trivial
theorem eT {x:BV} {u:Value} {ok:Nat→Prop} (hl:x.lt 0) (h:bR ρ ok w x u):bR bM ok w x u :=
 bR.mono (fun _ hb=>⟨hb,fun _=>rfl⟩) (fun id h=>absurd h (Nat.not_lt_zero id)) hl h
theorem pq {x:SV} {u:Value} {ok ok':Nat→Prop} (hl:SV.lt 0 x) (hk:∀ b,ok b→ok' b) (h:bu bM ok w x u):bu ρ ok' w x u :=
 bu.mono (fun b hb=>⟨hk b hb,fun _=>rfl⟩) (fun id h=>absurd h (Nat.not_lt_zero id)) hl h
theorem SV.lt_zero {x:SV} (h:SV.lt 0 x) (n:Nat):x.lt n:=SV.lt_mono (Nat.zero_le _) h
theorem yX {w':World} (g:Gam S E st ρ a w) (b:Nat) (h:Ib (bL E st.bx ρ w) w w' b):bL E st.bx ρ w' b:=by
 obtain ⟨h1,h2⟩:=h
 refine ⟨h1,fun h3=>(h2 (Nat.lt_of_lt_of_le h3 g.frm.size)).2.1 h3,fun id hid hb => ?_⟩
 cases hx:st.bx id with
 | none=>exact hid hx
 | some x=>exact (h2 (g.new id x b hx hb).1).2.2 id hid hb
theorem Gam.glOk (g:Gam S E st ρ a w):mz S (bL E st.bx ρ w) w:=g.glb
theorem IS {f : FuncId} {o : Oper} {args : Array Operand} {ts : Array TypeId} (hf : Cl S f) (ho : o.op = .call { callee := .value (.func f), args := args, argTypes := ts }) (a : Act) (w : World) :
  (execOp a.eval o).run S.P w = .ok (.enter f (args.map a.eval)) w:=by
 obtain ⟨fn,h1,h2,h3⟩:=hf
 have h2' : ¬ fn.name = "runtime.NumGoroutine" := by simpa using h2
 have h3':¬ fn.body=none:=fun h=>by rw [h] at h3;simp at h3
 simp [execOp,ho,resolve,Act.eval,Deferred.ofValue,invoke,callFunc,Sem.run_bind,h1,h2',h3']
theorem Bm {args : Array Operand} (g : Gam S E st ρ a w) (hc : ∀ x ∈ args.toList, (st.ev S x).cond) :
  ∀ j,j<(args.toList.map fun x=>dO (st.ev S x)).length→bR ρ (bL E st.bx ρ w) w ((args.toList.map fun x=>dO (st.ev S x)).getD j .any) ((args.map a.eval).getD j undef):=by
 intro j hj
 have hj':j<args.size:=by simpa using hj
 have e1:(args.toList.map fun x=>dO (st.ev S x)).getD j .any=dO (st.ev S args[j]):=by simp [List.getD_eq_getElem?_getD,hj']
 have e2:(args.map a.eval).getD j undef=a.eval args[j]:=by simp [hj']
 rw [e1,e2]
 exact Ck (g.ev _).1 (hc _ (by simp))
theorem wT {x:CV} {u:Value} (g:Gam S E st ρ a w) (h:ca ρ (bL E st.bx ρ w) w x u):ca ρ (· < w.heap.size) w (eR st.bx x) u:=by
 have hk:fG (bL E st.bx ρ w) (· < w.heap.size) w w:=fun b hb=>⟨hb.1,fun _=>rfl⟩
 have hρ:∀ id,ρ id=ρ id:=fun _=>rfl
 have gen:ca ρ (· < w.heap.size) w x u:=by
  cases x with
  | p x=>exact bt.mono hk h
  | ptr id off=>exact h
  | pel id sz i off=>exact h
  | own id n=>exact h
  | ipt sz g off=>exact ca.mono (nx:=0) hk (fun _ _=>rfl) trivial h
  | clo f ps=>exact h
  | sub id sz lo n=>exact h
 unfold eR
 split
 ·rename_i id n
  split
  ·rename_i e sz n' f hb
   split
   ·rename_i hn
    obtain ⟨A,m,c,hr,h1,h2,h3,hu⟩:=h
    obtain ⟨h0,xs,hown,hone,hd⟩:=g.bxs id _ hb
    refine ⟨A,c,hu,by omega,fun hpos => ?_⟩
    rcases hown.2 with ⟨e1,e2⟩|⟨gb,cap,cur,hv,_,hh,hnc,_,hcs,htk⟩
    ·omega
    ·rw [hr] at hv
     simp only [Value.slice.injEq] at hv
     obtain ⟨rfl,rfl,rfl⟩:=hv
     refine ⟨gb,0,rfl,bN hh,fun i hi j hj => ?_⟩
     have hlt:i * sz+j<m * sz:=dq (by omega) hj
     have hlt2:i * sz+j<cur.size:=by rw [hcs];exact Nat.lt_of_lt_of_le hlt (Nat.mul_le_mul_right _ hnc)
     have hlx:i * sz+j<xs.length:=by rw [hown.1];exact hlt
     have hxe:xs.getD (i * sz+j) undef=cur.getD (i * sz+j) undef:=by
      rw [← htk];simp [List.getElem?_take,hlt]
     refine ⟨cur.getD (i * sz+j) undef,by rw [Nat.zero_add];exact bG hh hlt2, ?_, ?_⟩
     ·rw [← hxe,List.getD_eq_getElem?_getD,List.getElem?_eq_getElem hlx]
      exact hone _ (List.getElem_mem hlx)
     ·rw [← hxe]
      exact bt.mono hk (hd i (by omega) j hj)
   ·exact gen
  ·exact gen
 ·exact gen
theorem uo {x:CV} {u:Value} (g:Gam S E st ρ a w) (h:ca ρ (bL E st.bx ρ w) w x u):ca ρ (· < w.heap.size) w (iX st.bx x) u:=by
 have hk:fG (bL E st.bx ρ w) (· < w.heap.size) w w:=fun b hb=>⟨hb.1,fun _=>rfl⟩
 unfold iX
 split
 ·rename_i id off
  split
  ·rename_i cs hb
   split
   ·rename_i hoff
    obtain ⟨b',o',hr,hu⟩:=h
    obtain ⟨b,o,cells,t,hv,hh,hs,h1,hd⟩:=g.bxs id _ hb
    rw [hv] at hr
    simp only [Value.pointer.injEq,Option.some.injEq,Addr.mk.injEq,and_true] at hr
    obtain ⟨rfl,rfl⟩:=hr
    refine ⟨b,o+off,hu,bN hh,fun j hj=>⟨_,bG hh (by omega), ?_, ?_⟩⟩
    ·rw [Nat.add_assoc];exact h1 _ (by omega)
    ·rw [Nat.add_assoc];exact yS (wT g (hd (off+j)))
   ·exact h
  ·exact h
 ·rename_i id sz i off
  split
  ·rename_i e s n f hb
   split
   ·rename_i hc
    obtain ⟨rfl,hi⟩:=hc
    obtain ⟨b',m,c,hr,hu⟩:=h
    obtain ⟨h0,xs,hown,hone,hd⟩:=g.bxs id _ hb
    rcases hown.2 with ⟨e1,e2⟩|⟨gb,cap,cur,hv,_,hh,hnc,_,hcs,htk⟩
    ·omega
    ·rw [hr] at hv
     simp only [Value.slice.injEq,Option.some.injEq,Addr.mk.injEq,and_true] at hv
     obtain ⟨rfl,rfl,rfl⟩:=hv
     refine ⟨b',i * sz,hu,bN hh,fun j hj => ?_⟩
     have hlt:i * sz+j<m * sz:=dq hi hj
     have hlt2:i * sz+j<cur.size:=by rw [hcs];exact Nat.lt_of_lt_of_le hlt (Nat.mul_le_mul_right _ hnc)
     have hlx:i * sz+j<xs.length:=by rw [hown.1];exact hlt
     have hxe:xs.getD (i * sz+j) undef=cur.getD (i * sz+j) undef:=by
      rw [← htk];simp [List.getElem?_take,hlt]
     refine ⟨cur.getD (i * sz+j) undef,bG hh hlt2, ?_, ?_⟩
     ·rw [← hxe,List.getD_eq_getElem?_getD,List.getElem?_eq_getElem hlx]
      exact hone _ (List.getElem_mem hlx)
     ·rw [← hxe]
      exact bt.mono hk (hd i hi j hj)
   ·exact h
  ·exact h
 ·exact wT g h
theorem lP {x:BV} {u:Value} (g:Gam S E st ρ a w) (h:bR ρ (bL E st.bx ρ w) w x u):bR ρ (· < w.heap.size) w (dp st.bx x) u:=by
 cases x with
 | c x=>exact uo g h
 | agg cs =>
  obtain ⟨us,rfl,hs,h1,hd⟩:=h
  refine ⟨us,rfl,by simp [hs],h1,fun j => ?_⟩
  by_cases hj:j<cs.length
  ·have e:(cs.map (iX st.bx)).getD j .any=iX st.bx (cs.getD j .any):=by simp [List.getD_eq_getElem?_getD,hj]
   rw [e]
   exact uo g (hd j)
  ·rw [List.getD_eq_getElem?_getD,List.getElem?_eq_none (by simp;omega)];trivial
theorem xD {x:CV} {u:Value} {ρ':fQ} {ok ok':Nat→Prop} {w w':World} (hf:x.flat) (h:ca ρ ok w x u):ca ρ' ok' w' x u:=by
 cases x with
 | p x=>cases x <;> first|exact h|exact hf.elim
 | _=>exact hf.elim
theorem wv {x:BV} {u:Value} {ρ':fQ} {ok ok':Nat→Prop} {w w':World} (hf:x.flat) (h:bR ρ ok w x u):bR ρ' ok' w' x u:=by
 cases x with
 | c x=>exact xD hf h
 | agg cs =>
  obtain ⟨us,hu,hs,h1,hd⟩:=h
  refine ⟨us,hu,hs,h1,fun j => ?_⟩
  by_cases hj:j<cs.length
  ·have hm:cs.getD j .any ∈ cs:=by rw [List.getD_eq_getElem?_getD,List.getElem?_eq_getElem hj];exact List.getElem_mem hj
   exact xD (hf _ hm) (hd j)
  ·rw [List.getD_eq_getElem?_getD,List.getElem?_eq_none (by omega)];trivial
theorem GE {x:SV} {u:Value} {ρ':fQ} {ok ok':Nat→Prop} {w w':World} (hf:x.flat) (h:bu ρ ok w x u):bu ρ' ok' w' x u:=by
 cases x with
 | b x=>exact wv hf h
 | tup vs =>
  obtain ⟨us,hu,hs,hd⟩:=h
  refine ⟨us,hu,hs,fun j => ?_⟩
  by_cases hj:j<vs.length
  ·have hm:vs.getD j .any ∈ vs:=by rw [List.getD_eq_getElem?_getD,List.getElem?_eq_getElem hj];exact List.getElem_mem hj
   exact wv (hf _ hm) (hd j)
  ·rw [List.getD_eq_getElem?_getD,List.getElem?_eq_none (by omega)];trivial
 | grd p x=>exact hf.elim
 | any=>exact hf.elim
theorem EY {cs':List PV} (j:Nat):(cs'.map CV.p).getD j .any = .p (cs'.getD j .any):=by
 by_cases hj:j<cs'.length
 ·simp [List.getD_eq_getElem?_getD,hj]
 ·simp [List.getD_eq_getElem?_getD,List.getElem?_eq_none (Nat.le_of_not_lt hj)]
theorem Aj {V:Array Value} {p:Value} (hs:0<V.size) (h0:V.getD 0 undef=p):V = #[p] ++ V.extract 1 V.size:=by
 apply Array.ext
 ·simp;omega
 ·intro i hi1 hi2
  cases i with
  | zero =>
   simp [hs] at h0
   simpa using h0
  | succ i=>simp [Array.getElem_append,Nat.add_comm 1 i]
theorem kT {f : FuncId} {o : Oper} {V : Array Value} {next : Act → World → Prop} {Q : Exit → Act → World → Prop} (hr : (execOp a.eval o).run S.P w = .ok (.enter f V) w)
  (h:Calls S.P f V w fun e w'=>∃ v,e = .returned v∧next (a.put o.dst v) w'):o.wp S.P a w next Q:=by
 unfold Oper.wp
 rw [hr]
 exact h.mono fun e w' ⟨v,he,hn⟩=>by subst he;exact hn
theorem rK {f : FuncId} {o : Oper} {V : Array Value} {A : List BV} {K : SV → St → Prop} {Kn : St → Prop} {Q : Exit → Act → World → Prop}
  (hrun:Cl S f→(execOp a.eval o).run S.P w = .ok (.enter f V) w) (hrunX:∀ v,(callFunc f V).run S.P w = .ok (.value v) w→(execOp a.eval o).run S.P w = .ok (.value v) w) (hd:∀ k,o.dst=some k→k<E.N)
  (hden:∀ j,j<A.length→bR ρ (bL E st.bx ρ w) w (A.getD j .any) (V.getD j undef)) (hsz:V.size=A.length) (g:Gam S E st ρ a w)
  (hK:∀ r st',K r st'→Kn (st'.set o.dst r)) (h:CallP S st f A K):o.wp S.P a w (kO S E Kn) Q:=by
 cases h with
 | pure args' X h ha hl hk =>
  obtain ⟨hab,hspec⟩:=h
  obtain ⟨q1,q2⟩:=fp (ρ:=ρ) (ok:=bL E st.bx ρ w) (w:=w) ha
  have hq:=q2 (u:=fun j=>V.getD j undef) hden
  refine kT (hrun hab) ((hspec (bL E st.bx ρ w) w V (fun b hb=>hb.1) g.glOk (by rw [hsz,q1]) (fun j => ?_)).mono fun e w' ⟨v,r,he,hR,hr0,hB,hv⟩ => ?_)
  ·by_cases hj:j<args'.length
   ·refine eT (hl _ ?_) (hq j)
    rw [List.getD_eq_getElem?_getD,List.getElem?_eq_getElem hj];exact List.getElem_mem hj
   ·rw [List.getD_eq_getElem?_getD,List.getElem?_eq_none (by omega)];trivial
  ·have g':=g.grow hB
   exact ⟨v,he,kO.mk_set g' hd (SV.lt_zero hr0 _) (pq hr0 (yX g) hv) (hK _ _ (hR ▸ hk))⟩
 | ext args' X h ha hl hk =>
  obtain ⟨hX0,hspec⟩:=h
  obtain ⟨q1,q2⟩:=fp (ρ:=ρ) (ok:=bL E st.bx ρ w) (w:=w) ha
  have hq:=q2 (u:=fun j=>V.getD j undef) hden
  obtain ⟨v,hrun,hv⟩:=hspec (bL E st.bx ρ w) w V (by rw [hsz,q1]) fun j=>by
   by_cases hj:j<args'.length
   ·refine eT (hl _ ?_) (hq j)
    rw [List.getD_eq_getElem?_getD,List.getElem?_eq_getElem hj];exact List.getElem_mem hj
   ·rw [List.getD_eq_getElem?_getD,List.getElem?_eq_none (by omega)];trivial
  unfold Oper.wp
  rw [hrunX v hrun]
  exact kO.mk_set g hd (SV.lt_zero hX0 _) (pq hX0 (fun _ h=>h) hv) (hK _ _ hk)
 | lend args' X h ha hl hf hk =>
  obtain ⟨hab,hspec⟩:=h
  obtain ⟨q1,q2⟩:=fp (ρ:=ρ) (ok:=(· < w.heap.size)) (w:=w) ha
  have hq:=q2 (u:=fun j=>V.getD j undef) (fun j hj=>by
   have hj':j<A.length:=by simpa using hj
   have e:(A.map (dp st.bx)).getD j .any=dp st.bx (A.getD j .any):=by simp [List.getD_eq_getElem?_getD,hj']
   rw [e]
   exact lP g (hden j hj'))
  have hgl:mz S (· < w.heap.size) w:=fun k n f hg=>by
   obtain ⟨h1,h2⟩:=g.glb k n f hg
   refine ⟨h1.1,fun j hj => ?_⟩
   obtain ⟨x,hx,hx1,hdx⟩:=h2 j hj
   exact ⟨x,hx,hx1,bt.mono (fun b hb=>⟨hb.1,fun _=>rfl⟩) hdx⟩
  refine kT (hrun hab) ((hspec (· < w.heap.size) w V (fun b hb=>hb) hgl (by rw [hsz,← q1];simp) (fun j => ?_)).mono fun e w' ⟨v,r,he,hR,hr0,hB,hv⟩ => ?_)
  ·by_cases hj:j<args'.length
   ·refine eT (hl _ ?_) (hq j)
    rw [List.getD_eq_getElem?_getD,List.getElem?_eq_getElem hj];exact List.getElem_mem hj
   ·rw [List.getD_eq_getElem?_getD,List.getElem?_eq_none (by omega)];trivial
  ·have g':=g.grow hB
   exact ⟨v,he,kO.mk_set g' hd (SV.lt_zero hr0 _) (GE (hR ▸ hf) hv) (hK _ _ (hR ▸ hk))⟩
 | recv id off cs0 cs rest args' X Y h he hb hoff hcs ha hl hrv hy hk =>
  obtain ⟨hab,hspec⟩:=h
  subst he
  obtain ⟨b,o',cells,ty,hv,hh,hs,h1,hdb⟩:=g.bxs id _ hb
  have h0:=hden 0 (by simp)
  obtain ⟨b2,o2,hr2,hu0⟩:=h0
  rw [hv] at hr2
  simp only [Value.pointer.injEq,Option.some.injEq,Addr.mk.injEq,and_true] at hr2
  obtain ⟨rfl,rfl⟩:=hr2
  obtain ⟨q1,q2⟩:=fp (ρ:=ρ) (ok:=bL E st.bx ρ w) (w:=w) ha
  have hq:=q2 (u:=fun j=>V.getD (j+1) undef) (fun j hj=>hden (j+1) (by simpa using hj))
  have hVs:V = #[.pointer (some ⟨b,o'+off,none⟩)] ++ V.extract 1 V.size:=Aj (by simp at hsz;omega) (by simpa using hu0)
  have hcsg:∀ j,j<cs.length→cs0.getD (off+j) .any = .p (cs.getD j .any):=fun j hj=>by
   have:=congrArg (fun l=>l.getD j .any) hcs
   simp only [EY] at this
   rw [← this,gP hoff hj]
  refine kT (hrun hab) ?_
  rw [hVs]
  refine (hspec (bL E st.bx ρ w) w (V.extract 1 V.size) b (o'+off) cells ty (fun b hb=>hb.1) g.glOk hh (by omega) (fun hok=>hok.2.2 id (by rw [hb];simp) (by rw [hv];rfl))
   (fun j hj=>by rw [Nat.add_assoc];exact h1 _ (by omega)) (fun j => ?_) (by simp at hsz ⊢;omega) (fun j => ?_)).mono fun e w' ⟨v,r,cs',c',he,hR,hr0,hlen,hU,hh',h1',hd',hvr⟩ => ?_
  ·by_cases hj:j<cs.length
   ·have:=hdb (off+j)
    rw [hcsg j hj,← Nat.add_assoc] at this
    exact this
   ·rw [List.getD_eq_getElem?_getD,List.getElem?_eq_none (by omega)];trivial
  ·by_cases hj:j<args'.length
   ·have e:(V.extract 1 V.size).getD j undef=V.getD (j+1) undef:=by
     simp only [aT?,Array.getElem?_extract]
     rw [Nat.add_comm 1 j]
     split
     ·rfl
     ·rename_i h;rw [Array.getElem?_eq_none (by omega)]
    rw [e]
    refine eT (hl _ ?_) (hq j)
    rw [List.getD_eq_getElem?_getD,List.getElem?_eq_getElem hj];exact List.getElem_mem hj
   ·rw [List.getD_eq_getElem?_getD,List.getElem?_eq_none (by omega)];trivial
  ·obtain ⟨c1,c2,ty',u1,u2,u3,u4⟩:=hU.own
   rw [hh] at u1
   simp only [Option.some.injEq,Obj.cells.injEq,and_true] at u1
   obtain ⟨rfl,rfl⟩:=u1
   rw [hh'] at u2
   simp only [Option.some.injEq,Obj.cells.injEq,and_true] at u2
   subst u2
   have hpl:(jw cs0 off (cs'.map CV.p)).length=cs0.length:=pR (by simp;omega)
   have hltp:∀ c ∈ jw cs0 off (cs'.map CV.p),CV.lt st.nx c:=fun c hc=>by
    rcases vO hc with hc|hc
    ·exact (g.wfb id _ hb).2 c hc
    ·obtain ⟨x,_,rfl⟩:=List.mem_map.1 hc;trivial
   have hok':∀ k,(Ib (bL E st.bx ρ w) w w' k∧k≠b)→bL E (st.setBox id (.fix (jw cs0 off (cs'.map CV.p)))).bx ρ w' k:=fun k ⟨h2,h3⟩=>by
    obtain ⟨g1,g2,g3⟩:=yX g k h2
    refine ⟨g1,g2,fun i hi => ?_⟩
    simp only [St.setBox] at hi
    by_cases hie:i=id
    ·subst hie;rw [hv];simp only [mZ,ne_eq,Option.some.injEq];exact fun e=>h3 e.symm
    ·rw [if_neg hie] at hi;exact g3 i hi
   have g':Gam S E (st.setBox id (.fix (jw cs0 off (cs'.map CV.p)))) ρ a w' :=
    g.setBox hb (by rw [hv];rfl) hU.os hU.tape hU.output hU.size (fun k h2 h3=>hU.block k h2 h3) hltp (.inl ⟨_,_,rfl,rfl,hpl⟩)
     ⟨cells,c',ty,hh,hh',u3,fun o3 cs3 e1 e2 j hj=>by
      rw [hv] at e1
      simp only [Value.pointer.injEq,Option.some.injEq,Addr.mk.injEq,true_and,and_true] at e1
      simp only [Bx.fix.injEq] at e2
      subst e1;subst e2
      exact u4 j (by omega)⟩
     (fun hkeep=>by
      have hget:∀ j,(j<off∨off+cs.length≤j)→c'.getD (o'+j) undef=cells.getD (o'+j) undef:=fun j hj=>by
       rw [aT?,aT?,u4 _ (by omega)]
      refine ⟨b,o',c',ty,hv,hh',by rw [u3,hpl];exact hs,fun j hj => ?_,fun j => ?_⟩
      ·by_cases hj2:off≤j∧j<off+cs.length
       ·have:=h1' (j - off) (by omega)
        rwa [show o'+off+(j - off)=o'+j by omega] at this
       ·rw [hget j (by omega)];exact h1 j (by omega)
      ·rw [qW (by simp;omega)]
       simp only [List.length_map]
       by_cases hj2:off≤j∧j<off+cs'.length
       ·rw [if_pos hj2,EY]
        have:=hd' (j - off)
        rw [show o'+off+(j - off)=o'+j by omega] at this
        exact bt.mono (fun k hkk=>⟨hok' k hkk,fun _=>rfl⟩) this
       ·rw [if_neg hj2,hget j (by omega)]
        exact ca.mono hkeep (fun _ _=>rfl) (CV.lt_getD (g.wfb id _ hb).2 _) (hdb j))
   exact ⟨v,he,kO.mk_set g' hd (SV.lt_zero hr0 _) (pq hr0 hok' hvr) (hK _ _ (by obtain ⟨rfl,rfl⟩:=hR;exact hk))⟩
 | recvEl id sz i e n gg cs rest args' X Y h he hb hi hszl hcs ha hl hrv hy hk =>
  obtain ⟨hab,hspec⟩:=h
  subst he
  obtain ⟨hs0,xs,hown,hone,hdb⟩:=g.bxs id _ hb
  obtain ⟨b2,m2,cp2,hr2,hu0⟩:=hden 0 (by simp)
  rcases hown.2 with ⟨e1,e2⟩|⟨b,cap,cells,hv,_,hh,hnc,hcm,hcsz,htk⟩
  ·omega
  rw [hv] at hr2
  simp only [Value.slice.injEq,Option.some.injEq,Addr.mk.injEq,and_true] at hr2
  obtain ⟨rfl,rfl,rfl⟩:=hr2
  obtain ⟨q1,q2⟩:=fp (ρ:=ρ) (ok:=bL E st.bx ρ w) (w:=w) ha
  have hq:=q2 (u:=fun j=>V.getD (j+1) undef) (fun j hj=>hden (j+1) (by simpa using hj))
  have hVs:V = #[.pointer (some ⟨b,i * sz,none⟩)] ++ V.extract 1 V.size:=Aj (by simp at hsz;omega) (by simpa using hu0)
  have hrow:i * sz+sz≤cells.size:=by
   rw [hcsz,← Nat.succ_mul];exact Nat.mul_le_mul_right _ (by omega)
  have hxs:∀ k,k<n * sz→xs.getD k undef=cells.getD k undef:=fun k hkk=>by
   rw [← htk]
   simp [List.getElem?_take,hkk]
  have hxone:∀ k,k<n * sz→(cells.getD k undef).oneCell'=true:=fun k hkk=>by
   rw [← hxs k hkk,List.getD_eq_getElem?_getD,List.getElem?_eq_getElem (by rw [hown.1];exact hkk)]
   exact hone _ (List.getElem_mem _)
  refine kT (hrun hab) ?_
  rw [hVs]
  refine (hspec (bL E st.bx ρ w) w (V.extract 1 V.size) b (i * sz) cells e (fun b hb=>hb.1) g.glOk hh (by omega) (fun hok=>hok.2.2 id (by rw [hb];simp) (by rw [hv];rfl))
   (fun j hj=>hxone _ (dq hi (by omega))) (fun j => ?_) (by simp at hsz ⊢;omega) (fun j => ?_)).mono fun e' w' ⟨v,r,cs',c',he,hR,hr0,hlen,hU,hh',h1',hd',hvr⟩ => ?_
  ·by_cases hj:j<sz
   ·rw [hcs j hj,← hxs _ (dq hi hj)]
    exact hdb i hi j hj
   ·rw [List.getD_eq_getElem?_getD,List.getElem?_eq_none (by omega)];trivial
  ·by_cases hj:j<args'.length
   ·have e:(V.extract 1 V.size).getD j undef=V.getD (j+1) undef:=by
     simp only [aT?,Array.getElem?_extract]
     rw [Nat.add_comm 1 j]
     split
     ·rfl
     ·rename_i h;rw [Array.getElem?_eq_none (by omega)]
    rw [e]
    refine eT (hl _ ?_) (hq j)
    rw [List.getD_eq_getElem?_getD,List.getElem?_eq_getElem hj];exact List.getElem_mem hj
   ·rw [List.getD_eq_getElem?_getD,List.getElem?_eq_none (by omega)];trivial
  ·obtain ⟨c1,c2,ty',u1,u2,u3,u4⟩:=hU.own
   rw [hh] at u1
   simp only [Option.some.injEq,Obj.cells.injEq,and_true] at u1
   obtain ⟨rfl,rfl⟩:=u1
   rw [hh'] at u2
   simp only [Option.some.injEq,Obj.cells.injEq,and_true] at u2
   subst u2
   have hok':∀ k,(Ib (bL E st.bx ρ w) w w' k∧k≠b)→bL E (st.setBox id (.arr e sz n fun i' j=>if i'=i then cs'.getD j .any else gg i' j)).bx ρ w' k:=fun k ⟨h2,h3⟩=>by
    obtain ⟨g1,g2,g3⟩:=yX g k h2
    refine ⟨g1,g2,fun k2 hi => ?_⟩
    simp only [St.setBox] at hi
    by_cases hie:k2=id
    ·subst hie;rw [hv];simp only [mZ,ne_eq,Option.some.injEq];exact fun e=>h3 e.symm
    ·rw [if_neg hie] at hi;exact g3 k2 hi
   have hget:∀ k,(k<i * sz∨i * sz+sz≤k)→c'.getD k undef=cells.getD k undef:=fun k hk=>by
    rw [aT?,aT?,u4 _ (by omega)]
   have hcc:n * sz≤cells.size:=by rw [hcsz];exact Nat.mul_le_mul_right _ hnc
   have htake:∀ k,k<n * sz→(c'.toList.take (n * sz)).getD k undef=c'.getD k undef:=fun k hkk=>by
    rw [List.getD_eq_getElem?_getD,List.getElem?_take,if_pos hkk,Array.getElem?_toList,aT?]
   have hout:∀ i' j,j<sz→i'≠i→(i' * sz+j<i * sz∨i * sz+sz≤i' * sz+j):=fun i' j hj hne=>by
    rcases Nat.lt_or_ge i' i with h|h
    ·left
     have:=Nat.mul_le_mul_right sz (show i'+1≤i from h)
     rw [Nat.add_mul] at this;omega
    ·right
     have:=Nat.mul_le_mul_right sz (show i+1≤i' by omega)
     rw [Nat.add_mul] at this;omega
   have g':Gam S E (st.setBox id (.arr e sz n fun i' j=>if i'=i then cs'.getD j .any else gg i' j)) ρ a w' :=
    g.setBox hb (by rw [hv];rfl) hU.os hU.tape hU.output hU.size (fun k h2 h3=>hU.block k h2 h3) trivial (.inr ⟨_,_,_,_,_,rfl,rfl⟩)
     ⟨cells,c',e,hh,hh',u3,fun o3 cs3 e1 _=>by rw [hv] at e1;cases e1⟩
     (fun hkeep=>by
      refine ⟨hs0,c'.toList.take (n * sz),⟨by rw [List.length_take,Array.length_toList,u3];omega, .inr ⟨b,cap,c',hv,Nat.zero_le _,hh',hnc,hcm,by rw [u3,hcsz],rfl⟩⟩,fun x hx => ?_,fun i' hi' j hj => ?_⟩
      ·obtain ⟨k,hk1,rfl⟩:=List.getElem_of_mem hx
       have hk2:k<n * sz:=by simp at hk1;omega
       have e:=htake k hk2
       rw [List.getD_eq_getElem?_getD,List.getElem?_eq_getElem hk1] at e
       simp only [Option.getD_some] at e
       rw [e]
       by_cases hk3:i * sz≤k∧k<i * sz+sz
       ·have:=h1' (k - i * sz) (by omega)
        rwa [show i * sz+(k - i * sz)=k by omega] at this
       ·rw [hget k (by omega)]
        exact hxone k hk2
      ·rw [htake _ (dq hi' hj)]
       dsimp only
       by_cases hie:i'=i
       ·subst hie
        rw [if_pos rfl]
        exact bt.mono (fun k hkk=>⟨hok' k hkk,fun _=>rfl⟩) (hd' j)
       ·rw [if_neg hie,hget _ (hout i' j hj hie),← hxs _ (dq hi' hj)]
        exact bt.mono hkeep (hdb i' hi' j hj))
   exact ⟨v,he,kO.mk_set g' hd (SV.lt_zero hr0 _) (pq hr0 hok' hvr) (hK _ _ (by obtain ⟨rfl,rfl⟩:=hR;exact hk))⟩
 | own args' e sz n gg h ha hl hr hk =>
  obtain ⟨hab,hspec⟩:=h
  obtain ⟨q1,q2⟩:=fp (ρ:=ρ) (ok:=(· < w.heap.size)) (w:=w) ha
  have hq:=q2 (u:=fun j=>V.getD j undef) (fun j hj=>by
   have hj':j<A.length:=by simpa using hj
   have e:(A.map (dp st.bx)).getD j .any=dp st.bx (A.getD j .any):=by simp [List.getD_eq_getElem?_getD,hj']
   rw [e]
   exact lP g (hden j hj'))
  have hgl:mz S (· < w.heap.size) w:=fun k n f hg=>by
   obtain ⟨h1,h2⟩:=g.glb k n f hg
   refine ⟨h1.1,fun j hj => ?_⟩
   obtain ⟨x,hx,hx1,hdx⟩:=h2 j hj
   exact ⟨x,hx,hx1,bt.mono (fun b hb=>⟨hb.1,fun _=>rfl⟩) hdx⟩
  refine kT (hrun hab) ((hspec (· < w.heap.size) w V (fun b hb=>hb) hgl (by rw [hsz,← q1];simp) (fun j => ?_)).mono fun ex w' ⟨v,xs,he,hB,h0,hown,hone,hd2⟩ => ?_)
  ·by_cases hj:j<args'.length
   ·refine eT (hl _ ?_) (hq j)
    rw [List.getD_eq_getElem?_getD,List.getElem?_eq_getElem hj];exact List.getElem_mem hj
   ·rw [List.getD_eq_getElem?_getD,List.getElem?_eq_none (by omega)];trivial
  ·have hown0:w'.ownsRow 0 e sz v n xs:=⟨hown.1,by
    rcases hown.2 with h|⟨b,cap,cur,e1,e2,e3⟩
    ·exact .inl h
    ·exact .inr ⟨b,cap,cur,e1,Nat.zero_le _,e3⟩⟩
   have hge:∀ b,mZ v=some b→w.heap.size≤b:=fun b hb=>by
    rcases hown.2 with ⟨e1,_⟩|⟨b2,cap,cur,e1,e2,_⟩
    ·rw [e1] at hb;cases hb
    ·rw [e1] at hb;simp only [mZ,Option.some.injEq] at hb;omega
   have g':=g.newBox hB (.arr e sz n gg) v trivial (fun b hb=>⟨hge b hb,Dl hown0 hb⟩)
    (fun ok' _=>⟨h0,xs,hown0,hone,fun i hi j hj=>bt.mono (fun _ hb=>hb.elim) (hd2 i hi j hj)⟩)
   exact ⟨v,he,kO.mk_set g' hd (nI st _ _) (yz hown0 st ρ _ _) (hK _ _ hk)⟩
 | inl X bx' nx' h hr hw hk hn =>
  obtain ⟨hab,hspec⟩:=h
  refine kT (hrun hab) ((hspec E st ρ a w V rfl rfl g hsz fun j => ?_).mono fun e w' ⟨v,ρ',he,hX,hXl,g'⟩=>⟨v,he,kO.mk_set g' hd hXl hX (hK _ _ hk)⟩)
  by_cases hj:j<A.length
  ·exact hden j hj
  ·rw [List.getD_eq_getElem?_getD,List.getElem?_eq_none (by omega)];trivial
theorem CZ {f : FuncId} {o : Oper} {args : Array Operand} {ts : Array TypeId} {K : SV → St → Prop} {Kn : St → Prop} {Q : Exit → Act → World → Prop}
  (ho:o.op = .call { callee := .value (.func f),args:=args,argTypes:=ts }) (hd:∀ k,o.dst=some k→k<E.N) (hc:∀ x ∈ args.toList,(st.ev S x).cond) (g:Gam S E st ρ a w)
  (hK:∀ r st',K r st'→Kn (st'.set o.dst r)) (h:CallP S st f (args.toList.map fun x=>dO (st.ev S x)) K):o.wp S.P a w (kO S E Kn) Q :=
 rK (fun hab=>IS hab ho a w) (fun v hv=>by simp [execOp,ho,resolve,Act.eval,Deferred.ofValue,invoke,Sem.run_bind];exact hv) hd (Bm g hc) (by simp) g hK h
theorem NG {x : SV} {f : FuncId} {xs : List BV} {u : Value} {ok : Nat → Prop} (h : nD x = some (f, xs)) (hx : bu ρ ok w x u) :
  ∃ vs:Array Value,u = .func (.func f) #[] vs∧vs.size=xs.length∧∀ j,j<xs.length→bR ρ ok w (xs.getD j .any) (vs.getD j undef):=by
 unfold nD at h
 split at h <;> try simp only [Option.some.injEq,Prod.mk.injEq,reduceCtorEq] at h
 ·rename_i f' ps
  obtain ⟨rfl,rfl⟩:=h
  obtain ⟨vs,hu,hs,hc⟩:=hx
  refine ⟨vs,hu,by simp [hs],fun j hj => ?_⟩
  have hj':j<ps.length:=by simpa using hj
  obtain ⟨b,o,h1,h2⟩:=hc j hj'
  have e1:(ps.map fun p=>BV.c (.ptr p.1 p.2)).getD j .any=BV.c (.ptr (ps.getD j (0,0)).1 (ps.getD j (0,0)).2):=by simp [List.getD_eq_getElem?_getD,hj']
  rw [e1]
  exact ⟨b,o,h1,h2⟩
 ·rename_i f' n sz g
  obtain ⟨rfl,rfl⟩:=h
  obtain ⟨vs,hu,hs,hc⟩:=hx
  refine ⟨vs,hu,by simp [hs],fun j hj => ?_⟩
  have hj':j<n:=by simpa using hj
  obtain ⟨b,o,h1,h2,h3⟩:=hc j hj'
  have e1:((List.range n).map fun i=>BV.c (.ipt (sz i) (g i) 0)).getD j .any=BV.c (.ipt (sz j) (g j) 0):=by simp [List.getD_eq_getElem?_getD,hj']
  rw [e1]
  exact ⟨b,o,h1,h2,h3⟩
 ·rename_i f' a b
  split at h
  ·rename_i hab
   obtain ⟨rfl,rfl⟩:=hab
   simp only [Option.some.injEq,Prod.mk.injEq] at h
   obtain ⟨rfl,rfl⟩:=h
   exact ⟨#[],hx,rfl,fun j hj=>absurd hj (Nat.not_lt_zero _)⟩
  ·cases h
theorem Jq {f : FuncId} {o : Oper} {t : Tmp} {x : SV} {xs : List BV} {args : Array Operand} {ts : Array TypeId} {K : SV → St → Prop} {Kn : St → Prop} {Q : Exit → Act → World → Prop}
  (ho:o.op = .call { callee := .value (.tmp t),args:=args,argTypes:=ts }) (hx:nD x=some (f,xs)) (ht:bu ρ (bL E st.bx ρ w) w x (a.eval (.tmp t))) (hd:∀ k,o.dst=some k→k<E.N)
  (hc:∀ x ∈ args.toList,(st.ev S x).cond) (g:Gam S E st ρ a w) (hK:∀ r st',K r st'→Kn (st'.set o.dst r))
  (h:CallP S st f (args.toList.map (fun x=>dO (st.ev S x)) ++ xs) K):o.wp S.P a w (kO S E Kn) Q:=by
 obtain ⟨vs,hu,hs,hcp⟩:=NG hx ht
 have hA:=Bm (args:=args) g hc
 refine rK (V:=args.map a.eval ++ vs) (fun hab => ?_) (fun v hv=>by simp [execOp,ho,resolve,hu,Deferred.ofValue,invoke,Sem.run_bind];exact hv) hd (fun j hj => ?_) (by simp [hs]) g hK h
 ·obtain ⟨fn,h1,h2,h3⟩:=hab
  have h2' : ¬ fn.name = "runtime.NumGoroutine" := by simpa using h2
  have h3':¬ fn.body=none:=fun h=>by rw [h] at h3;simp at h3
  simp [execOp,ho,resolve,hu,Deferred.ofValue,invoke,callFunc,Sem.run_bind,h1,h2',h3']
 ·by_cases hj2:j<args.size
  ·have e1:(args.toList.map (fun x=>dO (st.ev S x)) ++ xs).getD j .any=(args.toList.map (fun x=>dO (st.ev S x))).getD j .any:=by
    rw [List.getD_eq_getElem?_getD,List.getD_eq_getElem?_getD,List.getElem?_append_left (by simpa using hj2)]
   have e2:(args.map a.eval ++ vs).getD j undef=(args.map a.eval).getD j undef:=by
    rw [aT?,aT?,Array.getElem?_append_left (by simpa using hj2)]
   rw [e1,e2]
   exact hA j (by simpa using hj2)
  ·have hj3:j - args.size<xs.length:=by simp at hj;omega
   have e1:(args.toList.map (fun x=>dO (st.ev S x)) ++ xs).getD j .any=xs.getD (j - args.size) .any:=by
    rw [List.getD_eq_getElem?_getD,List.getD_eq_getElem?_getD,List.getElem?_append_right (by simp;omega)];simp
   have e2:(args.map a.eval ++ vs).getD j undef=vs.getD (j - args.size) undef:=by
    rw [aT?,aT?,Array.getElem?_append_right (by simp;omega)];simp
   rw [e1,e2]
   exact hcp _ hj3
end
end Go.SL
