/- Part of the proof: SlP, SlN, SlO, SlQ, SlR, SlS. -/
import Derived.Test.YtcbifofjjpfbcaaGreatDoorM2
set_option linter.unusedSimpArgs false
set_option linter.unusedVariables false
namespace Go.SL
open Go
def Ex (S:Env) (ops:Array Oper) (st:St) (o:Oper) (s':St):Prop:=eP S ops st o fun s=>s=s'
section
variable {S:Env} {ops:Array Oper} {st st2 s':St} {ev ev2:Operand→SV} {op:Op} {o:Oper}
theorem BU {f:FuncId} {args:List BV} {K:SV→St→Prop} (h:CallP S st f args K):∃ r s',CallP S st f args (fun r0 s0=>r0=r∧s0=s')∧K r s':=by
 cases h with
 | pure args' X h ha hl hk=>exact ⟨_,_, .pure args' X h ha hl ⟨rfl,rfl⟩,hk⟩
 | lend args' X h ha hl hf hk hp=>exact ⟨_,_, .lend args' X h ha hl hf ⟨rfl,rfl⟩ hp,hk⟩
 | recv id off cs0 cs rest args' X Y h he hb hoff hcs ha hl hr hy hk=>exact ⟨_,_, .recv id off cs0 cs rest args' X Y h he hb hoff hcs ha hl hr hy ⟨rfl,rfl⟩,hk⟩
 | recvEl id sz i e n g cs rest args' X Y h he hb hi hsz hcs ha hl hr hy hk=>exact ⟨_,_, .recvEl id sz i e n g cs rest args' X Y h he hb hi hsz hcs ha hl hr hy ⟨rfl,rfl⟩,hk⟩
 | inl X bx' nx' h hr hw hk hn=>exact ⟨_,_, .inl X bx' nx' h hr hw ⟨rfl,rfl⟩ hn,hk⟩
 | own args' e sz n g h ha hl hr hk=>exact ⟨_,_, .own args' e sz n g h ha hl hr ⟨rfl,rfl⟩,hk⟩
 | ext args' X h ha hl hk=>exact ⟨_,_, .ext args' X h ha hl ⟨rfl,rfl⟩,hk⟩
theorem Ii {K:SV→St→Prop} (h:dk S st ev op K):∃ r s',dk S st ev op (fun r0 s0=>r0=r∧s0=s')∧K r s':=by
 cases op with
 | build t parts =>
  simp only [dk] at *
  split at h
  ·split at h
   ·exact ⟨_,_,⟨h.1,rfl,rfl⟩,h.2⟩
   ·exact h.elim
  ·exact h.elim
 | alloc t =>
  simp only [dk] at *
  split at h
  ·exact ⟨_,_,⟨rfl,rfl⟩,h⟩
  ·exact h.elim
 | box t x =>
  simp only [dk] at *
  split at h
  ·exact ⟨_,_,⟨h.1,rfl,rfl⟩,h.2⟩
  ·exact h.elim
 | buildSlice t len parts =>
  simp only [dk] at *
  split at h
  ·split at h
   ·split at h
    ·exact ⟨_,_,⟨h.1,rfl,rfl⟩,h.2⟩
    ·exact h.elim
   ·exact h.elim
  ·exact h.elim
 | store t p x =>
  simp only [dk] at *
  split at h
  ·split at h
   ·exact ⟨_,_,⟨h.1,rfl,rfl⟩,h.2⟩
   ·exact h.elim
  ·split at h
   ·exact ⟨_,_,⟨h.1,rfl,rfl⟩,h.2⟩
   ·exact h.elim
  ·exact h.elim
 | makeSlice t l c =>
  simp only [dk] at *
  split at h
  ·split at h
   ·exact ⟨_,_,⟨h.1,rfl,rfl⟩,h.2⟩
   ·exact h.elim
  ·exact h.elim
 | call c =>
  simp only [dk] at *
  split at h
  ·split at h
   ·split at h
    ·exact ⟨_,_,⟨h.1,rfl,rfl⟩,h.2⟩
    ·split at h
     ·exact ⟨_,_,⟨h.1,rfl,rfl⟩,h.2⟩
     ·exact h.elim
    ·exact h.elim
   ·exact h.elim
  ·split at h
   ·split at h
    ·exact ⟨_,_,⟨h.1,rfl,rfl⟩,h.2⟩
    ·exact h.elim
   ·exact h.elim
  ·exact BU h
  ·split at h
   ·exact BU h
   ·exact h.elim
  ·exact h.elim
 | _=>exact h.elim
theorem HA {K:St→Prop} (h:jo S st o K):∃ s',jo S st o (fun s=>s=s')∧K s':=by
 unfold jo at *
 split at h
 ·exact ⟨_,⟨h.1,rfl⟩,h.2⟩
 ·obtain ⟨r,s',h1,h2⟩:=Ii h.2
  exact ⟨_,⟨h.1,uw (fun r0 s0 ⟨e1,e2⟩=>by rw [e1,e2]) h1⟩,h2⟩
theorem oO {K:St→Prop} (h:eP S ops st o K):∃ s',Ex S ops st o s'∧K s':=by
 unfold Ex
 unfold eP at *
 split at h
 ·exact HA h
 ·split at h
  ·rename_i g hg
   split at h
   ·exact ⟨_,⟨h.1,h.2.1,rfl⟩,h.2.2⟩
   ·exact ⟨_,⟨h.1,h.2.1,rfl⟩,h.2.2⟩
   ·rcases h with h|⟨x,q1,q2,q3⟩
    ·cases g with
     | true =>
      obtain ⟨s',h1,h2⟩:=HA (h.1 rfl)
      exact ⟨s', .inl ⟨fun _=>h1,fun h=>by cases h⟩,h2⟩
     | false=>exact ⟨_, .inl ⟨fun h=>by (cases h),fun _=>rfl⟩,h.2 rfl⟩
    ·exact ⟨_, .inr ⟨x,q1,q2,rfl⟩,q3⟩
  ·exact h.elim
theorem kN {K:St→Prop} (h:Ex S ops st o s') (hk:K s'):eP S ops st o K:=uW (fun s (hs:s=s')=>by rw [hs];exact hk) h
theorem mX {f : FuncId} {args : List BV} {r : SV} (h : CallP S st f args (fun r0 s0 => r0 = r ∧ s0 = s')) :
  ∃ bx' nx',s'=⟨st.fr,bx',nx',st.kf⟩∧((S.rcv f || S.rcv (f+2000000))=false→bx'=st.bx∧nx'=st.nx)∧∀ st2:St,st2.bx=st.bx→st2.nx=st.nx→CallP S st2 f args (fun r0 s0=>r0=r∧s0=⟨st2.fr,bx',nx',st2.kf⟩):=by
 cases h with
 | pure args' X h ha hl hk =>
  obtain ⟨rfl,rfl⟩:=hk
  exact ⟨_,_,rfl,fun _=>⟨rfl,rfl⟩,fun st2 e1 e2 => .pure args' _ h ha hl ⟨rfl,by rw [← e1,← e2]⟩⟩
 | ext args' X h ha hl hk =>
  obtain ⟨rfl,rfl⟩:=hk
  exact ⟨_,_,rfl,fun _=>⟨rfl,rfl⟩,fun st2 e1 e2 => .ext args' _ h ha hl ⟨rfl,by rw [← e1,← e2]⟩⟩
 | lend args' X h ha hl hf hk hp =>
  obtain ⟨rfl,rfl⟩:=hk
  exact ⟨_,_,rfl,fun _=>⟨rfl,rfl⟩,fun st2 e1 e2 => .lend args' _ h (by rw [e1];exact ha) hl hf ⟨rfl,by rw [← e1,← e2]⟩ hp⟩
 | recv id off cs0 cs rest args' X Y h he hb hoff hcs ha hl hr hy hk =>
  obtain ⟨rfl,rfl⟩:=hk
  exact ⟨_,_,rfl,fun h0=>by (simp [hr] at h0),fun st2 e1 e2 => .recv id off cs0 cs rest args' _ Y h he (by rw [e1];exact hb) hoff hcs ha hl hr hy ⟨rfl,by simp only [St.setBox,e1,e2]⟩⟩
 | recvEl id sz i e n g cs rest args' X Y h he hb hi hsz hcs ha hl hr hy hk =>
  obtain ⟨rfl,rfl⟩:=hk
  exact ⟨_,_,rfl,fun h0=>by (simp [hr] at h0),fun st2 e1 e2 => .recvEl id sz i e n g cs rest args' _ Y h he (by rw [e1];exact hb) hi hsz hcs ha hl hr hy ⟨rfl,by simp only [St.setBox,e1,e2]⟩⟩
 | inl X bx' nx' h hr hw hk hn =>
  obtain ⟨rfl,rfl⟩:=hk
  exact ⟨_,_,rfl,fun h0=>by (simp [hr] at h0),fun st2 e1 e2 => .inl _ bx' nx' (by rw [e1,e2];exact h) hr hw ⟨rfl,rfl⟩ (by rw [e2];exact hn)⟩
 | own args' e sz n g h ha hl hr hk =>
  obtain ⟨rfl,rfl⟩:=hk
  exact ⟨_,_,rfl,fun h0=>by (simp [hr] at h0),fun st2 e1 e2 => .own args' e sz n g h (by rw [e1];exact ha) hl hr ⟨by rw [e2],by simp only [St.newBox,e1,e2]⟩⟩
theorem FH {f:FuncId} {args:List BV} {r:SV} (hp:S.rcv (f+1000000)=true) (hn:(S.rcv f || S.rcv (f+2000000))=false) (h:CallP S st f args (fun r0 s0=>r0=r∧s0=s')) (st2:St):CallP S st2 f args (fun r0 s0=>r0=r∧s0=st2):=by
 cases h with
 | pure args' X h ha hl hk=>exact .pure args' _ h ha hl ⟨hk.1,rfl⟩
 | ext args' X h ha hl hk=>exact .ext args' _ h ha hl ⟨hk.1,rfl⟩
 | lend args' X h ha hl hf hk hq=>rw [hp] at hq;cases hq
 | recv id off cs0 cs rest args' X Y h he hb hoff hcs ha hl hr hy hk=>simp [hr] at hn
 | recvEl id sz i e n g cs rest args' X Y h he hb hi hsz hcs ha hl hr hy hk=>simp [hr] at hn
 | inl X bx' nx' h hr hw hk hn2=>simp [hr] at hn
 | own args' e sz n g h ha hl hr hk=>simp [hr] at hn
theorem jX {pl:Nat→Option (Nat × Nat)}:∀ {ps:List (Nat × Operand)} {cs:List CV},(∀ p ∈ ps,ev p.2=ev2 p.2)→gu pl ev ps cs=gu pl ev2 ps cs
 | [],_,_=>rfl
 | p :: ps,cs,h=>by
  obtain ⟨i,x⟩:=p
  have h1:=h (i,x) (List.mem_cons_self ..)
  simp only at h1
  simp only [gu,h1]
  split
  ·rw [jX fun p hp=>h p (List.mem_cons_of_mem _ hp)]
  ·rfl
theorem wo {r : SV} (h : dk S st ev op (fun r0 s0 => r0 = r ∧ s0 = s')) (he : ∀ x ∈ op.operands.toList, ev x = ev2 x) :
  ∃ bx' nx',s'=⟨st.fr,bx',nx',st.kf⟩∧∀ st2:St,st2.bx=st.bx→st2.nx=st.nx→dk S st2 ev2 op (fun r0 s0=>r0=r∧s0=⟨st2.fr,bx',nx',st2.kf⟩):=by
 cases op with
 | build t parts =>
  have hf:∀ {pl cs},gu pl ev parts.toList cs=gu pl ev2 parts.toList cs:=fun {pl cs}=>jX fun p hp=>he p.2 (by simp only [Op.operands];exact List.mem_map_of_mem hp)
  simp only [dk,hf] at *
  split at h
  ·split at h
   ·obtain ⟨h1,rfl,rfl⟩:=h
    exact ⟨_,_,rfl,fun st2 e1 e2=>⟨h1,rfl,by rw [← e1,← e2]⟩⟩
   ·exact h.elim
  ·exact h.elim
 | alloc t =>
  simp only [dk] at *
  split at h
  ·obtain ⟨rfl,rfl⟩:=h
   exact ⟨_,_,rfl,fun st2 e1 e2=>⟨by rw [e2],by simp only [St.newBox,e1,e2]⟩⟩
  ·exact h.elim
 | box t x =>
  simp only [dk,he x (by simp [Op.operands])] at *
  split at h
  ·obtain ⟨h1,rfl,rfl⟩:=h
   exact ⟨_,_,rfl,fun st2 e1 e2=>⟨h1,by rw [e2],by simp only [St.newBox,e1,e2]⟩⟩
  ·exact h.elim
 | buildSlice t len parts =>
  have hf:∀ {pl cs},gu pl ev parts.toList cs=gu pl ev2 parts.toList cs:=fun {pl cs}=>jX fun p hp=>he p.2 (by simp only [Op.operands];exact List.mem_map_of_mem hp)
  simp only [dk,hf] at *
  split at h
  ·split at h
   ·split at h
    ·obtain ⟨h1,rfl,rfl⟩:=h
     exact ⟨_,_,rfl,fun st2 e1 e2=>⟨h1,by rw [e2],by simp only [St.newBox,e1,e2]⟩⟩
    ·exact h.elim
   ·exact h.elim
  ·exact h.elim
 | store t p x =>
  simp only [dk,he p (by simp [Op.operands]),he x (by simp [Op.operands])] at *
  split at h
  ·rename_i hb0
   split at h
   ·rename_i hb
    obtain ⟨h1,rfl,rfl⟩:=h
    exact ⟨_,_,rfl,fun st2 e1 e2=>by simp only [e1,hb];exact ⟨h1,by simp only [St.setBox,e1,e2,true_and]⟩⟩
   ·exact h.elim
  ·split at h
   ·rename_i hb
    obtain ⟨h1,rfl,rfl⟩:=h
    exact ⟨_,_,rfl,fun st2 e1 e2=>by simp only [e1,hb];exact ⟨h1,by simp only [St.setBox,e1,e2,true_and]⟩⟩
   ·exact h.elim
  ·exact h.elim
 | makeSlice t l c =>
  simp only [dk,he l (by simp [Op.operands]),he c (by simp [Op.operands])] at *
  split at h
  ·split at h
   ·obtain ⟨h1,rfl,rfl⟩:=h
    exact ⟨_,_,rfl,fun st2 e1 e2=>⟨h1,by rw [e2],by simp only [St.newBoxO,e1,e2]⟩⟩
   ·exact h.elim
  ·exact h.elim
 | call c =>
  obtain ⟨cal,⟨al⟩,⟨tl⟩⟩:=c
  unfold dk at h
  simp only at h
  split at h
  ·rename_i x y t t'
   have h1:=he x (by simp [Op.operands,Call.operands])
   have h2:=he y (by simp [Op.operands,Call.operands])
   rw [h1,h2] at h
   unfold dk
   simp only
   split at h
   ·rename_i hel hsrc
    split at h
    ·rename_i hi hz hx
     obtain ⟨hh,rfl,rfl⟩:=h
     exact ⟨_,_,rfl,fun st2 q1 q2=>by
      simp only [q1,q2,hel,hsrc,hi,hz,hx]
      exact ⟨hh,trivial,by simp only [St.newBox,q1,q2]⟩⟩
    ·rename_i hi hz hx
     split at h
     ·rename_i hb
      obtain ⟨hh,rfl,rfl⟩:=h
      exact ⟨_,_,rfl,fun st2 q1 q2=>by
       simp only [q1,q2,hel,hsrc,hi,hz,hx,hb]
       exact ⟨hh,trivial,by simp only [St.newBox,St.delBox,q1,q2];try rfl⟩⟩
     ·exact h.elim
    ·exact h.elim
   ·exact h.elim
  ·rename_i x y t t'
   have h1:=he x (by simp [Op.operands,Call.operands])
   have h2:=he y (by simp [Op.operands,Call.operands])
   rw [h1,h2] at h
   unfold dk
   simp only
   split at h
   ·rename_i hel hx hy
    split at h
    ·rename_i hb
     obtain ⟨hh,rfl,rfl⟩:=h
     exact ⟨_,_,rfl,fun st2 q1 q2=>by
      simp only [q1,hel,hx,hy,hb]
      exact ⟨hh,trivial,by simp only [St.setBox,q1,q2]⟩⟩
    ·exact h.elim
   ·exact h.elim
  ·have hl:al.map (fun x=>dO (ev x))=al.map (fun x=>dO (ev2 x)):=List.map_congr_left fun x hx=>by rw [he x (by simp [Op.operands,Call.operands,hx])]
   rw [hl] at h
   obtain ⟨bx',nx',e,_,hp⟩:=mX h
   exact ⟨bx',nx',e,fun st2 q1 q2=>by unfold dk;exact hp st2 q1 q2⟩
  ·rename_i t
   have hl:al.map (fun x=>dO (ev x))=al.map (fun x=>dO (ev2 x)):=List.map_congr_left fun x hx=>by rw [he x (by simp [Op.operands,Call.operands,hx])]
   have ht:=he (.tmp t) (by simp [Op.operands,Call.operands])
   split at h
   ·rename_i f ps hx
    rw [hl] at h
    obtain ⟨bx',nx',e,_,hp⟩:=mX h
    exact ⟨bx',nx',e,fun st2 q1 q2=>by unfold dk;simp only;rw [← ht,hx];exact hp st2 q1 q2⟩
   ·exact h.elim
  ·exact h.elim
 | _=>exact h.elim
theorem gz {bx:Nat→Option Bx} (he:∀ x ∈ op.operands.toList,ev x=ev2 x):ro S bx ev op=ro S bx ev2 op:=by
 have hc:aV (op.operands.toList.map ev)=aV (op.operands.toList.map ev2):=by rw [List.map_congr_left he]
 have hcore:bj S bx ev op=bj S bx ev2 op:=by
  cases op with
  | slice t x lo hi m =>
   cases m with
   | none =>
    have h1:=he x (by simp [Op.operands])
    cases lo with
    | none=>cases hi with
     | none=>simp only [bj,h1,Option.map_none]
     | some b=>have h3:=he b (by simp [Op.operands]);simp only [bj,h1,h3,Option.map_none,Option.map_some]
    | some a =>
     have h2:=he a (by simp [Op.operands])
     cases hi with
     | none=>simp only [bj,h1,h2,Option.map_none,Option.map_some]
     | some b=>have h3:=he b (by simp [Op.operands]);simp only [bj,h1,h2,h3,Option.map_some]
   | some _=>rfl
  | call c =>
   obtain ⟨cal,⟨al⟩,⟨tl⟩⟩:=c
   unfold bj
   simp only
   split
   ·rename_i x _;rw [he x (by simp [Op.operands,Call.operands])]
   ·rename_i x y;rw [he x (by simp [Op.operands,Call.operands]),he y (by simp [Op.operands,Call.operands])]
   ·rename_i x y;rw [he x (by simp [Op.operands,Call.operands]),he y (by simp [Op.operands,Call.operands])]
   ·rfl
  | makeFunc fn first cap =>
   have hl:cap.toList.map (fun x=>(ev x).strip)=cap.toList.map (fun x=>(ev2 x).strip):=List.map_congr_left fun x hx=>by rw [he x (by simp [Op.operands];exact .inr (by simpa using hx))]
   simp only [bj,hl]
  | load t x=>simp only [bj,he x (by simp [Op.operands])]
  | fieldAddr t x f=>simp only [bj,he x (by simp [Op.operands])]
  | field t x f=>simp only [bj,he x (by simp [Op.operands])]
  | indexAddr t x y=>simp only [bj,he x (by simp [Op.operands]),he y (by simp [Op.operands])]
  | index t x y=>simp only [bj,he x (by simp [Op.operands]),he y (by simp [Op.operands])]
  | extract x _=>simp only [bj,he x (by simp [Op.operands])]
  | binOp _ _ x y _=>simp only [bj,he x (by simp [Op.operands]),he y (by simp [Op.operands])]
  | unOp _ _ x=>simp only [bj,he x (by simp [Op.operands])]
  | convert _ _ x=>simp only [bj,he x (by simp [Op.operands])]
  | nilCheck x=>simp only [bj,he x (by simp [Op.operands])]
  | _=>rfl
 unfold ro
 split
 ·rename_i x;rw [he x (by simp [Op.operands])]
 ·rename_i x;rw [he x (by simp [Op.operands])]
 ·rename_i c a b;rw [he c (by simp [Op.operands]),he a (by simp [Op.operands]),he b (by simp [Op.operands])]
 ·rw [hcore,hc]
def dE (rcv:Nat→Bool):Op→Nat
 | .move _ | .assign _ | .pick .. | .fieldAddr .. | .field .. | .indexAddr .. | .index .. | .extract .. | .binOp .. | .unOp .. | .convert .. | .slice .. | .nilCheck _ | .build .. | .makeFunc .. => 0
 | .load .. => 1
 | .call c=>match c.callee with
  | .builtin .len | .builtin .min | .builtin .max=>0
  | .value (.func f)=>if rcv f || rcv (f+2000000) then 2 else if rcv (f+1000000) then 0 else 1
  | _=>2
 | _=>2
def vQ (rcv:Nat→Bool) (o:Oper):Nat:=if o.guard.isSome then max 1 (dE rcv o.op) else dE rcv o.op
def cg (ops:Array Oper) (o:Oper):List Nat :=
 (o.op.operands.toList.filterMap fun | .tmp t=>some t|_=>none) ++ (match o.guard with|some (j,_)=>((ops[j]?).bind (·.dst)).toList|none=>[])
theorem du {st st2:St} (h:∀ t ∈ cg ops o,st.fr t=st2.fr t):∀ x ∈ o.op.operands.toList,st.ev S x=st2.ev S x:=fun x hx=>by
 cases x with
 | tmp t=>exact h t (List.mem_append_left _ (List.mem_filterMap.2 ⟨_,hx,rfl⟩))
 | _=>rfl
theorem PJ {bx bx2:Nat→Option Bx} (h:dE S.rcv op=0):ro S bx ev op=ro S bx2 ev op:=by
 cases op with
 | load=>simp [dE] at h
 | slice t x lo hi m=>cases m <;> rfl
 | _=>rfl
theorem dZ (st:St) (d:Option Nat) (v:SV):st.set d v=⟨fun s=>if some s=d then v else st.fr s,st.bx,st.nx,st.kf⟩:=by
 cases d with
 | none=>simp [St.set]
 | some d=>simp only [St.set,Option.some.injEq]
theorem tI {d : Option Nat} (hd : o.dst = d) (h : jo S st o (fun s => s = s')) :
  ∃ v bx' nx',s'=St.set ⟨st.fr,bx',nx',st.kf⟩ d v∧(dE S.rcv o.op≤1→bx'=st.bx∧nx'=st.nx) ∧
   (∀ st2:St,(∀ t ∈ cg ops o,st.fr t=st2.fr t)→st2.bx=st.bx→st2.nx=st.nx→jo S st2 o (fun s=>s=St.set ⟨st2.fr,bx',nx',st2.kf⟩ d v)) ∧
   (dE S.rcv o.op=0→∀ st2:St,(∀ t ∈ cg ops o,st.fr t=st2.fr t)→jo S st2 o (fun s=>s=St.set st2 d v)):=by
 subst hd
 unfold jo at h
 split at h
 ·rename_i vc r hro
  obtain ⟨hv,rfl⟩:=h
  refine ⟨r,st.bx,st.nx,rfl,fun _=>⟨rfl,rfl⟩,fun st2 hn e1 e2 => ?_,fun h0 st2 hn => ?_⟩
  ·unfold jo
   rw [e1,← gz (du hn),hro]
   exact ⟨hv,by rw [← e1,← e2]⟩
  ·unfold jo
   rw [← gz (du hn),PJ (bx2:=st.bx) h0,hro]
   exact ⟨hv,rfl⟩
 ·rename_i hro
  obtain ⟨hc,hM⟩:=h
  obtain ⟨r,s0,hM1,rfl⟩:=Ii hM
  obtain ⟨bx',nx',rfl, -⟩:=wo hM1 (ev2:=st.ev S) fun _ _=>rfl
  have hcond:∀ st2:St,(∀ t ∈ cg ops o,st.fr t=st2.fr t)→aV (o.op.operands.toList.map (st2.ev S)):=fun st2 hn=>by
   rw [← List.map_congr_left (du (S:=S) hn)];exact hc
  have hcls:dE S.rcv o.op≤1→bx'=st.bx∧nx'=st.nx:=fun hle=>by
   revert hM1 hle
   generalize o.op=op
   intro hM1 hle
   cases op with
   | call c =>
    obtain ⟨cal,⟨al⟩,⟨tl⟩⟩:=c
    unfold dk at hM1
    simp only at hM1
    split at hM1
    ·simp [dE] at hle
    ·simp [dE] at hle
    ·obtain ⟨b,n,e,hr,_⟩:=mX hM1
     simp only [St.mk.injEq,true_and,and_true] at e
     obtain ⟨rfl,rfl⟩:=e
     refine hr ?_
     simp only [dE] at hle
     split at hle
     ·omega
     ·rename_i hne;simpa using hne
    ·simp [dE] at hle
    ·exact hM1.elim
   | build t parts =>
    simp only [dk] at hM1
    split at hM1
    ·split at hM1
     ·obtain ⟨_,_,e⟩:=hM1
      have e2:=congrArg St.bx e
      have e3:=congrArg St.nx e
      exact ⟨e2.symm,e3.symm⟩
     ·exact hM1.elim
    ·exact hM1.elim
   | alloc=>simp [dE] at hle
   | box=>simp [dE] at hle
   | buildSlice=>simp [dE] at hle
   | store=>simp [dE] at hle
   | makeSlice=>simp [dE] at hle
   | _=>exact hM1.elim
  refine ⟨r,bx',nx',rfl,hcls,fun st2 hn e1 e2 => ?_,fun h0 st2 hn => ?_⟩
  ·unfold jo
   rw [e1,← gz (du hn),hro]
   refine ⟨hcond st2 hn, ?_⟩
   obtain ⟨b,n,e,hp⟩:=wo hM1 (ev2:=st2.ev S) (du hn)
   simp only [St.mk.injEq,true_and,and_true] at e
   obtain ⟨rfl,rfl⟩:=e
   exact uw (fun r0 s0 ⟨q1,q2⟩=>by rw [q1,q2]) (hp st2 e1 e2)
  ·unfold jo
   rw [← gz (du hn),PJ (bx2:=st.bx) h0,hro]
   refine ⟨hcond st2 hn, ?_⟩
   revert hM1 h0 hn
   generalize hoo:o.op=op
   intro hM1 h0 hn
   cases op with
   | build t parts =>
    have hev:=du (S:=S) hn
    rw [hoo] at hev
    have hf:∀ {pl cs},gu pl (st.ev S) parts.toList cs=gu pl (st2.ev S) parts.toList cs:=fun {pl cs}=>jX fun p hp=>hev p.2 (by simp only [Op.operands];exact List.mem_map_of_mem hp)
    simp only [dk,hf] at hM1 ⊢
    split at hM1
    ·split at hM1
     ·obtain ⟨q1,rfl,e⟩:=hM1
      exact ⟨q1,rfl⟩
     ·exact hM1.elim
    ·exact hM1.elim
   | call c =>
    obtain ⟨cal,⟨al⟩,⟨tl⟩⟩:=c
    unfold dk at hM1
    simp only at hM1
    split at hM1
    ·simp [dE] at h0
    ·simp [dE] at h0
    ·simp only [dE] at h0
     split at h0
     ·simp at h0
     ·split at h0
      ·rename_i hne hpp
       have hev:=du (S:=S) hn
       rw [hoo] at hev
       unfold dk
       simp only
       have hh:=FH hpp (by simpa using hne) hM1 st2
       rw [List.map_congr_left (g:=fun x=>dO (st2.ev S x)) (fun x hx=>by rw [hev x (by simp [Op.operands,Call.operands,hx])])] at hh
       exact CallP.mono (fun r0 s0 ⟨q1,q2⟩=>by rw [q1,q2]) hh
      ·simp at h0
    ·simp [dE] at h0
    ·exact hM1.elim
   | alloc=>simp [dE] at h0
   | box=>simp [dE] at h0
   | buildSlice=>simp [dE] at h0
   | store=>simp [dE] at h0
   | makeSlice=>simp [dE] at h0
   | _=>exact hM1.elim
theorem gC (h : Ex S ops st o s') :
  ∃ v bx' nx',s'=St.set ⟨st.fr,bx',nx',st.kf⟩ o.dst v∧(vQ S.rcv o≤1→bx'=st.bx∧nx'=st.nx) ∧
   (∀ st2:St,(∀ t ∈ cg ops o,st.fr t=st2.fr t)→st2.bx=st.bx→st2.nx=st.nx→Ex S ops st2 o (St.set ⟨st2.fr,bx',nx',st2.kf⟩ o.dst v)) ∧
   (vQ S.rcv o=0→∀ st2:St,(∀ t ∈ cg ops o,st.fr t=st2.fr t)→Ex S ops st2 o (St.set st2 o.dst v)):=by
 unfold Ex eP at h
 cases hg:o.guard with
 | none =>
  rw [hg] at h
  obtain ⟨v,bx',nx',h1,h2,h3,h4⟩:=tI (ops:=ops) rfl h
  have hcl:vQ S.rcv o=dE S.rcv o.op:=by simp [vQ,hg]
  refine ⟨v,bx',nx',h1,by rwa [hcl],fun st2 a b c => ?_,fun h0 st2 a => ?_⟩
  ·unfold Ex eP;rw [hg];exact h3 st2 a b c
  ·unfold Ex eP;rw [hg];exact h4 (by rwa [hcl] at h0) st2 a
 | some p =>
  obtain ⟨j,want⟩:=p
  rw [hg] at h
  simp only at h
  have hcl:¬ vQ S.rcv o=0:=by simp [vQ,hg];try omega
  have hcl1:vQ S.rcv o≤1→dE S.rcv o.op≤1:=by simp [vQ,hg];try omega
  have hgv:∀ st2:St,(∀ t ∈ cg ops o,st.fr t=st2.fr t)→iP st ((ops[j]?).bind (·.dst)) want=iP st2 ((ops[j]?).bind (·.dst)) want:=fun st2 hn=>by
   unfold iP
   split
   ·rename_i d hd
    rw [hn d (List.mem_append_right _ (by rw [hg];simp [hd]))]
   ·rfl
  split at h
  ·rename_i g hgg
   split at h
   ·rename_i vc r hro
    obtain ⟨h1,h2,rfl⟩:=h
    refine ⟨_,st.bx,st.nx,rfl,fun _=>⟨rfl,rfl⟩,fun st2 hn e1 e2 => ?_,fun h0=>absurd h0 hcl⟩
    unfold Ex eP
    rw [hg]
    simp only
    rw [← hgv st2 hn,hgg,e1,← gz (du hn),hro]
    exact ⟨by rw [e2];exact h1,h2,by rw [← e1,← e2]⟩
   ·rename_i vc p r hro
    obtain ⟨h1,h2,rfl⟩:=h
    refine ⟨_,st.bx,st.nx,rfl,fun _=>⟨rfl,rfl⟩,fun st2 hn e1 e2 => ?_,fun h0=>absurd h0 hcl⟩
    unfold Ex eP
    rw [hg]
    simp only
    rw [← hgv st2 hn,hgg,e1,← gz (du hn),hro]
    exact ⟨by rw [e2];exact h1,h2,by rw [← e1,← e2]⟩
   ·rename_i hne hne2
    rcases h with h|⟨x,hlx,h1,rfl⟩
    ·cases g with
     | true =>
      obtain ⟨v,bx',nx',h1,h2,h3,h4⟩:=tI (ops:=ops) rfl (h.1 rfl)
      refine ⟨v,bx',nx',h1,fun hc=>h2 (hcl1 hc),fun st2 hn e1 e2 => ?_,fun h0=>absurd h0 hcl⟩
      unfold Ex eP
      rw [hg]
      simp only
      rw [← hgv st2 hn,hgg,e1,← gz (du hn)]
      split
      ·rename_i g' q
       cases q
       split
       ·rename_i vc r hro;exact absurd hro (hne vc r)
       ·rename_i vc p r hro;exact absurd hro (hne2 vc p r)
       ·exact .inl ⟨fun _=>h3 st2 hn e1 e2,fun q=>by (cases q)⟩
      ·rename_i q;cases q
     | false =>
      have h1:=h.2 rfl
      subst h1
      refine ⟨_,st.bx,st.nx,rfl,fun _=>⟨rfl,rfl⟩,fun st2 hn e1 e2 => ?_,fun h0=>absurd h0 hcl⟩
      unfold Ex eP
      rw [hg]
      simp only
      rw [← hgv st2 hn,hgg,e1,← gz (du hn)]
      split
      ·rename_i g' q
       cases q
       split
       ·rename_i vc r hro;exact absurd hro (hne vc r)
       ·rename_i vc p r hro;exact absurd hro (hne2 vc p r)
       ·exact .inl ⟨fun q=>by (cases q),fun _=>by rw [← e1,← e2]⟩
      ·rename_i q;cases q
    ·refine ⟨_,st.bx,st.nx,rfl,fun _=>⟨rfl,rfl⟩,fun st2 hn e1 e2 => ?_,fun h0=>absurd h0 hcl⟩
     unfold Ex eP
     rw [hg]
     simp only
     rw [← hgv st2 hn,hgg,e1,← gz (du hn)]
     split
     ·rename_i g' q
      cases q
      split
      ·rename_i vc r hro;exact absurd hro (hne vc r)
      ·rename_i vc p r hro;exact absurd hro (hne2 vc p r)
      ·refine .inr ⟨x,by rw [e2];exact hlx,fun ht => ?_,by rw [← e1,← e2]⟩
       obtain ⟨v,bx',nx',p1,p2,p3,p4⟩:=tI (ops:=ops) rfl (h1 ht)
       have:=p3 st2 hn e1 e2
       rw [dZ,dZ] at p1
       simp only [St.mk.injEq,and_true] at p1
       obtain ⟨r1,rfl,rfl⟩:=p1
       have e:St.set st2 o.dst (.b x)=St.set ⟨st2.fr,st.bx,st.nx,st2.kf⟩ o.dst v:=by
        rw [dZ,dZ,e1,e2]
        simp only [St.mk.injEq,and_true]
        funext s
        by_cases hs:some s=o.dst
        ·have:=congrFun r1 s
         rw [if_pos hs,if_pos hs] at this
         rw [if_pos hs,if_pos hs,this]
        ·rw [if_neg hs,if_neg hs]
       rw [e];exact this
     ·rename_i q;cases q
  ·exact h.elim
def rL (rcv:Nat→Bool) (ops:Array Oper) (x y:Oper):Bool :=
 (match x.dst with|some d => !(cg ops y).contains d|none=>true) && (match y.dst with|some d => !(cg ops x).contains d|none=>true) &&
 (match x.dst,y.dst with|some d,some e=>d != e|_,_=>true) &&
 ((Nat.ble (vQ rcv x) 1 && Nat.ble (vQ rcv y) 1) || Nat.beq (vQ rcv x) 0 || Nat.beq (vQ rcv y) 0)
theorem gy {fr kf:Nat→SV} {bx bx':Nat→Option Bx} {nx nx':Nat} {d:Option Nat} {v:SV} {l:List Nat} (h:(match d with|some d => !l.contains d|none=>true)=true):∀ t ∈ l,(St.set ⟨fr,bx,nx,kf⟩ d v).fr t=fr t:=fun t ht=>by
 rw [dZ]
 simp only
 cases d with
 | none=>simp
 | some d =>
  have:t≠d:=fun e=>by subst e;simp [ht] at h
  simp [this]
theorem sS {x y:Oper} {s1 s2:St} (hi:rL S.rcv ops x y=true) (h1:Ex S ops st x s1) (h2:Ex S ops s1 y s2):∃ s3,Ex S ops st y s3∧Ex S ops s3 x s2:=by
 simp only [rL,Bool.and_eq_true,Bool.or_eq_true,Nat.ble_eq,Nat.beq_eq] at hi
 obtain ⟨⟨⟨hxy,hyx⟩,hdd⟩,hc⟩:=hi
 obtain ⟨v1,b1,n1,rfl,k1,p1,z1⟩:=gC h1
 obtain ⟨v2,b2,n2,rfl,k2,p2,z2⟩:=gC h2
 have ag1:∀ t ∈ cg ops y,(St.set ⟨st.fr,b1,n1,st.kf⟩ x.dst v1).fr t=st.fr t:=gy (nx':=0) (bx':=st.bx) hxy
 have comm:∀ b n,St.set ⟨(St.set ⟨st.fr,b1,n1,st.kf⟩ x.dst v1).fr,b,n,st.kf⟩ y.dst v2=St.set ⟨(St.set ⟨st.fr,b1,n1,st.kf⟩ y.dst v2).fr,b,n,st.kf⟩ x.dst v1:=fun b n=>by
  simp only [dZ,St.mk.injEq,and_true]
  funext s
  by_cases e1:some s=x.dst
  ·by_cases e2:some s=y.dst
   ·exfalso
    rw [← e1,← e2] at hdd
    simp at hdd
   ·simp only [if_pos e1,if_neg e2]
  ·simp only [if_neg e1]
 have nn:∀ b n,(∀ t ∈ cg ops x,st.fr t=(St.set ⟨st.fr,b,n,st.kf⟩ y.dst v2).fr t):=fun b n t ht=>(gy (nx':=0) (bx':=st.bx) hyx t ht).symm
 have sb:∀ fr b n kf d v,(St.set ⟨fr,b,n,kf⟩ d v).bx=b:=fun fr b n kf d v=>by rw [dZ]
 have sk:∀ fr b n kf d v,(St.set ⟨fr,b,n,kf⟩ d v).kf=kf:=fun fr b n kf d v=>by rw [dZ]
 have sn:∀ fr b n kf d v,(St.set ⟨fr,b,n,kf⟩ d v).nx=n:=fun fr b n kf d v=>by rw [dZ]
 have sf:∀ fr b n kf b' n' kf' d v,(St.set ⟨fr,b,n,kf⟩ d v).fr=(St.set ⟨fr,b',n',kf'⟩ d v).fr:=fun fr b n kf b' n' kf' d v=>by simp only [dZ]
 rcases hc with (hc|hc)|hc
 ·obtain ⟨rfl,rfl⟩:=k1 hc.1
  obtain ⟨q1,q2⟩:=k2 hc.2
  rw [sb] at q1;rw [sn] at q2
  subst q1;subst q2
  refine ⟨_,p2 st ag1 (by rw [sb]) (by rw [sn]), ?_⟩
  have:=p1 (St.set ⟨st.fr,st.bx,st.nx,st.kf⟩ y.dst v2) (nn _ _) (by rw [sb]) (by rw [sn])
  rw [sk] at this
  rw [sk,comm]
  exact this
 ·obtain ⟨rfl,rfl⟩:=k1 (by omega)
  refine ⟨_,p2 st ag1 (by rw [sb]) (by rw [sn]), ?_⟩
  have:=z1 hc (St.set ⟨st.fr,b2,n2,st.kf⟩ y.dst v2) (nn _ _)
  rw [sk,comm]
  rw [sf _ _ _ _ b2 n2 st.kf]
  simp only [dZ] at this ⊢
  exact this
 ·have:=z2 hc st ag1
  obtain ⟨q1,q2⟩:=k2 (by omega)
  rw [sb] at q1;rw [sn] at q2
  subst q1;subst q2
  refine ⟨_,this, ?_⟩
  have:=p1 (St.set st y.dst v2) (nn st.bx st.nx) (sb st.fr _ _ _ _ _) (sn st.fr _ _ _ _ _)
  rw [show (st.set y.dst v2).kf=st.kf from sk st.fr st.bx st.nx st.kf _ _] at this
  rw [sk,comm,sf _ _ _ _ st.bx st.nx st.kf]
  exact this
def LG (S:Env) (ops:Array Oper):List Oper→St→St→Prop
 | [],st,s'=>st=s'
 | o :: r,st,s'=>∃ s,Ex S ops st o s∧LG S ops r s s'
theorem tX {K:St→Prop}:∀ {l:List Oper} {st:St},aZ S ops l st K→∃ s',LG S ops l st s'∧K s'
 | [],st,h=>⟨st,rfl,h⟩
 | o :: r,st,h=>by
  obtain ⟨s,h1,h2⟩:=oO h
  obtain ⟨s',h3,h4⟩:=tX h2
  exact ⟨s',⟨s,h1,h3⟩,h4⟩
theorem xc {o:Oper} {l2:List Oper}:∀ {l1:List Oper} {st s':St},(∀ x ∈ l1,rL S.rcv ops x o=true)→LG S ops (l1 ++ o :: l2) st s'→∃ s,Ex S ops st o s∧LG S ops (l1 ++ l2) s s'
 | [],st,s',_,h=>h
 | x :: l1,st,s',hi,⟨s,h1,h2⟩=>by
  obtain ⟨s2,h3,h4⟩:=xc (fun y hy=>hi y (List.mem_cons_of_mem _ hy)) h2
  obtain ⟨s3,h5,h6⟩:=sS (hi x (List.mem_cons_self ..)) h1 h3
  exact ⟨s3,h5,s2,h6,h4⟩
def uv (rcv:Nat→Bool) (ops:Array Oper) (m:Nat→Nat):Bool :=
 (List.range ops.size).all fun i=>match ops[i]? with
  | none=>false
  | some o=>(o.after.all fun e => !Region.binds .any e || Nat.blt e.on i) &&
   (List.range i).all fun j=>match ops[j]? with
    | none=>false
    | some x=>(rL rcv ops x o && true) || ((m i).testBit j)
def cP (ops:Array Oper) (m:Nat→Nat):Bool :=
 (List.range ops.size).all fun i=>match ops[i]? with
  | none=>false
  | some o=>(List.range i).all fun j => !((m i).testBit j) || o.after.any fun e=>Region.binds .any e && (Nat.beq e.on j || ((m e.on).testBit j && Nat.blt j e.on))
def jd (listed:Array Bool) (i:Nat):Prop:=listed.getD i true=true
def gD (ops:Array Oper) (listed:Array Bool):Prop:=∀ i o,ops[i]?=some o→jd listed i→∀ e ∈ o.after,Region.binds .any e=true→jd listed e.on
theorem cA {listed:Array Bool} {i:Nat} (hs:listed.size=ops.size):i ∈ Region.ready .any ops listed↔∃ o,ops[i]?=some o∧listed.getD i true=false∧∀ e ∈ o.after,Region.binds .any e=true→listed.getD e.on false=true:=by
 unfold Region.ready
 rw [List.mem_filter,List.mem_range]
 constructor
 ·rintro ⟨h1,h2⟩
  simp only [Bool.and_eq_true,Bool.not_eq_true'] at h2
  rw [Array.getElem?_eq_getElem h1] at h2
  refine ⟨_,Array.getElem?_eq_getElem h1,h2.1,fun e he hb => ?_⟩
  have:=h2.2
  simp only [Option.map_some,Option.getD_some,Array.all_eq_true] at this
  obtain ⟨k,hk,rfl⟩:=Array.mem_iff_getElem.1 he
  have:=this k hk
  simpa [hb] using this
 ·rintro ⟨o,ho,h1,h2⟩
  have hlt:i<ops.size:=by
   rcases Nat.lt_or_ge i ops.size with h|h
   ·exact h
   ·rw [Array.getElem?_eq_none h] at ho;cases ho
  refine ⟨hlt, ?_⟩
  rw [ho]
  simp only [Option.map_some,Option.getD_some,Bool.and_eq_true,Bool.not_eq_true']
  refine ⟨h1,Array.all_eq_true.2 fun k hk => ?_⟩
  have:=h2 _ (Array.getElem_mem hk)
  cases hb:Region.binds .any o.after[k] with
  | true=>simp [this hb]
  | false=>simp
theorem uP {m : Nat → Nat} {listed : Array Bool} (hm : cP ops m = true) (hcl : gD ops listed) (hed : ∀ i o, ops[i]? = some o → ∀ e ∈ o.after, Region.binds .any e = true → e.on < i) (hsz : ∀ k, jd listed k → k < ops.size → True) :
  ∀ (n i:Nat),i<n→jd listed i→i<ops.size→∀ j,j<i→(m i).testBit j=true→jd listed j:=by
 intro n
 induction n with
 | zero=>intro i h;omega
 | succ n ih =>
  intro i hn hi hlt j hj hb
  have ho:=Array.getElem?_eq_getElem hlt
  have:=List.all_eq_true.1 hm i (List.mem_range.2 hlt)
  rw [ho] at this
  have:=List.all_eq_true.1 this j (List.mem_range.2 hj)
  simp only [hb,Bool.not_true,Bool.false_or] at this
  obtain ⟨k,hk,hh⟩:=Array.any_eq_true.1 this
  simp only [Bool.and_eq_true,Bool.or_eq_true,Nat.beq_eq] at hh
  obtain ⟨hbind,hh⟩:=hh
  have hmem:ops[i].after[k] ∈ ops[i].after:=Array.getElem_mem hk
  have hin:=hcl i _ ho hi _ hmem hbind
  have hle:=hed i _ ho _ hmem hbind
  rcases hh with hh|hh
  ·rw [← hh];exact hin
  ·exact ih _ (by omega) hin (by omega) j (by have:=hh.2;simp [Nat.blt] at this;omega) hh.1
theorem Ti {m : Nat → Nat} (hd : uv S.rcv ops m = true) (hm : cP ops m = true) {K : St → Prop} : ∀ (fuel : Nat) (listed : Array Bool) (rest : List Nat) (st s' : St),
  listed.size=ops.size→rest.Pairwise (· < ·)→(∀ i,i ∈ rest↔i<ops.size∧listed.getD i true=false)→gD ops listed→LG S ops (rest.map fun i=>ops.getD i default) st s'→K s'→rest.length≤fuel →
  iL S ops fuel listed st K:=by
 have hed:∀ i o,ops[i]?=some o→∀ e ∈ o.after,Region.binds .any e=true→e.on<i:=fun i o ho e he hb=>by
  have hlt:i<ops.size:=by
   rcases Nat.lt_or_ge i ops.size with h|h
   ·exact h
   ·rw [Array.getElem?_eq_none h] at ho;cases ho
  have:=List.all_eq_true.1 hd i (List.mem_range.2 hlt)
  rw [ho] at this
  simp only [Bool.and_eq_true] at this
  have:=this.1
  obtain ⟨k,hk,rfl⟩:=Array.mem_iff_getElem.1 he
  have:=(Array.all_eq_true.1 this) k hk
  simp only [hb,Bool.not_true,Bool.false_or,Nat.blt] at this
  have:=Nat.le_of_ble_eq_true this
  omega
 have noready:∀ (listed:Array Bool) (rest:List Nat),listed.size=ops.size→rest.Pairwise (· < ·)→(∀ i,i ∈ rest↔i<ops.size∧listed.getD i true=false)→Region.ready .any ops listed=[]→rest=[]:=by
  intro listed rest hs hp hr hno
  cases rest with
  | nil=>rfl
  | cons i r =>
   exfalso
   obtain ⟨hlt,hl⟩:=(hr i).1 (List.mem_cons_self ..)
   have:i ∈ Region.ready .any ops listed:=(cA hs).2 ⟨_,Array.getElem?_eq_getElem hlt,hl,fun e he hb=>by
    have hle:=hed i _ (Array.getElem?_eq_getElem hlt) e he hb
    cases hq:listed.getD e.on false with
    | true=>rfl
    | false =>
     exfalso
     have hq':listed.getD e.on true=false:=by
      have hl2:e.on<listed.size:=by omega
      rw [Array.getD,dif_pos hl2] at hq ⊢
      exact hq
     have hmem:=(hr e.on).2 ⟨by omega,hq'⟩
     rcases List.mem_cons.1 hmem with h|h
     ·omega
     ·have:=(List.pairwise_cons.1 hp).1 _ h;omega⟩
   rw [hno] at this
   cases this
 intro fuel
 induction fuel with
 | zero =>
  intro listed rest st s' hs hp hr hcl hx hk hlen
  have hnil:rest=[]:=List.eq_nil_of_length_eq_zero (by omega)
  subst hnil
  have hst:st=s':=hx
  subst hst
  refine ⟨?_,hk⟩
  rw [List.eq_nil_iff_forall_not_mem]
  intro i hi
  obtain ⟨o,ho,hl,_⟩:=(cA hs).1 hi
  have hlt:i<ops.size:=by
   rcases Nat.lt_or_ge i ops.size with h|h
   ·exact h
   ·rw [Array.getElem?_eq_none h] at ho;cases ho
  exact absurd ((hr i).2 ⟨hlt,hl⟩) (by simp)
 | succ fuel ih =>
  intro listed rest st s' hs hp hr hcl hx hk hlen
  refine ⟨fun hno => ?_,fun i hi => ?_⟩
  ·have:=noready listed rest hs hp hr hno
   subst this
   have hst:st=s':=hx
   rw [hst];exact hk
  ·obtain ⟨o,ho,hl,hdep⟩:=(cA hs).1 hi
   have hlt:i<ops.size:=by
    rcases Nat.lt_or_ge i ops.size with h|h
    ·exact h
    ·rw [Array.getElem?_eq_none h] at ho;cases ho
   have hmem:=(hr i).2 ⟨hlt,hl⟩
   rw [ho]
   obtain ⟨l1,l2,rfl⟩:=List.append_of_mem hmem
   have hpw:=List.pairwise_append.1 hp
   have hoi:ops.getD i default=o:=by rw [Array.getD_eq_getD_getElem?,ho];rfl
   rw [List.map_append,List.map_cons,hoi] at hx
   have hdep':∀ e ∈ o.after,Region.binds .any e=true→jd listed e.on:=fun e he hb=>by
    have:=hdep e he hb
    have h2:=hed i o ho e he hb
    have hl2:e.on<listed.size:=by omega
    unfold jd
    rw [Array.getD,dif_pos hl2] at this ⊢
    exact this
   have hind:∀ x ∈ l1.map (fun i=>ops.getD i default),rL S.rcv ops x o=true:=fun x hxm=>by
    obtain ⟨j,hj,rfl⟩:=List.mem_map.1 hxm
    have hji:j<i:=hpw.2.2 j hj i (List.mem_cons_self ..)
    obtain ⟨hjlt,hjl⟩:=(hr j).1 (List.mem_append_left _ hj)
    have h1:=List.all_eq_true.1 hd i (List.mem_range.2 hlt)
    rw [ho] at h1
    simp only [Bool.and_eq_true] at h1
    have h2:=List.all_eq_true.1 h1.2 j (List.mem_range.2 hji)
    rw [Array.getElem?_eq_getElem hjlt] at h2
    simp only [Bool.or_eq_true,Bool.and_true] at h2
    rcases h2 with h2|h2
    ·rw [Array.getD_eq_getD_getElem?,Array.getElem?_eq_getElem hjlt];exact h2
    ·exfalso
     have h3:=List.all_eq_true.1 hm i (List.mem_range.2 hlt)
     rw [ho] at h3
     have h4:=List.all_eq_true.1 h3 j (List.mem_range.2 hji)
     simp only [h2,Bool.not_true,Bool.false_or] at h4
     obtain ⟨k,hk',hh⟩:=Array.any_eq_true.1 h4
     simp only [Bool.and_eq_true,Bool.or_eq_true,Nat.beq_eq] at hh
     have hin:=hdep' _ (Array.getElem_mem hk') hh.1
     have hle:=hed i o ho _ (Array.getElem_mem hk') hh.1
     have:jd listed j:=by
      rcases hh.2 with q|q
      ·rw [← q];exact hin
      ·exact uP hm hcl hed (fun _ _ _=>trivial) (i+1) _ (by omega) hin (by omega) j (by have:=q.2;simp [Nat.blt] at this;omega) q.1
     unfold jd at this
     rw [this] at hjl
     cases hjl
   obtain ⟨s1,h1,h2⟩:=xc hind hx
   refine kN h1 ?_
   have hget:∀ k b,(listed.setIfInBounds i true).getD k b=if k=i then true else listed.getD k b:=fun k b=>by
    simp only [Array.getD_eq_getD_getElem?,Array.getElem?_setIfInBounds]
    by_cases hk:k=i
    ·subst hk;simp [hs,hlt]
    ·rw [if_neg (fun h=>hk h.symm),if_neg hk]
   refine ih _ (l1 ++ l2) s1 s' (by simpa using hs) ?_ (fun k => ?_) (fun k x hx' hin e he hb => ?_) (by rw [List.map_append];exact h2) hk (by simp at hlen ⊢;omega)
   ·refine List.pairwise_append.2 ⟨hpw.1,(List.pairwise_cons.1 hpw.2.1).2,fun a ha b hb=>hpw.2.2 a ha b (List.mem_cons_of_mem _ hb)⟩
   ·have hk:=hr k
    rw [hget]
    by_cases hki:k=i
    ·subst hki
     simp only [if_true]
     constructor
     ·intro hmm
      exfalso
      rcases List.mem_append.1 hmm with q|q
      ·have:=hpw.2.2 k q k (List.mem_cons_self ..);omega
      ·have:=(List.pairwise_cons.1 hpw.2.1).1 k q;omega
     ·rintro ⟨_,q⟩;cases q
    ·rw [if_neg hki,← hk]
     simp [hki]
   ·unfold jd at hin ⊢
    rw [hget] at hin ⊢
    by_cases hek:e.on=i
    ·rw [if_pos hek]
    ·rw [if_neg hek]
     by_cases hki:k=i
     ·subst hki
      rw [ho] at hx'
      cases hx'
      exact hdep' e he hb
     ·rw [if_neg hki] at hin
      exact hcl k x hx' hin e he hb
theorem MR {l:List Oper} {m:Nat→Nat} (hd:uv S.rcv l.toArray m=true) (hm:cP l.toArray m=true) {K:St→Prop} (h:aZ S l.toArray l st K):iL S l.toArray l.toArray.size (Array.replicate l.toArray.size false) st K:=by
 obtain ⟨s',h1,h2⟩:=tX h
 refine Ti hd hm _ _ (List.range l.length) st s' (by simp) List.pairwise_lt_range (fun i => ?_) (fun i o ho hi => ?_) ?_ h2 (by simp)
 ·rw [List.mem_range]
  simp only [List.size_toArray,Array.getD_eq_getD_getElem?,Array.getElem?_replicate]
  constructor
  ·intro h;exact ⟨h,by simp [h]⟩
  ·exact fun h=>h.1
 ·exfalso
  have hlt:i<l.toArray.size:=by
   rcases Nat.lt_or_ge i l.toArray.size with h|h
   ·exact h
   ·rw [Array.getElem?_eq_none h] at ho;cases ho
  unfold jd at hi
  simp only [Array.getD_eq_getD_getElem?,Array.getElem?_replicate,if_pos hlt] at hi
  cases hi
 ·have:(List.range l.length).map (fun i=>l.toArray.getD i default)=l:=by
   apply List.ext_getElem
   ·simp
   ·intro i h1 h2;simp [h2]
  rw [this];exact h1
theorem DZ {id:Nat} {l:List Oper} {Q:AExit→St→Prop} (hd:uv S.rcv l.toArray (fun i=>(Region.before l.toArray).getD i 0)=true) (hm:cP l.toArray (fun i=>(Region.before l.toArray).getD i 0)=true) (h:aZ S l.toArray l st (Q .normal)):cw S (.region id l.toArray true) Q st:=by
 simp only [cw,if_pos]
 exact MR hd hm h
end
end Go.SL
namespace Go.SL
open Go
structure Sl {α:Type} (x:α):Type where
def Sl.of {α:Type} (x:α):Sl x:=⟨⟩
def rk (x:Option (Prop × SV)) (c:Prop) {K:SV→Prop} (_:Sl K):Prop :=
 match x with
 | some (vc,r)=>c∧vc∧K r
 | none=>False
theorem LO {vc c:Prop} {r:SV} {K:SV→Prop}:rk (some (vc,r)) c (Sl.of K)=(c∧vc∧K r):=rfl
def rg (g:Option Bool) (nx:Nat) (x:Option (Prop × SV)) {K:SV→Prop} (_:Sl K) {p:Prop} (_:Sl p):Prop :=
 match g,x with
 | some g,some (vc, .b r)=>r.lt nx∧(g=true→vc)∧K (.grd g r)
 | some g,some (vc, .grd q r)=>r.lt nx∧(g=true→vc∧q=true)∧K (.grd g r)
 | _,_=>p
theorem Tn {vc:Prop} {r:BV} {K:SV→Prop} {g u:Bool} {nx:Nat} {p:Prop} {q:Sl p}:rg (some g) nx (some (vc, .grd u r)) (Sl.of K) q=(r.lt nx∧(g=true→vc∧u=true)∧K (.grd g r)):=rfl
theorem Na {vc:Prop} {r:BV} {K:SV→Prop} {g:Bool} {nx:Nat} {p:Prop} {q:Sl p}:rg (some g) nx (some (vc, .b r)) (Sl.of K) q=(r.lt nx∧(g=true→vc)∧K (.grd g r)):=rfl
def rc (x:Option (Prop × SV)) (c:Prop):Option (Prop × SV) :=
 match x with
 | some (vc,r)=>some (c∧vc,r)
 | none=>none
theorem Oj {vc c:Prop} {r:SV}:rc (some (vc,r)) c=some (c∧vc,r):=rfl
def eB (S:Env) (st:St) (f:FuncId) (args:List BV) {K:SV→St→Prop} (_:Sl K):Prop:=CallP S st f args K
def To (g:Option Bool) (c:Prop) (S:Env) (st:St) (f:FuncId) (args:List BV) (d:Option Nat) {K:St→Prop} (_:Sl K):Prop :=
 match g with
 | some g => ((g = true → c ∧ CallP S st f args fun r st' => K (st'.set d r)) ∧ (g = false → K (st.set d .any))) ∨
   ∃ x:BV,x.lt st.nx∧(g=true→c∧CallP S st f args fun r st'=>st'.set d r=st.set d (.b x))∧K (st.set d (.grd g x))
 | none=>False
section
variable {S:Env} {ops:Array Oper} {rest:List Oper} {st:St} {K:St→Prop} {d:Option Nat} {ty:TypeId} {pos:String} {af:Array Edge} {gd:Nat × Bool}
theorem UR:aZ S ops [] st K=K st:=rfl
theorem So {x:Operand}:aZ S ops (⟨d, .move x,ty,pos,af,none⟩ :: rest) st K=aZ S ops rest (st.set d (st.ev S x)) K:=by
 simp [aZ,eP,jo,ro]
theorem KA {x:Operand}:aZ S ops (⟨d, .assign x,ty,pos,af,none⟩ :: rest) st K=aZ S ops rest (st.set d (st.ev S x)) K:=by
 simp [aZ,eP,jo,ro]
theorem Si {c x y:Operand}:aZ S ops (⟨d, .pick c x y,ty,pos,af,none⟩ :: rest) st K=rk (rb (st.ev S c) (st.ev S x) (st.ev S y)) True (Sl.of fun r=>aZ S ops rest (st.set d r) K):=by
 simp only [aZ,eP,jo,ro,rk]
 split
 ·rename_i h;simp only [h];simp
 ·rename_i h;simp only [h];simp [dk]
theorem cV {o : Oper} {K' : St → Prop} (hr : ∀ x, o.op ≠ .move x) (ha : ∀ x, o.op ≠ .assign x) (hp : ∀ c x y, o.op ≠ .pick c x y) (hM : ∀ K, dk S st (st.ev S) o.op K = False) :
  jo S st o K'=rk (bj S st.bx (st.ev S) o.op) (aV (o.op.operands.toList.map (st.ev S))) (Sl.of fun r=>K' (st.set o.dst r)):=by
 unfold jo ro
 split
 ·rename_i h
  split at h
  ·rename_i x hx;exact absurd hx (hr x)
  ·rename_i x hx;exact absurd hx (ha x)
  ·rename_i c x y hx;exact absurd hx (hp c x y)
  ·split at h
   ·rename_i h2
    simp only [Option.some.injEq,Prod.mk.injEq] at h
    obtain ⟨rfl,rfl⟩:=h
    rw [h2]
    simp only [rk,and_assoc]
   ·simp at h
 ·rename_i h
  split at h
  ·simp at h
  ·simp at h
  ·rename_i c x y hx;exact absurd hx (hp c x y)
  ·split at h
   ·simp at h
   ·rename_i h2
    rw [h2,hM]
    simp only [rk,and_false]
def iG (S:Env) (t:TypeId) (f:Nat) (x:SV):Option (Prop × SV) :=
 match S.fld t f with
 | some (off,sz,_)=>(mM off x).map fun y=>(sz≠0,y)
 | none=>none
def lz (i:Nat):SV→Option (Prop × SV)
 | .tup vs=>some (i<vs.length, .b (vs.getD i .any))
 | _=>none
def BW:SV→Option (Prop × SV)
 | .b (.c (.ptr id off))=>some (True, .b (.c (.ptr id off)))
 | .b (.c (.pel id sz i off))=>some (True, .b (.c (.pel id sz i off)))
 | .b (.c (.ipt sz g off))=>some (True, .b (.c (.ipt sz g off)))
 | _=>none
def Hl:SV→SV→Option (Prop × SV)
 | .b (.c (.p (.val (.int k a)))), .b (.c (.p (.val (.int k' b))))=>some (k=k', .v (.int k (if b<a then b else a)))
 | _,_=>none
def Jn:SV→SV→Option (Prop × SV)
 | .b (.c (.p (.val (.int k a)))), .b (.c (.p (.val (.int k' b))))=>some (k=k', .v (.int k (if b>a then b else a)))
 | _,_=>none
theorem PY {t:TypeId} {x:Operand}:aZ S ops (⟨d, .load t x,ty,pos,af,none⟩ :: rest) st K=rk (dj S t st.bx (st.ev S x).strip) (st.ev S x).cond (Sl.of fun r=>aZ S ops rest (st.set d r) K):=by
 simp only [aZ,eP]
 rw [cV (by simp) (by simp) (by simp) (fun _=>rfl)]
 simp [bj,Op.operands,aV]
theorem zU {t : TypeId} {x : Operand} {f : Nat} : aZ S ops (⟨d, .fieldAddr t x f, ty, pos, af, none⟩ :: rest) st K =
  rk (iG S t f (st.ev S x).strip) (st.ev S x).cond (Sl.of fun r=>aZ S ops rest (st.set d r) K):=by
 simp only [aZ,eP]
 rw [cV (by simp) (by simp) (by simp) (fun _=>rfl),show bj S st.bx (st.ev S) (.fieldAddr t x f)=iG S t f (st.ev S x).strip from rfl]
 simp [Op.operands,aV]
theorem LB {t:TypeId} {x:Operand} {f:Nat}:aZ S ops (⟨d, .field t x f,ty,pos,af,none⟩ :: rest) st K=rk (np S t f (st.ev S x).strip) (st.ev S x).cond (Sl.of fun r=>aZ S ops rest (st.set d r) K):=by
 simp only [aZ,eP]
 rw [cV (by simp) (by simp) (by simp) (fun _=>rfl)]
 simp [bj,Op.operands,aV]
theorem Ay {t : TypeId} {x i : Operand} : aZ S ops (⟨d, .indexAddr t x i, ty, pos, af, none⟩ :: rest) st K =
  rk (gw S t (st.ev S x).strip (st.ev S i).strip) ((st.ev S x).cond∧(st.ev S i).cond) (Sl.of fun r=>aZ S ops rest (st.set d r) K):=by
 simp only [aZ,eP]
 rw [cV (by simp) (by simp) (by simp) (fun _=>rfl)]
 simp [bj,Op.operands,aV]
theorem NX {t : TypeId} {x i : Operand} : aZ S ops (⟨d, .index t x i, ty, pos, af, none⟩ :: rest) st K =
  rk (nk S t (st.ev S x).strip (st.ev S i).strip) ((st.ev S x).cond∧(st.ev S i).cond) (Sl.of fun r=>aZ S ops rest (st.set d r) K):=by
 simp only [aZ,eP]
 rw [cV (by simp) (by simp) (by simp) (fun _=>rfl)]
 simp [bj,Op.operands,aV]
theorem FT {x : Operand} {i : Nat} : aZ S ops (⟨d, .extract x i, ty, pos, af, none⟩ :: rest) st K =
  rk (lz i (st.ev S x).strip) (st.ev S x).cond (Sl.of fun r=>aZ S ops rest (st.set d r) K):=by
 simp only [aZ,eP]
 rw [cV (by simp) (by simp) (by simp) (fun _=>rfl),show bj S st.bx (st.ev S) (.extract x i)=lz i (st.ev S x).strip from rfl]
 simp [Op.operands,aV]
theorem Tw {op : BinOp} {t yt : TypeId} {x y : Operand} : aZ S ops (⟨d, .binOp op t x y yt, ty, pos, af, none⟩ :: rest) st K =
  rk (wV S op t (st.ev S x).strip (st.ev S y).strip) ((st.ev S x).cond∧(st.ev S y).cond) (Sl.of fun r=>aZ S ops rest (st.set d r) K):=by
 simp only [aZ,eP]
 rw [cV (by simp) (by simp) (by simp) (fun _=>rfl)]
 simp [bj,Op.operands,aV]
theorem WJ {op : UnOp} {t : TypeId} {x : Operand} : aZ S ops (⟨d, .unOp op t x, ty, pos, af, none⟩ :: rest) st K =
  rk (Gk op (st.ev S x).strip) (st.ev S x).cond (Sl.of fun r=>aZ S ops rest (st.set d r) K):=by
 simp only [aZ,eP]
 rw [cV (by simp) (by simp) (by simp) (fun _=>rfl)]
 simp [bj,Op.operands,aV]
theorem RB {s t : TypeId} {x : Operand} : aZ S ops (⟨d, .convert s t x, ty, pos, af, none⟩ :: rest) st K =
  rk (qO S s t (st.ev S x).strip) (st.ev S x).cond (Sl.of fun r=>aZ S ops rest (st.set d r) K):=by
 simp only [aZ,eP]
 rw [cV (by simp) (by simp) (by simp) (fun _=>rfl)]
 simp [bj,Op.operands,aV]
def AC (S:Env) (st:St):Option Operand→Prop
 | none=>True
 | some x=>(st.ev S x).cond
theorem Lw {t : TypeId} {x : Operand} {lo hi : Option Operand} : aZ S ops (⟨d, .slice t x lo hi none, ty, pos, af, none⟩ :: rest) st K =
  rk (pJ S t (st.ev S x).strip (lo.map fun x=>(st.ev S x).strip) (hi.map fun x=>(st.ev S x).strip)) ((st.ev S x).cond∧AC S st lo∧AC S st hi) (Sl.of fun r=>aZ S ops rest (st.set d r) K):=by
 simp only [aZ,eP]
 rw [cV (by simp) (by simp) (by simp) (fun _=>rfl)]
 cases lo <;> cases hi <;> simp [bj,Op.operands,aV,AC]
theorem Da {x : Operand} : aZ S ops (⟨d, .nilCheck x, ty, pos, af, none⟩ :: rest) st K =
  rk (BW (st.ev S x).strip) (st.ev S x).cond (Sl.of fun r=>aZ S ops rest (st.set d r) K):=by
 simp only [aZ,eP]
 rw [cV (by simp) (by simp) (by simp) (fun _=>rfl),show bj S st.bx (st.ev S) (.nilCheck x)=BW (st.ev S x).strip from rfl]
 simp [Op.operands,aV]
theorem Ue {x : Operand} {t : TypeId} : aZ S ops (⟨d, .call ⟨.builtin .len, #[x], #[t]⟩, ty, pos, af, none⟩ :: rest) st K =
  rk (xa S t (st.ev S x).strip) (st.ev S x).cond (Sl.of fun r=>aZ S ops rest (st.set d r) K):=by
 simp only [aZ,eP]
 rw [cV (by simp) (by simp) (by simp) (fun _=>by simp [dk])]
 simp [bj,Op.operands,Call.operands,aV]
theorem Ve {x y : Operand} {ts : Array TypeId} : aZ S ops (⟨d, .call ⟨.builtin .min, #[x, y], ts⟩, ty, pos, af, none⟩ :: rest) st K =
  rk (Hl (st.ev S x).strip (st.ev S y).strip) ((st.ev S x).cond∧(st.ev S y).cond) (Sl.of fun r=>aZ S ops rest (st.set d r) K):=by
 simp only [aZ,eP]
 rw [cV (by simp) (by simp) (by simp) (fun _=>by simp [dk]),show bj S st.bx (st.ev S) (.call ⟨.builtin .min, #[x,y],ts⟩)=Hl (st.ev S x).strip (st.ev S y).strip from rfl]
 simp [Op.operands,Call.operands,aV]
theorem Un {x y : Operand} {ts : Array TypeId} : aZ S ops (⟨d, .call ⟨.builtin .max, #[x, y], ts⟩, ty, pos, af, none⟩ :: rest) st K =
  rk (Jn (st.ev S x).strip (st.ev S y).strip) ((st.ev S x).cond∧(st.ev S y).cond) (Sl.of fun r=>aZ S ops rest (st.set d r) K):=by
 simp only [aZ,eP]
 rw [cV (by simp) (by simp) (by simp) (fun _=>by simp [dk]),show bj S st.bx (st.ev S) (.call ⟨.builtin .max, #[x,y],ts⟩)=Jn (st.ev S x).strip (st.ev S y).strip from rfl]
 simp [Op.operands,Call.operands,aV]
def mk (x:Option (Prop × SV × St)) {K:SV→St→Prop} (_:Sl K):Prop :=
 match x with
 | some (vc,r,s)=>vc∧K r s
 | none=>False
theorem Ml {vc:Prop} {r:SV} {s:St} {K:SV→St→Prop}:mk (some (vc,r,s)) (Sl.of K)=(vc∧K r s):=rfl
def yv (S:Env) (st:St) (t:TypeId):Option (Prop × SV × St) :=
 match S.zero t with
 | some z=>some (True, .b (.c (.ptr st.nx 0)),st.newBox (.fix (z.map CV.ofV)))
 | none=>none
def LI (st:St) (x:SV):Option (Prop × SV × St) :=
 match x with
 | .b v=>some (v.one, .b (.c (.ptr st.nx 0)),st.newBox (.fix v.cells))
 | _=>none
def oN (S:Env) (st:St) (t:TypeId) (ps:List (Nat × Operand)):Option (Prop × SV × St) :=
 match S.bld t,S.zero t with
 | some pl,some z=>match gu (nu pl) (st.ev S) ps (z.map CV.ofV) with
  | some (vc,cs)=>some (vc, .b (.agg cs),st)
  | none=>none
 | _,_=>none
def kn (S:Env) (st:St) (t:TypeId) (len:Nat) (ps:List (Nat × Operand)):Option (Prop × SV × St) :=
 match S.el t with
 | some (none,e,s,_)=>match S.zero e with
  | some z=>match gu (fun i=>some (i * s,s)) (st.ev S) ps ((List.range (len * s)).map fun i=>CV.ofV (z.getD (i % z.length) undef)) with
   | some (vc,cs)=>some (vc∧0<s∧z.length=s∧len * s≤16777216∧0≤len, .b (.c (.own st.nx len)),st.newBox (.arr e s len fun i j=>(cs.getD (i * s+j) .any).toP))
   | none=>none
  | none=>none
 | _=>none
def yq (S:Env) (st:St) (t:TypeId) (p x:SV):Option (Prop × SV × St) :=
 match p,x,S.ti t with
 | .b (.c (.ptr id off)), .b v,some (sz,_)=>match st.bx id with
  | some (.fix cs)=>some (v.cells.length=sz∧off+sz≤cs.length∧v.one, .any,st.setBox id (.fix (jw cs off v.cells)))
  | _=>none
 | .b (.c (.pel id s i off)), .b v,some (sz,_)=>match st.bx id with
  | some (.arr e s' n f) => some (s = s' ∧ i < n ∧ off + sz ≤ s ∧ v.cells.length = sz ∧ v.one ∧ v.lt 0, .any,
    st.setBox id (.arr e s' n fun i' j=>if i'=i then (if off≤j∧j<off+sz then (v.cells.getD (j - off) .any).toP else f i j) else f i' j))
  | _=>none
 | _,_,_=>none
def Env.byt (S:Env) (e:TypeId):Option Nat:=(S.P.info? e).map (·.bytes)
def Ep (S:Env) (st:St) (t:TypeId) (fz:Bool) (l c:SV):Option (Prop × SV × St) :=
 match l,c,S.el t with
 | .b (.c (.p (.val (.int _ l)))), .b (.c (.p (.val (.int _ c)))),some (none,e,s,_)=>match S.zero e,S.byt e with
  | some z, some by' => some (0 ≤ l ∧ l ≤ c ∧ (by' : Int) * c ≤ 281474976710656 ∧ c ≤ 9223372036854775807 ∧ 0 < s ∧ z.length = s,
    TM fz st.nx s l.toNat z,st.newBoxO (Vc fz e s l.toNat z))
  | _,_=>none
 | _,_,_=>none
def sV (S:Env) (st:St) (t t':TypeId) (x y:SV):Option (Prop × SV × St) :=
 match S.el t,su st.bx y with
 | some (none,e,s,_),some (vc,sz,m,g)=>match S.byt e,S.zero e,x with
  | some by',some z, .b (.c (.p (.val (.slice none 0 0)))) =>
   some (vc∧t=t'∧(sz=s∨m=0)∧0<s∧z.length=s∧m * by'≤140737488355328∧m≤maxLen, .b (.c (.own st.nx m)),st.newBox (.arr e s m g))
  | some by',some z, .b (.c (.own id n))=>match st.bx id with
   | some (.arr e' s' n' f) =>
    some (vc∧t=t'∧e=e'∧s=s'∧n≤n'∧(sz=s∨m=0)∧0<s∧z.length=s∧(n+m) * by'≤140737488355328∧n+m≤maxLen,
     .b (.c (.own st.nx (n+m))),(st.delBox id).newBox (.arr e s (n+m) (gh n f g)))
   | _=>none
  | _,_,_=>none
 | _,_=>none
def EF (S:Env) (st:St) (t:TypeId) (x y:SV):Option (Prop × SV × St) :=
 match S.el t,x,y with
 | some (none,_,s,_), .b (.c (.sub id s1 lo n)), .b (.c (.p (.lst sz m g)))=>match st.bx id with
  | some (.arr e' s2 n' f)=>some (s1=s∧s2=s∧sz=s∧n≤m∧lo+n≤n'∧0<n, .b (.c (.p (.val (.int .i64 n)))),st.setBox id (.arr e' s2 n' fun i j=>if lo≤i∧i<lo+n then g (i - lo) j else f i j))
  | _=>none
 | _,_,_=>none
theorem Li {t t':TypeId} {x y:Operand} {K:SV→St→Prop}:dk S st (st.ev S) (.call ⟨.builtin .copy, #[x,y], #[t,t']⟩) K=mk (EF S st t (st.ev S x).strip (st.ev S y).strip) (Sl.of K):=by
 simp only [dk,EF]
 split
 ·split <;> simp_all [mk]
 ·simp_all [mk]
theorem Ka {t:TypeId} {K:SV→St→Prop}:dk S st (st.ev S) (.alloc t) K=mk (yv S st t) (Sl.of K):=by
 simp only [dk,yv];split <;> simp_all [mk]
theorem Qk {t:TypeId} {x:Operand} {K:SV→St→Prop}:dk S st (st.ev S) (.box t x) K=mk (LI st (st.ev S x).strip) (Sl.of K):=by
 simp only [dk,LI];split <;> simp_all [mk]
theorem zI {t:TypeId} {ps:Array (Nat × Operand)} {K:SV→St→Prop}:dk S st (st.ev S) (.build t ps) K=mk (oN S st t ps.toList) (Sl.of K):=by
 simp only [dk,oN]
 split
 ·split <;> simp_all [mk]
 ·simp_all [mk]
theorem wc {t:TypeId} {n:Nat} {ps:Array (Nat × Operand)} {K:SV→St→Prop}:dk S st (st.ev S) (.buildSlice t n ps) K=mk (kn S st t n ps.toList) (Sl.of K):=by
 simp only [dk,kn]
 split
 ·split
  ·split <;> simp_all [mk]
  ·simp_all [mk]
 ·simp_all [mk]
theorem HV {t:TypeId} {p x:Operand} {K:SV→St→Prop}:dk S st (st.ev S) (.store t p x) K=mk (yq S st t (st.ev S p).strip (st.ev S x).strip) (Sl.of K):=by
 simp only [dk,yq]
 split
 ·split <;> simp_all [mk]
 ·split <;> simp_all [mk]
 ·simp_all [mk]
theorem Pd {t:TypeId} {l c:Operand} {K:SV→St→Prop}:dk S st (st.ev S) (.makeSlice t l c) K=mk (Ep S st t (S.frz t l) (st.ev S l).strip (st.ev S c).strip) (Sl.of K):=by
 simp only [dk,Ep,Env.byt]
 split
 ·rename_i e s _ _ _ _
  cases hz:S.zero e with
  | none=>simp_all [mk]
  | some z =>
   cases hi:S.P.info? e with
   | none=>simp_all [mk]
   | some i=>simp_all [mk]
 ·simp_all [mk]
theorem GX {t t':TypeId} {x y:Operand} {K:SV→St→Prop}:dk S st (st.ev S) (.call ⟨.builtin .append, #[x,y], #[t,t']⟩) K=mk (sV S st t t' (st.ev S x).strip (st.ev S y).strip) (Sl.of K):=by
 simp only [dk,sV,Env.byt]
 split
 ·rename_i e s ag vc sz m g _ _
  cases hi:S.P.info? e with
  | none=>simp_all [mk]
  | some i =>
   cases hz:S.zero e with
   | none=>simp_all [mk]
   | some z =>
    simp only [*,Option.map_some]
    split
    ·simp_all [mk]
    ·split <;> simp_all [mk]
    ·simp_all [mk]
 ·simp_all [mk]
theorem sC {o:Oper} {K':St→Prop} (hro:ro S st.bx (st.ev S) o.op=none):jo S st o K'=(aV (o.op.operands.toList.map (st.ev S))∧dk S st (st.ev S) o.op fun r st'=>K' (st'.set o.dst r)):=by
 unfold jo;rw [hro]
theorem OY {t : TypeId} : aZ S ops (⟨d, .alloc t, ty, pos, af, none⟩ :: rest) st K =
  mk (yv S st t) (Sl.of fun r st'=>aZ S ops rest (st'.set d r) K):=by
 simp only [aZ,eP];rw [sC rfl,Ka];simp [Op.operands,aV]
theorem TN {t : TypeId} {x : Operand} : aZ S ops (⟨d, .box t x, ty, pos, af, none⟩ :: rest) st K =
  ((st.ev S x).cond∧mk (LI st (st.ev S x).strip) (Sl.of fun r st'=>aZ S ops rest (st'.set d r) K)):=by
 simp only [aZ,eP];rw [sC rfl,Qk];simp [Op.operands,aV]
theorem ON {t : TypeId} {ps : Array (Nat × Operand)} : aZ S ops (⟨d, .build t ps, ty, pos, af, none⟩ :: rest) st K =
  (aV (ps.toList.map fun p=>st.ev S p.2)∧mk (oN S st t ps.toList) (Sl.of fun r st'=>aZ S ops rest (st'.set d r) K)):=by
 simp only [aZ,eP];rw [sC rfl,zI];simp [Op.operands];exact fun _=>Iff.rfl
theorem yw {t : TypeId} {n : Nat} {ps : Array (Nat × Operand)} : aZ S ops (⟨d, .buildSlice t n ps, ty, pos, af, none⟩ :: rest) st K =
  (aV (ps.toList.map fun p=>st.ev S p.2)∧mk (kn S st t n ps.toList) (Sl.of fun r st'=>aZ S ops rest (st'.set d r) K)):=by
 simp only [aZ,eP];rw [sC rfl,wc];simp [Op.operands];exact fun _=>Iff.rfl
theorem Ou {t : TypeId} {x y : Operand} : aZ S ops (⟨d, .store t x y, ty, pos, af, none⟩ :: rest) st K =
  (((st.ev S x).cond∧(st.ev S y).cond)∧mk (yq S st t (st.ev S x).strip (st.ev S y).strip) (Sl.of fun r st'=>aZ S ops rest (st'.set d r) K)):=by
 simp only [aZ,eP];rw [sC rfl,HV];simp [Op.operands,aV]
theorem PS {t : TypeId} {x y : Operand} : aZ S ops (⟨d, .makeSlice t x y, ty, pos, af, none⟩ :: rest) st K =
  (((st.ev S x).cond∧(st.ev S y).cond)∧mk (Ep S st t (S.frz t x) (st.ev S x).strip (st.ev S y).strip) (Sl.of fun r st'=>aZ S ops rest (st'.set d r) K)):=by
 simp only [aZ,eP];rw [sC rfl,Pd];simp [Op.operands,aV]
theorem JB {x y : Operand} {t t' : TypeId} : aZ S ops (⟨d, .call ⟨.builtin .append, #[x, y], #[t, t']⟩, ty, pos, af, none⟩ :: rest) st K =
  (((st.ev S x).cond∧(st.ev S y).cond)∧mk (sV S st t t' (st.ev S x).strip (st.ev S y).strip) (Sl.of fun r st'=>aZ S ops rest (st'.set d r) K)):=by
 simp only [aZ,eP];rw [sC rfl,GX];simp [Op.operands,Call.operands,aV]
theorem QG {x y : Operand} {t t' : TypeId} : aZ S ops (⟨d, .call ⟨.builtin .copy, #[x, y], #[t, t']⟩, ty, pos, af, none⟩ :: rest) st K =
  (((st.ev S x).cond∧(st.ev S y).cond)∧mk (EF S st t (st.ev S x).strip (st.ev S y).strip) (Sl.of fun r st'=>aZ S ops rest (st'.set d r) K)):=by
 simp only [aZ,eP];rw [sC rfl,Li];simp [Op.operands,Call.operands,aV]
theorem Tc {f : FuncId} {args : Array Operand} {ts : Array TypeId} : aZ S ops (⟨d, .call ⟨.value (.func f), args, ts⟩, ty, pos, af, none⟩ :: rest) st K =
  (aV (args.toList.map (st.ev S))∧eB S st f (args.toList.map fun x=>dO (st.ev S x)) (Sl.of fun r st'=>aZ S ops rest (st'.set d r) K)):=by
 simp only [aZ,eP]
 rw [sC (by simp [ro,bj])]
 simp [Op.operands,Call.operands,aV,dk,St.ev,SV.cond,eB]
end
section
variable {S:Env} {ops:Array Oper} {rest:List Oper} {st:St} {K:St→Prop} {d:Option Nat} {ty:TypeId} {pos:String} {af:Array Edge} {j:Nat} {want:Bool} {bx:Nat→Option Bx} {ev:Operand→SV}
theorem gM {op:Op} (hr:∀ x,op ≠ .move x) (ha:∀ x,op ≠ .assign x) (hp:∀ c x y,op ≠ .pick c x y):ro S bx ev op=rc (bj S bx ev op) (aV (op.operands.toList.map ev)):=by
 unfold ro rc
 split
 ·rename_i x;exact absurd rfl (hr x)
 ·rename_i x;exact absurd rfl (ha x)
 ·rename_i c x y;exact absurd rfl (hp c x y)
 ·rfl
theorem OL {x:Operand}:ro S bx ev (.move x)=some (True,ev x):=rfl
theorem GU {x:Operand}:ro S bx ev (.assign x)=some (True,ev x):=rfl
theorem LJ {c x y:Operand}:ro S bx ev (.pick c x y)=rb (ev c) (ev x) (ev y):=rfl
theorem nr {t:TypeId} {x:Operand}:ro S bx ev (.load t x)=rc (dj S t bx (ev x).strip) (ev x).cond:=by
 rw [gM (by simp) (by simp) (by simp)];simp [bj,Op.operands,aV]
theorem zf {t:TypeId} {x:Operand} {f:Nat}:ro S bx ev (.fieldAddr t x f)=rc (iG S t f (ev x).strip) (ev x).cond:=by
 rw [gM (by simp) (by simp) (by simp)];simp [bj,iG,Op.operands,aV];rfl
theorem HF {t:TypeId} {x:Operand} {f:Nat}:ro S bx ev (.field t x f)=rc (np S t f (ev x).strip) (ev x).cond:=by
 rw [gM (by simp) (by simp) (by simp)];simp [bj,Op.operands,aV]
theorem xV {t:TypeId} {x i:Operand}:ro S bx ev (.indexAddr t x i)=rc (gw S t (ev x).strip (ev i).strip) ((ev x).cond∧(ev i).cond):=by
 rw [gM (by simp) (by simp) (by simp)];simp [bj,Op.operands,aV]
theorem HM {t:TypeId} {x i:Operand}:ro S bx ev (.index t x i)=rc (nk S t (ev x).strip (ev i).strip) ((ev x).cond∧(ev i).cond):=by
 rw [gM (by simp) (by simp) (by simp)];simp [bj,Op.operands,aV]
theorem DA {x:Operand} {i:Nat}:ro S bx ev (.extract x i)=rc (lz i (ev x).strip) (ev x).cond:=by
 rw [gM (by simp) (by simp) (by simp)];simp [bj,lz,Op.operands,aV];rfl
theorem QE {op:BinOp} {t yt:TypeId} {x y:Operand}:ro S bx ev (.binOp op t x y yt)=rc (wV S op t (ev x).strip (ev y).strip) ((ev x).cond∧(ev y).cond):=by
 rw [gM (by simp) (by simp) (by simp)];simp [bj,Op.operands,aV]
theorem VD {op:UnOp} {t:TypeId} {x:Operand}:ro S bx ev (.unOp op t x)=rc (Gk op (ev x).strip) (ev x).cond:=by
 rw [gM (by simp) (by simp) (by simp)];simp [bj,Op.operands,aV]
theorem Ns {s t:TypeId} {x:Operand}:ro S bx ev (.convert s t x)=rc (qO S s t (ev x).strip) (ev x).cond:=by
 rw [gM (by simp) (by simp) (by simp)];simp [bj,Op.operands,aV]
theorem zB {x:Operand}:ro S bx ev (.nilCheck x)=rc (BW (ev x).strip) (ev x).cond:=by
 rw [gM (by simp) (by simp) (by simp)];simp [bj,BW,Op.operands,aV];rfl
theorem QY {x:Operand} {t:TypeId}:ro S bx ev (.call ⟨.builtin .len, #[x], #[t]⟩)=rc (xa S t (ev x).strip) (ev x).cond:=by
 rw [gM (by simp) (by simp) (by simp)];simp [bj,Op.operands,Call.operands,aV]
theorem Xq {op : Op} : aZ S ops (⟨d, op, ty, pos, af, some (j, want)⟩ :: rest) st K =
  rg (iP st ((ops[j]?).bind (·.dst)) want) st.nx (ro S st.bx (st.ev S) op) (Sl.of fun r=>aZ S ops rest (st.set d r) K) (Sl.of (aZ S ops (⟨d,op,ty,pos,af,some (j,want)⟩ :: rest) st K)):=by
 unfold rg
 split
 ·rename_i g vc r h1 h2
  simp only [aZ,eP]
  rw [h1]
  simp only [h2]
 ·rename_i g vc u r h1 h2
  simp only [aZ,eP]
  rw [h1]
  simp only [h2]
 ·rfl
theorem Sp {f : FuncId} {args : Array Operand} {ts : Array TypeId} : aZ S ops (⟨d, .call ⟨.value (.func f), args, ts⟩, ty, pos, af, some (j, want)⟩ :: rest) st K =
  To (iP st ((ops[j]?).bind (·.dst)) want) (aV (args.toList.map (st.ev S))) S st f (args.toList.map fun x=>dO (st.ev S x)) d (Sl.of fun st'=>aZ S ops rest st' K):=by
 simp only [aZ,eP]
 cases iP st ((ops[j]?).bind (·.dst)) want with
 | none=>rfl
 | some g =>
  simp only [To]
  rw [show ro S st.bx (st.ev S) (.call ⟨.value (.func f),args,ts⟩)=none by simp [ro,bj]]
  have hm : ∀ K' : St → Prop, jo S st ⟨d, .call ⟨.value (.func f), args, ts⟩, ty, pos, af, some (j, want)⟩ K' =
    (aV (args.toList.map (st.ev S))∧CallP S st f (args.toList.map fun x=>dO (st.ev S x)) fun r st'=>K' (st'.set d r)):=fun K'=>by
   rw [sC (by simp [ro,bj])]
   simp [Op.operands,Call.operands,aV,dk,St.ev,SV.cond]
  simp only [hm]
end
def VK (g:Option Bool) (nx:Nat) (x:Option (Prop × SV × St)) (c:Prop) {K:SV→Prop} (_:Sl K) {p:Prop} (_:Sl p):Prop :=
 match g,x with
 | some g,some (vc, .b r,_)=>(r.lt nx∧(g=true→c∧vc)∧K (.grd g r))∨p
 | _,_=>p
theorem Jo {vc c:Prop} {r:BV} {K:SV→Prop} {g:Bool} {nx:Nat} {p:Prop} {q:Sl p} {s:St} (h:r.lt nx∧(g=true→c∧vc)∧K (.grd g r)):VK (some g) nx (some (vc, .b r,s)) c (Sl.of K) q := .inl h
section
variable {S:Env} {ops:Array Oper} {rest:List Oper} {st:St} {K:St→Prop} {d:Option Nat} {ty:TypeId} {pos:String} {af:Array Edge} {j:Nat} {want:Bool}
theorem Ff {t:TypeId} {ps:List (Nat × Operand)} {vc:Prop} {r:SV} {s:St} (h:oN S st t ps=some (vc,r,s)):s=st:=by
 unfold oN at h
 split at h
 ·split at h
  ·simp only [Option.some.injEq,Prod.mk.injEq] at h;exact h.2.2.symm
  ·cases h
 ·cases h
theorem Mg {t : TypeId} {ps : Array (Nat × Operand)} : aZ S ops (⟨d, .build t ps, ty, pos, af, some (j, want)⟩ :: rest) st K =
  VK (iP st ((ops[j]?).bind (·.dst)) want) st.nx (oN S st t ps.toList) (aV (ps.toList.map fun p=>st.ev S p.2)) (Sl.of fun r=>aZ S ops rest (st.set d r) K) (Sl.of (aZ S ops (⟨d, .build t ps,ty,pos,af,some (j,want)⟩ :: rest) st K)):=by
 unfold VK
 split
 ·rename_i g vc r s h1 h2
  have hs:=Ff h2
  subst hs
  refine propext ⟨fun h => .inr h,fun h => ?_⟩
  rcases h with h|h
  ·simp only [aZ,eP]
   rw [h1]
   have hro:ro S s.bx (s.ev S) (.build t ps)=none:=rfl
   simp only [hro]
   refine .inr ⟨r,h.1,fun hg => ?_,h.2.2⟩
   rw [sC hro]
   refine ⟨?_, ?_⟩
   ·have:=(h.2.1 hg).1
    simp only [Op.operands,List.map_map]
    exact this
   ·show dk S s (s.ev S) (.build t ps) _
    rw [zI,h2]
    exact ⟨(h.2.1 hg).2,rfl⟩
  ·exact h
 ·rfl
end
section
variable {S:Env} {ops:Array Oper} {rest:List Oper} {st:St} {K:St→Prop} {d:Option Nat} {ty:TypeId} {pos:String} {af:Array Edge} {gd:Nat × Bool}
theorem PR {t:Nat}:st.ev S (.tmp t)=st.fr t:=rfl
theorem JP {v:Value}:st.ev S (.const v) = .b (.c (.p (.val v))):=rfl
theorem Nt {f:Nat}:st.ev S (.func f) = .v (.func (.func f) #[] #[]):=rfl
theorem GM {g:Nat}:st.ev S (.global g)=(match S.gl g with|some (n,f) => .b (.c (.ipt n f 0))|none => .any):=rfl
theorem Ki {v:SV}:st.set none v=st:=rfl
theorem Tf {k s:Nat} {v:SV}:(st.set (some k) v).fr s=if s=k then v else st.fr s:=rfl
theorem dX {k:Option Nat} {v:SV}:(st.set k v).bx=st.bx:=by cases k <;> rfl
theorem mj {k:Option Nat} {v:SV}:(st.set k v).nx=st.nx:=by cases k <;> rfl
theorem FE {x:Bx}:(st.newBox x).fr=st.fr:=rfl
theorem FJ {x:Bx} {i:Nat}:(st.newBox x).bx i=if i=st.nx then some x else st.bx i:=rfl
theorem GI {x:Bx}:(st.newBox x).nx=st.nx+1:=rfl
theorem Pa {x:Option Bx}:(st.newBoxO x).fr=st.fr:=rfl
theorem LF {x:Option Bx} {i:Nat}:(st.newBoxO x).bx i=if i=st.nx then x else st.bx i:=rfl
theorem NP {x:Option Bx}:(st.newBoxO x).nx=st.nx+1:=rfl
theorem Nm {x:Option Bx}:(st.newBoxO x).kf=st.kf:=rfl
theorem Gq {x:Bx} {i:Nat}:(st.setBox i x).fr=st.fr:=rfl
theorem GH {x:Bx} {i j:Nat}:(st.setBox i x).bx j=if j=i then some x else st.bx j:=rfl
theorem Gw {x:Bx} {i:Nat}:(st.setBox i x).nx=st.nx:=rfl
theorem Ga {i:Nat}:(st.delBox i).fr=st.fr:=rfl
theorem Fu {i j:Nat}:(st.delBox i).bx j=if j=i then none else st.bx j:=rfl
theorem FX {i:Nat}:(st.delBox i).nx=st.nx:=rfl
theorem QB {args:List BV}:(uj args).fr=iQ args 0:=rfl
theorem Qg {args:List BV} {i:Nat}:(uj args).bx i=none:=rfl
theorem Sc {args:List BV}:(uj args).nx=0:=rfl
theorem Tg {cs:List PV} {args:List BV} {s:Nat}:(VO cs args).fr s=if s=0 then .b (.c (.ptr 0 0)) else iQ args 1 s:=rfl
theorem SQ {cs:List PV} {args:List BV} {i:Nat}:(VO cs args).bx i=if i=0 then some (.fix (cs.map CV.p)) else none:=rfl
theorem Sd {cs:List PV} {args:List BV}:(VO cs args).nx=1:=rfl
theorem Dm {k s:Nat}:iQ [] k s = .any:=rfl
theorem Ad {x:BV} {r:List BV} {k s:Nat}:iQ (x :: r) k s=if s=k then .b x else iQ r (k+1) s:=rfl
theorem IW {s:Nat}:kF [] s = .any:=rfl
theorem wO {k s:Nat} {v:SV} {r:List (Nat × SV)}:kF ((k,v) :: r) s=if s=k then v else kF r s:=rfl
theorem IB {s:Nat}:iS [] s=none:=rfl
theorem js {k s:Nat} {v:Bx} {r:List (Nat × Bx)}:iS ((k,v) :: r) s=if s=k then some v else iS r s:=rfl
theorem MF {x:BV}:(SV.b x).strip = .b x:=rfl
theorem Gh {p:Bool} {x:BV}:(SV.grd p x).strip = .b x:=rfl
theorem Fs {x:List BV}:(SV.tup x).strip = .tup x:=rfl
theorem Rf {x:BV}:(SV.b x).cond=True:=rfl
theorem Kg {p:Bool} {x:BV}:(SV.grd p x).cond=(p=true):=rfl
theorem Kd {x:List BV}:(SV.tup x).cond=True:=rfl
theorem KO {x:BV}:dO (.b x)=x:=rfl
theorem DD {p:Bool} {x:BV}:dO (.grd p x)=x:=rfl
theorem zu:aV []=True:=rfl
theorem yO {x:SV} {r:List SV}:aV (x :: r)=(x.cond∧aV r):=rfl
theorem De:AC S st none=True:=rfl
theorem CT {x:Operand}:AC S st (some x)=(st.ev S x).cond:=rfl
theorem ah {n:St→Prop} {Q:AExit→St→Prop}:gV n Q .normal st=n st:=rfl
theorem GO {n:St→Prop} {Q:AExit→St→Prop}:gV n Q .ret st=Q .ret st:=rfl
theorem Cw {n:St→Prop} {Q:AExit→St→Prop} {id:Nat}:gV n Q (.exit id) st=Q (.exit id) st:=rfl
theorem kJ {id:Nat} {Q:AExit→St→Prop}:kK id Q .normal st=Q .normal st:=rfl
theorem CM {id:Nat} {Q:AExit→St→Prop}:kK id Q .ret st=Q .ret st:=rfl
theorem Ar {id id':Nat} {Q:AExit→St→Prop}:kK id Q (.exit id') st=if id'=id then Q .normal st else Q (.exit id') st:=rfl
theorem Kk {rs:List ResultVar} {R:SV→Prop}:OK S rs R .ret st=yL S rs R st:=rfl
theorem zt {rs:List ResultVar} {R:SV→Prop}:OK S rs R .normal st=yL S rs R st:=rfl
theorem Hq {rs:List ResultVar} {R:SV→List PV→Prop}:Vl S rs R .ret st=Is S rs R st:=rfl
theorem zw {rs:List ResultVar} {R:SV→List PV→Prop}:Vl S rs R .normal st=Is S rs R st:=rfl
end
section
variable {S:Env} {st:St} {Q:AExit→St→Prop}
theorem lT {id:Nat} {l:List Oper} {y:Code} (h:∀ K:St→Prop,(∀ s,cw S y Q s→K s)→aZ S l.toArray l st K):cw S (.seq (.region id l.toArray false) y) Q st :=
 uR (qM (h _ fun _ h=>h))
theorem LW {id:Nat} {l:List Oper} (h:∀ K:St→Prop,(∀ s,Q .normal s→K s)→aZ S l.toArray l st K):cw S (.region id l.toArray false) Q st :=
 qM (h _ fun _ h=>h)
theorem Ia {id : Nat} {l : List Oper} {y : Code} (hd : uv S.rcv l.toArray (fun i => (Region.before l.toArray).getD i 0) = true) (hm : cP l.toArray (fun i => (Region.before l.toArray).getD i 0) = true)
  (h:∀ K:St→Prop,(∀ s,cw S y Q s→K s)→aZ S l.toArray l st K):cw S (.seq (.region id l.toArray true) y) Q st :=
 uR (DZ hd hm (h _ fun _ h=>h))
theorem HO {id : Nat} {l : List Oper} (hd : uv S.rcv l.toArray (fun i => (Region.before l.toArray).getD i 0) = true) (hm : cP l.toArray (fun i => (Region.before l.toArray).getD i 0) = true)
  (h:∀ K:St→Prop,(∀ s,Q .normal s→K s)→aZ S l.toArray l st K):cw S (.region id l.toArray true) Q st :=
 DZ hd hm (h _ fun _ h=>h)
theorem mw {x y z:Code} (h:cw S (.seq x (.seq y z)) Q st):cw S (.seq (.seq x y) z) Q st :=
 dv x (fun e s hs=>by cases e <;> exact hs) h
theorem xG {c:Operand} {x y z:Code} {t:Bool} (hc:st.ev S c = .t t) (h1:t=true→cw S (.seq x z) Q st) (h2:t=false→cw S (.seq y z) Q st):cw S (.seq (.cond c x y) z) Q st :=
 lK hc h1 h2
theorem Io {z:Code} (h:cw S z Q st):cw S (.seq .skip z) Q st := .inr h
theorem FP {z:Code} {l:Nat} (h:cw S z Q st):cw S (.seq (.label l) z) Q st := .inr h
theorem kq {z:Code} (h:Q .ret st):cw S (.seq .ret z) Q st:=h
theorem Kh {z:Code} {id:Nat} (h:Q (.exit id) st):cw S (.seq (.exit id) z) Q st:=h
theorem ar {z x:Code} {id:Nat} (h:∀ K:St→Prop,(∀ s,cw S z Q s→K s)→cw S x (kK id (gV K Q)) st):cw S (.seq (.block id x) z) Q st :=
 uR (h _ fun _ h=>h)
end
def gO:List BV→Prop
 | []=>True
 | x :: r=>x.lt 0∧gO r
theorem cG:∀ {l:List BV},gO l→∀ x ∈ l,BV.lt 0 x
 | _ :: _,h,_, .head _=>h.1
 | _ :: _,h,_, .tail _ hm=>cG h.2 _ hm
theorem dB:∀ (l:List BV),fZ l l
 | []=>trivial
 | _ :: r=>⟨fun _ _ _ _ h=>h,dB r⟩
section
variable {S:Env} {st:St} {f:FuncId} {args args':List BV} {K:SV→St→Prop}
theorem zo {X:SV} (h:aF S f args (fun r=>r=X)) (hl:gO args) (hk:K X st):eB S st f args (Sl.of K) :=
 .pure args _ h (dB _) (cG hl) hk
theorem Hn {X:SV} (h:Bi S f args X) (hl:gO args) (hk:K X st):eB S st f args (Sl.of K) := .ext args X h (dB _) (cG hl) hk
theorem yA {X:SV} (hk:K X st) (ha:args=args') (hl:gO args') (h:aF S f args' (fun r=>r=X)):eB S st f args (Sl.of K) :=
 .pure args' _ h (ha ▸ dB _) (cG hl) hk
theorem HD {X:BV} {g:Bool} {c:Prop} {d:Option Nat} {K:St→Prop} (h:g=true→aF S f args (fun r=>r = .b X)) (hl:gO args) (hx:X.lt st.nx) (hc:g=true→c) (hk:K (st.set d (.grd g X))):To (some g) c S st f args d (Sl.of K) :=
 .inr ⟨X,hx,fun hg=>⟨hc hg, .pure args _ (h hg) (dB _) (cG hl) rfl⟩,hk⟩
end
attribute [go_sem] List.getElem?_toArray Option.bind_some Option.map_some Option.map_none Option.getD_some Option.getD_none true_and and_true List.drop_succ_cons List.drop_zero List.drop_nil List.take_succ_cons List.take_zero List.take_nil
 List.getD_cons_zero List.getD_cons_succ List.getD_nil List.length_cons List.length_nil List.map_cons List.map_nil List.cons_append List.nil_append List.append_nil List.getElem?_cons_zero List.getElem?_cons_succ gO cond_true cond_false
def iu (nx:Nat):List CV→Prop
 | []=>True
 | x :: r=>CV.lt nx x∧iu nx r
theorem ku {nx:Nat}:∀ {l:List CV},iu nx l↔∀ c ∈ l,CV.lt nx c
 | []=>by simp [iu]
 | x :: r=>by simp [iu,ku (l:=r)]
def rY (nx:Nat):List BV→Prop
 | []=>True
 | x :: r=>BV.lt nx x∧rY nx r
theorem wS {nx:Nat}:∀ {l:List BV},rY nx l↔∀ c ∈ l,BV.lt nx c
 | []=>by simp [rY]
 | x :: r=>by simp [rY,wS (l:=r)]
section
variable {nx:Nat}
theorem RI {cs:List CV}:BV.lt nx (.agg cs)=iu nx cs:=propext ku.symm
theorem VE {l:List PV}:BV.lt nx (.agg (l.map CV.p))=True:=by
 simp [BV.lt,CV.lt]
theorem MU {l:List PV}:iu nx (l.map CV.p)=True:=by
 rw [ku];simp [CV.lt]
theorem Xx {x:CV}:BV.lt nx (.c x)=CV.lt nx x:=rfl
theorem TY {x:PV}:CV.lt nx (.p x)=True:=rfl
theorem Ro {i o:Nat}:CV.lt nx (.ptr i o)=(i<nx):=rfl
theorem RP {i s o n:Nat}:CV.lt nx (.pel i s n o)=(i<nx):=rfl
theorem RK {i n:Nat}:CV.lt nx (.own i n)=(i<nx):=rfl
theorem SZ {s o:Nat} {g:Nat→PV}:CV.lt nx (.ipt s g o)=True:=rfl
theorem QF:iu nx []=True:=rfl
theorem Lo {x:CV} {r:List CV}:iu nx (x :: r)=(CV.lt nx x∧iu nx r):=rfl
theorem NB:rY nx []=True:=rfl
theorem Hz {x:BV} {r:List BV}:rY nx (x :: r)=(BV.lt nx x∧rY nx r):=rfl
theorem TJ {x:BV}:SV.lt nx (.b x)=BV.lt nx x:=rfl
theorem OT {x:List BV}:SV.lt nx (.tup x)=rY nx x:=propext wS.symm
theorem LA {x:BV} {p:Bool}:SV.lt nx (.grd p x)=BV.lt nx x:=rfl
theorem Pf:SV.lt nx .any=True:=rfl
theorem Oe {l:List CV}:Bx.lt nx (.fix l)=iu nx l:=propext ku.symm
theorem Ov {e s n:Nat} {f:Nat→Nat→PV}:Bx.lt nx (.arr e s n f)=True:=rfl
end
attribute [go_sem] RI MU Xx TY Ro RP RK SZ QF Lo NB Hz TJ OT LA Pf Oe Ov
attribute [go_sem ↓] VE
attribute [go_sem ↓] Xq
attribute [go_sem ↓ 1100] Sp Mg
attribute [go_sem] OL GU LJ nr zf HF xV HM DA QE VD Ns zB QY
attribute [go_sem] LO Na Tn Ml Oj
attribute [go_sem ↓] UR So KA Si PY zU LB Ay NX FT Tw WJ RB Lw Da Ue Ve Un
 OY TN ON yw Ou PS JB QG Tc
attribute [go_sem] TD UW UO UY FA Pa LF NP Nm
attribute [go_sem] PR JP Nt GM Ki Tf dX mj FE FJ GI Gq GH Gw Ga Fu FX
 QB Qg Sc Tg SQ Sd Dm Ad IW wO IB js MF Gh Fs Rf Kg Kd KO DD zu yO De CT
 ah GO Cw kJ CM Ar Kk zt Hq zw
attribute [go_sem] mJ rb dj mM np gw nk wV Ik Gk qO xa iG lz BW Hl Jn pJ zE? yv LI oN kn yq Ep sV EF gu nu jw su BV.cells BV.one CV.one CV.ofV CV.toP iP
 yL re Pb Is Ej eR dp iX
end Go.SL
namespace Go.SL
open Go
open Go.RowKit (wrap64)
theorem XX {n:Int} (h1 : -9223372036854775808≤n) (h2:n≤9223372036854775807):wrap64 n=n:=IntWalk.wrap64_in n ⟨h1,h2⟩
theorem fA {n:Int} (h1 : -9223372036854775808≤n) (h2:n≤9223372036854775807):IntKind.i64.wrap n=n:=IntWalk.i64_in n ⟨h1,h2⟩
theorem UJ {n:Int} (h1:0≤n) (h2:n≤65535):IntKind.u16.wrap n=n:=IntWalk.u16_in n ⟨h1,h2⟩
theorem oP {n:Int} (h1:0≤n) (h2:n≤18446744073709551615):IntKind.u64.wrap n=n:=by
 simp only [IntKind.wrap,IntKind.bits,IntKind.signed]
 simp
 omega
theorem EG {n k:Int}:((n.tdiv k).natAbs)≤n.natAbs:=by
 rw [Int.natAbs_tdiv];exact Nat.div_le_self _ _
theorem Ee {n k:Int} (h1 : -9223372036854775808≤n) (h2:n≤9223372036854775807) (hk:2≤k):IntKind.i64.wrap (n.tdiv k)=n.tdiv k:=by
 have h := @EG n k
 refine fA (by omega) ?_
 by_cases h0:n = -9223372036854775808
 ·subst h0
  have:(-9223372036854775808:Int).tdiv k≤0:=by
   rw [Int.neg_tdiv]
   have:=Int.tdiv_nonneg (a:=9223372036854775808) (b:=k) (by omega) (by omega)
   omega
  omega
 ·omega
theorem vH (n:Int) : -9223372036854775808≤IntKind.i64.wrap n∧IntKind.i64.wrap n≤9223372036854775807:=by
 simp only [IntKind.wrap,IntKind.bits,IntKind.signed]
 simp
 split <;> omega
theorem Js {a b:Int} (h:0≤a):a.tdiv b=a / b:=Int.tdiv_eq_ediv_of_nonneg h
theorem Tx {a b:Int} (h:0≤a):a.tmod b=a % b:=Int.tmod_eq_emod_of_nonneg h
def dG {α:Type} [Inhabited α] (enc:α→List PV) (xs:List α):Nat→Nat→PV:=fun i j=>(enc (xs.getD i default)).getD j .any
theorem PV.le_refl (x:PV):PV.le x x:=fun _ _ _ h=>h
theorem fq {sz:Nat} {f:Nat→Nat→PV}:PV.le (.val (.slice none 0 0)) (.lst sz 0 f):=fun _ _ u h=>by
 have:u = .slice none 0 0:=h
 subst this
 exact ⟨none,0,rfl,Nat.le_refl _,fun h=>absurd h (Nat.lt_irrefl 0)⟩
theorem gj {sz n:Nat} {f g:Nat→Nat→PV} (h:∀ i,i<n→∀ j,j<sz→f i j=g i j):PV.le (.lst sz n f) (.lst sz n g):=fun _ _ u hu=>by
 obtain ⟨a,c,e,hn,hb⟩:=hu
 refine ⟨a,c,e,hn,fun h0 => ?_⟩
 obtain ⟨b,o,ha,hok,hc⟩:=hb h0
 refine ⟨b,o,ha,hok,fun i hi j hj => ?_⟩
 rw [← h i hi j hj]
 exact hc i hi j hj
theorem MY {k:IntKind} {n:Int}:(Value.int k n).oneCell'=true:=rfl
theorem II {b:Bool}:(Value.bool b).oneCell'=true:=rfl
theorem CP {s:ByteArray}:(Value.string s).oneCell'=true:=rfl
theorem He {o n:Nat}:(Value.slice none o n).oneCell'=true:=rfl
attribute [go_sem] MY II CP He
theorem IM {α:Type} [Inhabited α] {enc:α→List PV} {xs:List α} {i j:Nat}:dG enc xs i j=(enc (xs.getD i default)).getD j .any:=rfl
theorem Fb:maxLen=9223372036854775807:=by decide
attribute [go_sem] Fb
theorem Ox {a b:Bool}:(bif a then b else false)=(a && b):=by cases a <;> rfl
theorem RX {a b:Bool}:(bif a then true else b)=(a || b):=by cases a <;> rfl
attribute [go_sem] Ox RX
theorem fy {α : Type} [Inhabited α] {enc : α → List PV} {xs : List α} {x : α} {s : Nat} {g : Nat → Nat → PV} (hg : ∀ j, j < s → g 0 j = (enc x).getD j .any) :
  ∀ i,i<xs.length+1→∀ j,j<s→PV.le (gh xs.length (dG enc xs) g i j) (dG enc (xs ++ [x]) i j):=fun i hi j hj=>by
 have:gh xs.length (dG enc xs) g i j=dG enc (xs ++ [x]) i j:=by
  unfold gh dG
  split
  ·rename_i h;simp only [List.getD_eq_getElem?_getD,List.getElem?_append_left h]
  ·rename_i h
   have:i=xs.length:=by omega
   subst this
   rw [Nat.sub_self,hg j hj]
   simp
 rw [this];exact PV.le_refl _
attribute [go_sem] IM
end Go.SL
namespace Go.SL
open Go
def UT (s1:St):AExit→St→Prop
 | .normal,s=>s=s1
 | _,_=>False
theorem ao {s:St}:UT s .normal s:=rfl
def St.ite (t:Bool) (s1 s2:St):St :=
 { fr:=fun k=>if t=true then s1.fr k else s2.fr k,bx:=fun i=>if t=true then s1.bx i else s2.bx i,nx:=if t=true then s1.nx else s2.nx,kf:=fun k=>if t=true then s1.kf k else s2.kf k }
def rC:Code→Bool
 | .skip=>true
 | .region .. => true
 | .seq x y=>rC x && rC y
 | .cond _ x y=>rC x && rC y
 | .label _=>true
 | _=>false
section
variable {S:Env} {st:St} {Q:AExit→St→Prop}
theorem aC {c : Operand} {x y z : Code} {t : Bool} {s1 s2 : St} (hf : (rC x && rC y) = true) (hc : st.ev S c = .t t) (h1 : t = true → cw S x (UT s1) st) (h2 : t = false → cw S y (UT s2) st)
  (h:cw S z Q (St.ite t s1 s2)):cw S (.seq (.cond c x y) z) Q st:=by
 refine uR (lK hc (fun ht => ?_) fun ht => ?_)
 ·subst ht
  refine dv x (fun e s hs => ?_) (h1 rfl)
  cases e with
  | normal=>have:s=s1:=hs;subst this;exact h
  | _=>exact hs.elim
 ·subst ht
  refine dv y (fun e s hs => ?_) (h2 rfl)
  cases e with
  | normal=>have:s=s2:=hs;subst this;exact h
  | _=>exact hs.elim
theorem ay {c : Operand} {x y : Code} {t : Bool} {s1 s2 : St} (hf : (rC x && rC y) = true) (hc : st.ev S c = .t t) (h1 : t = true → cw S x (UT s1) st) (h2 : t = false → cw S y (UT s2) st)
  (h:Q .normal (St.ite t s1 s2)):cw S (.cond c x y) Q st:=by
 refine lK hc (fun ht => ?_) fun ht => ?_
 ·subst ht
  refine dv x (fun e s hs => ?_) (h1 rfl)
  cases e with
  | normal=>have:s=s1:=hs;subst this;exact h
  | _=>exact hs.elim
 ·subst ht
  refine dv y (fun e s hs => ?_) (h2 rfl)
  cases e with
  | normal=>have:s=s2:=hs;subst this;exact h
  | _=>exact hs.elim
variable {t:Bool} {s1 s2:St}
theorem SS {k:Nat}:(St.ite t s1 s2).fr k=if t=true then s1.fr k else s2.fr k:=rfl
theorem Qe {k:Nat}:(St.ite t s1 s2).bx k=if t=true then s1.bx k else s2.bx k:=rfl
theorem SX:(St.ite t s1 s2).nx=if t=true then s1.nx else s2.nx:=rfl
variable {p:Prop} [Decidable p]
theorem PW {x y:BV}:(if p then SV.b x else SV.b y)=SV.b (if p then x else y):=by split <;> rfl
theorem UF {x y:CV}:(if p then BV.c x else BV.c y)=BV.c (if p then x else y):=by split <;> rfl
theorem OX {x y:List CV}:(if p then BV.agg x else BV.agg y)=BV.agg (if p then x else y):=by split <;> rfl
theorem Hm {x y:CV} {l r:List CV}:(if p then x :: l else y :: r)=(if p then x else y) :: (if p then l else r):=by split <;> rfl
theorem Tt {x y:PV}:(if p then CV.p x else CV.p y)=CV.p (if p then x else y):=by split <;> rfl
theorem NZ {x y:Value}:(if p then PV.val x else PV.val y)=PV.val (if p then x else y):=by split <;> rfl
theorem ML {k:IntKind} {x y:Int}:(if p then Value.int k x else Value.int k y)=Value.int k (if p then x else y):=by split <;> rfl
theorem Iq {x y:Bool}:(if p then Value.bool x else Value.bool y)=Value.bool (if p then x else y):=by split <;> rfl
theorem Mh {sz n m:Nat} {f g:Nat→Nat→PV}:(if p then PV.lst sz n f else PV.lst sz m g)=PV.lst sz (if p then n else m) (if p then f else g):=by split <;> rfl
theorem Lk {i n m:Nat}:(if p then CV.own i n else CV.own i m)=CV.own i (if p then n else m):=by split <;> rfl
theorem KI {x y:Bx}:(if p then some x else some y)=some (if p then x else y):=by split <;> rfl
theorem Mi {x y:List CV}:(if p then Bx.fix x else Bx.fix y)=Bx.fix (if p then x else y):=by split <;> rfl
theorem Mo {e s n m:Nat} {f g:Nat→Nat→PV}:(if p then Bx.arr e s n f else Bx.arr e s m g)=Bx.arr e s (if p then n else m) (if p then f else g):=by split <;> rfl
theorem IU {α:Type} {x:α}:(if p then x else x)=x:=by split <;> rfl
end
theorem Wh {p:Prop} [Decidable p] {a b:Bool}:((if p then a else b)=true)=((p→a=true)∧(¬p→b=true)):=by split <;> simp_all
theorem Wr {p:Prop} [Decidable p] {a b:Bool}:((if p then a else b)=false)=((p→a=false)∧(¬p→b=false)):=by split <;> simp_all
theorem au {X:Type} {F:X→St} {I:X→Prop} {m:X→Nat} {k:Nat} {st:St} (x':X) (hle:Le st (F x')) (hI:I x') (hm:m x'<k):Wk (fun s=>∃ x',s=F x'∧I x'∧m x'<k) st :=
 ⟨F x',hle,x',rfl,hI,hm⟩
theorem fk {S:Env} {st:St} {f:FuncId} {args args':List BV} {K:SV→St→Prop} {X:SV} (hk:K X st) (ha:fZ (args.map (dp st.bx)) args') (hl:gO args') (hf:X.flat) (h:aF S f args' (fun r=>r=X)) (hp:S.rcv (f+1000000)=false:=by rfl):eB S st f args (Sl.of K) :=
 .lend args' _ h ha (cG hl) hf hk hp
theorem eE:fZ [] []=True:=rfl
theorem dU {x y:BV} {r s:List BV}:fZ (x :: r) (y :: s)=(BV.le x y∧fZ r s):=rfl
theorem lq {x:BV}:BV.le x x:=fun _ _ _ _ h=>h
theorem mA {x y:PV} (h:PV.le x y):BV.le (.c (.p x)) (.c (.p y)):=fun _ ok w u hu=>h ok w u hu
theorem Jt {S:Env} {st:St} {Q:AExit→St→Prop} {id:Nat} {l:List Oper} {y:Code} (h:∀ K:St→Prop,(∀ s,cw S y Q s→K s)→(∀ s s',Le s s'→cw S y Q s'→K s)→aZ S l.toArray l st K):cw S (.seq (.region id l.toArray false) y) Q st:=by
 refine dv (S:=S) (.region id l.toArray false) (Q:=gV (fun st=>Wk (cw S y Q) st∨cw S y Q st) Q) (fun _ _ h=>h) (qM ?_)
 exact h _ (fun s hs => .inr hs) fun s s' hl hs => .inl ⟨s',hl,hs⟩
def TE (x y:BV):Prop:=BV.lt 0 y∧∀ ok w u,bR bM ok w x u→bR bM ok w y u
def WS (x y:SV):Prop:=SV.lt 0 y∧∀ ok w u,bu bM ok w x u→bu bM ok w y u
def Oo:List BV→List BV→Prop
 | [],[]=>True
 | x :: l,y :: r=>TE x y∧Oo l r
 | _,_=>False
theorem fV {S:Env} {f:FuncId} {args:List BV} {X:SV} (h:aF S f args fun r=>WS r X):aF S f args fun r=>r=X :=
 ⟨h.1,fun ok w vs h1 h2 h3 h4=>(h.2 ok w vs h1 h2 h3 h4).mono fun _ _ ⟨v,r,he,hR,_,hb,hd⟩=>⟨v,X,he,rfl,hR.1,hb,hR.2 _ _ _ hd⟩⟩
theorem Ey {x y:BV} (h:TE x y):WS (.b x) (.b y):=h
theorem ej {x:BV} (h:BV.lt 0 x):TE x x:=⟨h,fun _ _ _ h=>h⟩
theorem oi {x y:PV} (h:PV.le x y):TE (.c (.p x)) (.c (.p y)):=⟨trivial,fun ok w u hu=>h ok w u hu⟩
theorem uG {ok:Nat→Prop} {w:World}:∀ {l r:List BV},Oo l r→l.length=r.length∧∀ {u:Nat→Value},(∀ j,bR bM ok w (l.getD j .any) (u j))→∀ j,bR bM ok w (r.getD j .any) (u j)
 | [],[],_=>⟨rfl,fun h=>h⟩
 | x :: l,y :: r,⟨h1,h2⟩=>by
  obtain ⟨q1,q2⟩:=uG (ok:=ok) (w:=w) h2
  refine ⟨by simp [q1],fun {u} hu j => ?_⟩
  cases j with
  | zero=>exact h1.2 ok w _ (hu 0)
  | succ j=>exact q2 (u:=fun k=>u (k+1)) (fun k=>hu (k+1)) j
theorem EK:∀ {l r:List BV},Oo l r→∀ v ∈ r,BV.lt 0 v
 | [],[],_,v,hv=>by cases hv
 | x :: l,y :: r,h,v,hv=>by
  rcases List.mem_cons.1 hv with e|e
  ·rw [e];exact h.1.1
  ·exact EK h.2 v e
theorem fe {l r:List BV} (h:Oo l r):WS (.tup l) (.tup r) :=
 ⟨EK h,fun ok w u ⟨us,hu,hs,hd⟩=>⟨us,hu,by rw [hs,(uG (ok:=ok) (w:=w) h).1],(uG h).2 hd⟩⟩
def GT:List CV→List CV→Prop
 | [],[]=>True
 | .p x :: l, .p y :: r=>(x=y∨PV.le x y)∧GT l r
 | _,_=>False
theorem jR:GT [] []=True:=rfl
theorem gm {x y:PV} {l r:List CV}:GT (.p x :: l) (.p y :: r)=((x=y∨PV.le x y)∧GT l r):=rfl
theorem um {ok:Nat→Prop} {w:World}:∀ {l r:List CV},GT l r→l.length=r.length∧(∀ c ∈ r,CV.lt 0 c)∧∀ {u:Nat→Value},(∀ j,ca bM ok w (l.getD j .any) (u j))→∀ j,ca bM ok w (r.getD j .any) (u j)
 | [],[],_=>⟨rfl,by simp,fun h=>h⟩
 | .p x :: l, .p y :: r,h=>by
  rw [gm] at h
  obtain ⟨h1,h2⟩:=h
  obtain ⟨q1,q0,q2⟩:=um (ok:=ok) (w:=w) h2
  refine ⟨by simp [q1],fun c hc => ?_,fun {u} hu j => ?_⟩
  ·rcases List.mem_cons.1 hc with e|e
   ·rw [e];trivial
   ·exact q0 c e
  ·cases j with
   | zero =>
    rcases h1 with e|e
    ·rw [← e];exact hu 0
    ·exact e _ _ _ (hu 0)
   | succ j=>exact q2 (u:=fun k=>u (k+1)) (fun k=>hu (k+1)) j
theorem lS {l r:List CV} (h:GT l r):TE (.agg l) (.agg r):=by
 refine ⟨(um (ok:=fun _=>True) (w:=default) h).2.1,fun ok w u ⟨us,hu,hs,h1,hd⟩ => ?_⟩
 obtain ⟨q1,_,q2⟩:=um (ok:=ok) (w:=w) h
 exact ⟨us,hu,by rw [hs,q1],h1,q2 hd⟩
theorem Cj {k:IntKind} {a b:Int} (h:a=b):SV.b (.c (.p (.val (.int k a))))=SV.b (.c (.p (.val (.int k b)))):=by rw [h]
def bg (l:List (Nat × SV)) (b:List (Nat × Bx)) (nx:Nat):St:=⟨kF l,iS b,nx,fun _ => .any⟩
theorem Me {l:List (Nat × SV)} {b:List (Nat × Bx)} {nx s:Nat}:(bg l b nx).fr s=kF l s:=rfl
theorem Ms {l:List (Nat × SV)} {b:List (Nat × Bx)} {nx s:Nat}:(bg l b nx).bx s=iS b s:=rfl
theorem Nj {l:List (Nat × SV)} {b:List (Nat × Bx)} {nx:Nat}:(bg l b nx).nx=nx:=rfl
def vS:List (Nat × Option Nat)→Nat→Option Nat
 | [],_=>some 0
 | (k,v) :: r,i=>if i=k then v else vS r i
theorem Mn {i:Nat}:vS [] i=some 0:=rfl
theorem jO {k i:Nat} {v:Option Nat} {r:List (Nat × Option Nat)}:vS ((k,v) :: r) i=if i=k then v else vS r i:=rfl
def nX (r:Nat→Option Nat) (st:St) (bx':Nat→Option Bx) (nx:Nat):List (Nat × SV)→Prop
 | []=>True
 | (k,v) :: l=>(zs r st.bx bx' (st.fr k) v∧v.lt nx)∧nX r st bx' nx l
def AB (r:Nat→Option Nat) (st:St) (bx':Nat→Option Bx) (nx:Nat):List (Nat × Bx)→Prop
 | []=>True
 | (i,x) :: l=>(fI r st.bx bx' i x∧i<nx∧x.lt nx)∧AB r st bx' nx l
theorem jE {s:Nat}:∀ {l:List (Nat × SV)},kF l s = .any∨(s,kF l s) ∈ l
 | [] => .inl rfl
 | (k,v) :: l=>by
  rw [wO]
  split
  ·rename_i h;subst h;exact .inr (List.mem_cons_self ..)
  ·rcases jE (s:=s) (l:=l) with h|h
   ·exact .inl h
   ·exact .inr (List.mem_cons_of_mem _ h)
theorem iy {s:Nat} {x:Bx}:∀ {l:List (Nat × Bx)},iS l s=some x→(s,x) ∈ l
 | [],h=>by cases h
 | (k,v) :: l,h=>by
  rw [js] at h
  split at h
  ·rename_i e;subst e;cases h;exact List.mem_cons_self ..
  ·exact List.mem_cons_of_mem _ (iy h)
theorem jC {r:Nat→Option Nat} {st:St} {bx':Nat→Option Bx} {nx:Nat}:∀ {l:List (Nat × SV)},nX r st bx' nx l→∀ {k v},(k,v) ∈ l→zs r st.bx bx' (st.fr k) v∧v.lt nx
 | (_,_) :: _,h,_,_, .head _=>h.1
 | (_,_) :: _,h,_,_, .tail _ hm=>jC h.2 hm
theorem pj {r:Nat→Option Nat} {st:St} {bx':Nat→Option Bx} {nx:Nat}:∀ {l:List (Nat × Bx)},AB r st bx' nx l→∀ {k v},(k,v) ∈ l→fI r st.bx bx' k v∧k<nx∧v.lt nx
 | (_,_) :: _,h,_,_, .head _=>h.1
 | (_,_) :: _,h,_,_, .tail _ hm=>pj h.2 hm
def GS (r:Nat→Option Nat):List Nat→Bool
 | []=>true
 | i :: l=>(l.all fun j=>i == j || r i == none || r i != r j) && GS r l
theorem qT {r:Nat→Option Nat}:∀ {l:List Nat},GS r l=true→∀ i j k,i ∈ l→j ∈ l→r i=some k→r j=some k→i=j
 | a :: l,h,i,j,k,hi,hj,h1,h2=>by
  simp only [GS,Bool.and_eq_true,List.all_eq_true,Bool.or_eq_true,beq_iff_eq,bne_iff_ne] at h
  obtain ⟨ha,hl⟩:=h
  rcases List.mem_cons.1 hi with e1|e1 <;> rcases List.mem_cons.1 hj with e2|e2
  ·rw [e1,e2]
  ·subst e1
   rcases ha j e2 with (q|q)|q
   ·exact q
   ·rw [q] at h1;cases h1
   ·exact absurd (h1.trans h2.symm) q
  ·subst e2
   rcases ha i e1 with (q|q)|q
   ·exact q.symm
   ·rw [q] at h2;cases h2
   ·exact absurd (h2.trans h1.symm) q
  ·exact qT hl i j k e1 e2 h1 h2
theorem Uy {st : St} {l : List (Nat × SV)} {b : List (Nat × Bx)} {nx : Nat} (r : List (Nat × Option Nat)) (h0 : vS r 0 = some 0) (hnx : 0 < nx) (hinj : GS (vS r) (b.map (·.1)) = true)
  (hfr:nX (vS r) st (iS b) nx l) (hb:AB (vS r) st (iS b) nx b):Le st (bg l b nx):=by
 have key:∀ i,iS b i≠none→i ∈ b.map (·.1):=fun i hi=>by
  cases hx:iS b i with
  | none=>exact absurd hx hi
  | some x=>exact List.mem_map.2 ⟨_,iy hx,rfl⟩
 refine ⟨⟨vS r,h0,fun _=>hnx,fun i j k hi hj h1 h2=>qT hinj i j k (key i hi) (key j hj) h1 h2,fun s => ?_,fun i x hx=>(pj hb (iy hx)).1,fun s=>by show zs _ _ _ _ .any;unfold zs;split <;> trivial⟩,fun s => ?_,fun i x hx=>(pj hb (iy hx)).2,fun _=>trivial⟩
 ·show zs _ _ _ _ (kF l s)
  rcases jE (s:=s) (l:=l) with h|h
  ·rw [h];unfold zs;split <;> trivial
  ·exact (jC hfr h).1
 ·show SV.lt nx (kF l s)
  rcases jE (s:=s) (l:=l) with h|h
  ·rw [h];trivial
  ·exact (jC hfr h).2
section
variable {r:Nat→Option Nat} {bx bx':Nat→Option Bx} {st:St} {nx:Nat}
theorem Jf:nX r st bx' nx []=True:=rfl
theorem Hd {k:Nat} {v:SV} {l:List (Nat × SV)}:nX r st bx' nx ((k,v) :: l)=((zs r st.bx bx' (st.fr k) v∧v.lt nx)∧nX r st bx' nx l):=rfl
theorem Iy:AB r st bx' nx []=True:=rfl
theorem FK {k:Nat} {v:Bx} {l:List (Nat × Bx)}:AB r st bx' nx ((k,v) :: l)=((fI r st.bx bx' k v∧k<nx∧v.lt nx)∧AB r st bx' nx l):=rfl
theorem PH {x y:BV}:zs r bx bx' (.b x) (.b y)=Tq r bx bx' x y:=rfl
theorem sX {x:SV}:zs r bx bx' x .any=True:=by cases x <;> rfl
theorem Pw {x y:CV}:Tq r bx bx' (.c x) (.c y)=zq r bx bx' x y:=by
 cases y with
 | p y=>cases y with
  | any=>cases x <;> rfl
  | _=>rfl
 | _=>rfl
theorem Nb {x y:List CV}:Tq r bx bx' (.agg x) (.agg y)=EX r bx bx' x y:=rfl
theorem Pg:EX r bx bx' [] []=True:=rfl
theorem JX {x y:CV} {l l':List CV}:EX r bx bx' (x :: l) (y :: l')=(zq r bx bx' x y∧EX r bx bx' l l'):=rfl
theorem OA {x:CV}:zq r bx bx' x (.p .any)=True:=by cases x <;> rfl
theorem Mx {x:PV} {v:Value}:zq r bx bx' (.p x) (.p (.val v))=(x = .val v∨PV.le x (.val v)):=rfl
theorem MV {x:PV} {sz n:Nat} {f:Nat→Nat→PV}:zq r bx bx' (.p x) (.p (.lst sz n f))=(x = .lst sz n f∨PV.le x (.lst sz n f)):=rfl
theorem ME {x:PV} {i n:Nat}:zq r bx bx' (.p x) (.own i n)=(x = .val (.slice none 0 0)∧n=0∧r i=none):=rfl
theorem Pe {i o i' o':Nat}:zq r bx bx' (.ptr i o) (.ptr i' o')=(r i'=some i∧o=o'):=rfl
theorem OS {i s k o i' s' k' o':Nat}:zq r bx bx' (.pel i s k o) (.pel i' s' k' o')=(r i'=some i∧s=s'∧k=k'∧o=o'):=rfl
theorem NH {i n i' n':Nat}:zq r bx bx' (.own i n) (.own i' n')=(r i'=some i∧n=n'):=rfl
def CY (r:Nat→Option Nat) (id:Nat):List (Nat × Bx)→Prop
 | []=>True
 | (i,_) :: l=>r i≠some id∧CY r id l
theorem HL {id:Nat}:CY r id []=True:=rfl
theorem Gr {id i:Nat} {x:Bx} {l:List (Nat × Bx)}:CY r id ((i,x) :: l)=(r i≠some id∧CY r id l):=rfl
theorem xk {id:Nat}:∀ {b:List (Nat × Bx)},CY r id b→∀ id',iS b id'≠none→r id'≠some id
 | [],_,id',h=>(h rfl).elim
 | (i,x) :: l,h,id',hb=>by
  rw [js] at hb
  by_cases e:id'=i
  ·subst e;exact h.1
  ·rw [if_neg e] at hb;exact xk h.2 id' hb
theorem xq {id:Nat}:∀ {b:List (Nat × Bx)},(∀ id',iS b id'≠none→r id'≠some id)→CY r id b
 | [],_=>trivial
 | (i,x) :: l,h=>by
  refine ⟨h i (by rw [js,if_pos rfl];simp),xq fun id' hb => ?_⟩
  refine h id' ?_
  rw [js]
  split
  ·simp
  ·exact hb
def QW (y:Option Bx) (n sz n':Nat) (f':Nat→Nat→PV) (p:Prop):Prop:=match y with
 | some (.arr _ s m f)=>s=sz∧n=n'∧n≤m∧(∀ i,i<n→∀ j,j<sz→PV.le (f i j) (f' i j))∧p
 | _=>False
theorem JQ {i n sz n':Nat} {f':Nat→Nat→PV} {b:List (Nat × Bx)}:zq r bx (iS b) (.own i n) (.p (.lst sz n' f'))=QW (bx i) n sz n' f' (CY r i b):=by
 apply propext
 unfold QW
 constructor
 ·rintro ⟨e,m,f,h1,h2,h3,h4,h5⟩
  rw [h1]
  exact ⟨rfl,h2,h3,h4,xq h5⟩
 ·intro h
  split at h
  ·rename_i hb
   obtain ⟨rfl,h2,h3,h4,h5⟩:=h
   exact ⟨_,_,_,hb,h2,h3,h4,xk h5⟩
  ·exact h.elim
theorem Fm {e s m n sz n':Nat} {f f':Nat→Nat→PV} {p:Prop}:QW (some (.arr e s m f)) n sz n' f' p=(s=sz∧n=n'∧n≤m∧(∀ i,i<n→∀ j,j<sz→PV.le (f i j) (f' i j))∧p):=rfl
theorem NA {s o s' o':Nat} {g g':Nat→PV}:zq r bx bx' (.ipt s g o) (.ipt s' g' o')=(s=s'∧o=o'∧(g=g'∨∀ j,j<s→PV.le (g j) (g' j))):=rfl
theorem Oc {l l':List CV}:Py r bx bx' (.fix l) (.fix l')=EX r bx bx' l l':=rfl
theorem Ll {e s n e' s' n':Nat} {f f':Nat→Nat→PV}:Py r bx bx' (.arr e s n f) (.arr e' s' n' f')=(e=e'∧s=s'∧n=n'∧(f=f'∨∀ i,i<n→∀ j,j<s→PV.le (f i j) (f' i j))):=rfl
def Ph (bx bx':Nat→Option Bx) (r:Nat→Option Nat) (y:Option Bx) (x:Bx):Prop:=match y with
 | some y=>Py r bx bx' y x
 | none=>False
def NW (r:Nat→Option Nat) (bx bx':Nat→Option Bx) (k:Option Nat) (x:Bx):Prop:=match k with
 | some k=>Ph bx bx' r (bx k) x
 | none=>match x with
  | .arr _ s n _=>n=0∧0<s
  | _=>False
theorem HY {i:Nat} {x:Bx}:fI r bx bx' i x=NW r bx bx' (r i) x:=by
 unfold fI NW
 cases r i with
 | some k =>
  simp only [Ph]
  cases hk:bx k with
  | some y=>simp
  | none=>simp
 | none =>
  cases x with
  | fix=>simp
  | arr e s n f =>
   simp only [Bx.arr.injEq]
   exact propext ⟨fun ⟨_,_,_,⟨_,h1,h2,_⟩,h3⟩=>⟨h2,h1 ▸ h3⟩,fun ⟨h1,h2⟩=>⟨e,s,f,⟨rfl,rfl,h1,rfl⟩,h2⟩⟩
theorem Fi {k:Nat} {x:Bx}:NW r bx bx' (some k) x=Ph bx bx' r (bx k) x:=rfl
theorem GW {e s n:Nat} {f:Nat→Nat→PV}:NW r bx bx' none (.arr e s n f)=(n=0∧0<s):=rfl
theorem Fp {y x:Bx}:Ph bx bx' r (some y) x=Py r bx bx' y x:=rfl
end
theorem GL {nx:Nat}:(∀ x:BV,x ∈ ([]:List BV)→BV.lt nx x)=True:=by simp
theorem Cz {nx:Nat} {a:BV} {l:List BV}:(∀ x:BV,x ∈ a :: l→BV.lt nx x)=(BV.lt nx a∧∀ x:BV,x ∈ l→BV.lt nx x):=by simp
attribute [go_sem] GL Cz
attribute [go_sem] SS Qe SX PW UF OX Hm Tt NZ ML Iq Mh Lk KI Mi Mo
attribute [go_sem ↓] IU
attribute [go_sem] Me Ms Nj Mn jO Jf Hd Iy FK PH sX Pw Nb Pg JX OA Mx MV ME Pe OS NH JQ Fm HL Gr NA Oc Ll HY Fi GW Fp
end Go.SL
namespace Go.SL
open Go
section
variable {S:Env} {ops:Array Oper} {rest:List Oper} {st:St} {K:St→Prop} {d:Option Nat} {ty:TypeId} {pos:String} {af:Array Edge} {j:Nat} {want g:Bool} {op:Go.Op}
theorem Fk {nx : Nat} {K1 : SV → Prop} {y : Option (Prop × SV)} (x : BV) (hy : y = none) (hro : ro S st.bx (st.ev S) op = none) (hx : x.lt st.nx) (hg : iP st ((ops[j]?).bind (·.dst)) want = some g)
  (h1:g=true→aZ S ops (⟨d,op,ty,pos,af,none⟩ :: rest) st K) (h2:g=false→aZ S ops rest (st.set d (.grd g x)) K) :
  rg (some g) nx y (Sl.of K1) (Sl.of (aZ S ops (⟨d,op,ty,pos,af,some (j,want)⟩ :: rest) st K)):=by
 have key:aZ S ops (⟨d,op,ty,pos,af,some (j,want)⟩ :: rest) st K:=by
  simp only [aZ,eP,hg,hro]
  cases g with
  | true=>exact .inl ⟨fun _=>by have:=h1 rfl;simpa only [aZ,eP,jo,hro] using this,fun h=>by cases h⟩
  | false=>exact .inr ⟨x,hx,(fun h=>by cases h),h2 rfl⟩
 subst hy
 exact key
variable {f:FuncId} {args args':List BV} {c:Prop} {X:BV}
theorem Du (hg:g=true) (hc:c) (h:aF S f args' (fun r=>r = .b X)) (ha:fZ (args.map (dp st.bx)) args') (hl:gO args') (hf:X.flat) (hk:K (st.set d (.b X))) (hp:S.rcv (f+1000000)=false:=by rfl):To (some g) c S st f args d (Sl.of K) :=
 .inl ⟨fun _=>⟨hc, .lend args' _ h ha (cG hl) hf hk hp⟩,fun h=>by rw [hg] at h;cases h⟩
theorem Fh (X:BV) (hg:g=false) (hx:X.lt st.nx) (hk:K (st.set d (.grd g X))):To (some g) c S st f args d (Sl.of K) :=
 .inr ⟨X,hx,(fun h=>by rw [hg] at h;cases h),hk⟩
end
theorem St.ite_t {s1 s2:St}:St.ite true s1 s2=s1:=rfl
theorem St.ite_f {s1 s2:St}:St.ite false s1 s2=s2:=rfl
section
variable {S:Env} {st:St} {f:FuncId} {K:SV→St→Prop} {Q:AExit→St→Prop}
theorem aA {P:St→Prop} {c:Code} (h:∀ s,cw S c Q s→P s) (h2:cw S c Q st):P st:=h _ h2
theorem cd {id:Nat} {l:List Oper} {y:Code} (h:∀ K:St→Prop,(∀ s s',Le s s'→cw S y Q s'→K s)→aZ S l.toArray l st K):cw S (.seq (.region id l.toArray false) y) Q st :=
 Jt fun K _ hW=>h K hW
theorem ft {c:Operand} {x y z:Code} {t:Bool} (hc:st.ev S c = .t t) (ht:t=true) (h:cw S (.seq x z) Q st):cw S (.seq (.cond c x y) z) Q st:=xG hc (fun _=>h) (fun h=>by rw [ht] at h;cases h)
theorem gZ {c:Operand} {x y z:Code} {t:Bool} (hc:st.ev S c = .t t) (ht:t=false) (h:cw S (.seq y z) Q st):cw S (.seq (.cond c x y) z) Q st:=xG hc (fun h=>by rw [ht] at h;cases h) (fun _=>h)
theorem jB {c:Operand} {x y:Code} {t:Bool} (hc:st.ev S c = .t t) (ht:t=true) (h:cw S x Q st):cw S (.cond c x y) Q st:=lK hc (fun _=>h) (fun h=>by rw [ht] at h;cases h)
theorem iz {c:Operand} {x y:Code} {t:Bool} (hc:st.ev S c = .t t) (ht:t=false) (h:cw S y Q st):cw S (.cond c x y) Q st:=lK hc (fun h=>by rw [ht] at h;cases h) (fun _=>h)
end
def CE (k:IntKind) (a b:Int):Int:=k.wrap (BitVec.ofInt k.bits a &&& BitVec.ofInt k.bits b).toNat
def PA (k:IntKind) (a b:Int):Int:=k.wrap (BitVec.ofInt k.bits a ||| BitVec.ofInt k.bits b).toNat
def VR (k:IntKind) (a b:Int):Int:=k.wrap (BitVec.ofInt k.bits a ^^^ BitVec.ofInt k.bits b).toNat
theorem OJ {k:IntKind} {a b:Int}:k.wrap (BitVec.ofInt k.bits a &&& BitVec.ofInt k.bits b).toNat=CE k a b:=rfl
theorem Sw {k:IntKind} {a b:Int}:k.wrap (BitVec.ofInt k.bits a ||| BitVec.ofInt k.bits b).toNat=PA k a b:=rfl
theorem Mb {k:IntKind} {a b:Int}:k.wrap (BitVec.ofInt k.bits a ^^^ BitVec.ofInt k.bits b).toNat=VR k a b:=rfl
attribute [go_sem ↓] OJ Sw Mb
theorem Mk {p:Prop} [Decidable p] {f g:Nat→Nat→PV} {i j:Nat}:(if p then f else g) i j=if p then f i j else g i j:=by split <;> rfl
attribute [go_sem] Mk
end Go.SL
namespace Go.SL
open Go
def Dn (c:Nat):SV→Prop
 | .b (.c (.ptr id _))=>c=1∨c=4+id
 | .b (.c (.pel _ _ _ _))=>c=2
 | .b (.c (.ipt _ _ _))=>c=3
 | _=>False
def ir:List (Nat × Nat)→St→Prop
 | [],_=>True
 | (t,c) :: r,s=>Dn c (s.fr t)∧ir r s
def yF:List (Nat × Nat)→Nat
 | []=>0
 | (_,c) :: r=>max (c - 3) (yF r)
def qk:List (Nat × Nat)→Nat→Nat
 | [],_=>0
 | (t,c) :: r,s=>if s=t then c else qk r s
theorem Pu {t:Nat}:∀ {l:List (Nat × Nat)},qk l t - 3≤yF l
 | []=>Nat.zero_le _
 | (k,c) :: r=>by
  unfold qk yF
  split
  ·omega
  ·have:=Pu (t:=t) (l:=r)
   omega
theorem lE {s:St} {t:Nat}:∀ {l:List (Nat × Nat)},ir l s→qk l t≠0→Dn (qk l t) (s.fr t)
 | [],_,h=>absurd rfl h
 | (k,c) :: r,h,hn=>by
  unfold qk at hn ⊢
  split
  ·rename_i e;subst e;exact h.1
  ·rename_i e
   rw [if_neg e] at hn
   exact lE h.2 hn
section
variable {S:Env} {ops:Array Oper} {st s1 s2 s':St}
theorem Ea {o:Oper} {t:Nat} (h:Ex S ops st o s') (hd:o.dst≠some t):s'.fr t=st.fr t:=by
 obtain ⟨v1,b1,n1,rfl,_⟩:=gC h
 rw [dZ]
 simp only
 rw [if_neg fun e=>hd e.symm]
theorem yb {t:Nat}:∀ {l:List Oper} {st s':St},LG S ops l st s'→(∀ o ∈ l,o.dst≠some t)→s'.fr t=st.fr t
 | [],_,_,h,_=>by rw [show _=_ from h]
 | o :: r,st,s',⟨s,h1,h2⟩,hd=>(yb h2 fun x hx=>hd x (List.mem_cons_of_mem _ hx)).trans (Ea h1 (hd o (List.mem_cons_self ..)))
theorem sK {x y : Oper} {d p q : Nat} {t t' : TypeId} {vop : Operand} (hx : x.op = .load t (.tmp q)) (hxd : x.dst = some d) (hxg : x.guard = none)
  (hy:y.op = .store t' (.tmp p) vop) (hyd:y.dst=none) (hyg:y.guard=none) (hdp:d≠p) (hdv:vop ≠ .tmp d) {c c':Nat} (hp:Dn c (st.fr p)) (hq:Dn c' (st.fr q)) (hc:c=2∧(c'=1∨c'=3))
  (h1:Ex S ops st x s1) (h2:Ex S ops s1 y s2):∃ s3,Ex S ops st y s3∧Ex S ops s3 x s2:=by
 obtain ⟨rfl,hc⟩:=hc
 obtain ⟨idp,szp,ip,offp,hpv⟩:∃ id sz i off,st.fr p = .b (.c (.pel id sz i off)):=by
  unfold Dn at hp
  split at hp
  ·omega
  ·exact ⟨_,_,_,_,by assumption⟩
  ·cases hp
  ·cases hp
 have e1:s1=st.set (some d) (s1.fr d)∧s1.bx=st.bx∧s1.nx=st.nx:=by
  obtain ⟨v,b,n,rfl,hb,_⟩:=gC h1
  have:vQ S.rcv x≤1:=by simp [vQ,dE,hx]
  obtain ⟨rfl,rfl⟩:=hb this
  rw [hxd]
  refine ⟨?_,dX,mj⟩
  simp [St.set]
 have hev:∀ z:Operand,z ≠ .tmp d→s1.ev S z=st.ev S z:=fun z hz=>by
  rw [e1.1]
  cases z with
  | tmp k=>simp only [St.ev,St.set];rw [if_neg (fun e=>hz (by rw [e]))]
  | _=>rfl
 have hvp:s1.ev S (.tmp p)=st.ev S (.tmp p):=hev _ (fun e=>hdp (by cases e;rfl))
 have hvv:=hev vop hdv
 have hro:∀ b ev,ro S b ev (.store t' (.tmp p) vop)=none:=fun _ _=>rfl
 unfold Ex eP at h2
 rw [hyg] at h2
 simp only [jo,hy,hro,hyd] at h2
 obtain ⟨hcond,h2⟩:=h2
 simp only [Op.operands] at hcond
 have hev1:(st.ev S (.tmp p)).strip = .b (.c (.pel idp szp ip offp)):=by simp [St.ev,hpv,SV.strip]
 simp only [dk,hvp,hvv,hev1,e1.2.1] at h2
 split at h2
 ·rename_i q1 _ _;cases q1
 ·rename_i id s i off v sz ag q1 q2 q3
  cases q1
  split at h2
  ·rename_i e s' n f hb
   obtain ⟨hvc,h2⟩:=h2
   refine ⟨st.setBox idp (.arr e s' n fun i' j=>if i'=ip then (if offp≤j∧j<offp+sz then (v.cells.getD (j - offp) .any).toP else f ip j) else f i' j), ?_, ?_⟩
   ·unfold Ex eP
    rw [hyg]
    simp only [jo,hy,hro,hyd]
    refine ⟨?_, ?_⟩
    ·simp only [Op.operands]
     simpa only [Op.operands,List.map_cons,List.map_nil,hvp,hvv] using hcond
    ·simp only [dk,hev1,q2,q3,hb]
     exact ⟨hvc,rfl⟩
   ·subst h2
    unfold Ex eP at h1 ⊢
    rw [hxg] at h1 ⊢
    simp only [jo,hx,nr] at h1 ⊢
    have hload:∀ r,rc (dj S t st.bx (st.ev S (.tmp q)).strip) (st.ev S (.tmp q)).cond=some r→rc (dj S t (st.setBox idp (.arr e s' n fun i' j=>if i'=ip then (if offp≤j∧j<offp+sz then (v.cells.getD (j - offp) .any).toP else f ip j) else f i' j)).bx (st.ev S (.tmp q)).strip) (st.ev S (.tmp q)).cond=some r:=fun r hr=>by
     unfold Dn at hq
     simp only [St.ev] at hr ⊢
     split at hq
     ·rename_i id2 off2 hqv
      rw [hqv] at hr ⊢
      simp only [SV.strip,SV.cond,dj,St.setBox] at hr ⊢
      by_cases hid:id2=idp
      ·subst hid
       rw [hb] at hr
       simp [rc] at hr
      ·rw [if_neg hid];exact hr
     ·subst hq;omega
     ·rename_i hqv
      rw [hqv] at hr ⊢
      exact hr
     ·exact hq.elim
    cases hr:rc (dj S t st.bx (st.ev S (.tmp q)).strip) (st.ev S (.tmp q)).cond with
    | none=>rw [hr] at h1;simp only [dk] at h1;exact h1.2.elim
    | some r =>
     rw [hr] at h1
     have:=hload r hr
     rw [show (St.ev S (st.setBox idp (.arr e s' n fun i' j=>if i'=ip then (if offp≤j∧j<offp+sz then (v.cells.getD (j - offp) .any).toP else f ip j) else f i' j)) (.tmp q))=st.ev S (.tmp q) from rfl,this]
     refine ⟨h1.1, ?_⟩
     rw [← h1.2,hxd]
     rfl
  ·exact h2.elim
 ·exact h2.elim
theorem qU {x y : Oper} {d p q : Nat} {t t' : TypeId} {vop : Operand} (hx : x.op = .load t (.tmp q)) (hxd : x.dst = some d) (hxg : x.guard = none)
  (hy:y.op = .store t' (.tmp p) vop) (hyd:y.dst=none) (hyg:y.guard=none) (hdp:d≠p) (hdv:vop ≠ .tmp d) {c c':Nat} (hp:Dn c (st.fr p)) (hq:Dn c' (st.fr q)) (hc:4≤c∧4≤c'∧c≠c')
  (h1:Ex S ops st x s1) (h2:Ex S ops s1 y s2):∃ s3,Ex S ops st y s3∧Ex S ops s3 x s2:=by
 obtain ⟨hc1,hc2,hc3⟩:=hc
 obtain ⟨idp,offp,hpv,rfl⟩:∃ id off,st.fr p = .b (.c (.ptr id off))∧c=4+id:=by
  unfold Dn at hp
  split at hp
  ·exact ⟨_,_,by assumption,by omega⟩
  ·omega
  ·omega
  ·cases hp
 obtain ⟨idq,offq,hqv,rfl⟩:∃ id off,st.fr q = .b (.c (.ptr id off))∧c'=4+id:=by
  unfold Dn at hq
  split at hq
  ·exact ⟨_,_,by assumption,by omega⟩
  ·omega
  ·omega
  ·cases hq
 have e1:s1=st.set (some d) (s1.fr d)∧s1.bx=st.bx∧s1.nx=st.nx:=by
  obtain ⟨v,b,n,rfl,hb,_⟩:=gC h1
  have:vQ S.rcv x≤1:=by simp [vQ,dE,hx]
  obtain ⟨rfl,rfl⟩:=hb this
  rw [hxd]
  refine ⟨?_,dX,mj⟩
  simp [St.set]
 have hev:∀ z:Operand,z ≠ .tmp d→s1.ev S z=st.ev S z:=fun z hz=>by
  rw [e1.1]
  cases z with
  | tmp k=>simp only [St.ev,St.set];rw [if_neg (fun e=>hz (by rw [e]))]
  | _=>rfl
 have hvp:s1.ev S (.tmp p)=st.ev S (.tmp p):=hev _ (fun e=>hdp (by cases e;rfl))
 have hvv:=hev vop hdv
 have hro:∀ b ev,ro S b ev (.store t' (.tmp p) vop)=none:=fun _ _=>rfl
 unfold Ex eP at h2
 rw [hyg] at h2
 simp only [jo,hy,hro,hyd] at h2
 obtain ⟨hcond,h2⟩:=h2
 simp only [Op.operands] at hcond
 have hev1:(st.ev S (.tmp p)).strip = .b (.c (.ptr idp offp)):=by simp [St.ev,hpv,SV.strip]
 simp only [dk,hvp,hvv,hev1,e1.2.1] at h2
 split at h2
 ·rename_i id off v sz ag q1 q2 q3
  cases q1
  split at h2
  ·rename_i cs hb
   obtain ⟨hvc,h2⟩:=h2
   refine ⟨st.setBox idp (.fix (jw cs offp v.cells)), ?_, ?_⟩
   ·unfold Ex eP
    rw [hyg]
    simp only [jo,hy,hro,hyd]
    refine ⟨?_, ?_⟩
    ·simp only [Op.operands]
     simpa only [Op.operands,List.map_cons,List.map_nil,hvp,hvv] using hcond
    ·simp only [dk,hev1,q2,q3,hb]
     exact ⟨hvc,rfl⟩
   ·subst h2
    unfold Ex eP at h1 ⊢
    rw [hxg] at h1 ⊢
    simp only [jo,hx,nr] at h1 ⊢
    have hload:∀ r,rc (dj S t st.bx (st.ev S (.tmp q)).strip) (st.ev S (.tmp q)).cond=some r→rc (dj S t (st.setBox idp (.fix (jw cs offp v.cells))).bx (st.ev S (.tmp q)).strip) (st.ev S (.tmp q)).cond=some r:=fun r hr=>by
     simp only [St.ev] at hr ⊢
     rw [hqv] at hr ⊢
     simp only [SV.strip,SV.cond,dj,St.setBox] at hr ⊢
     rw [if_neg (by omega)];exact hr
    cases hr:rc (dj S t st.bx (st.ev S (.tmp q)).strip) (st.ev S (.tmp q)).cond with
    | none=>rw [hr] at h1;simp only [dk] at h1;exact h1.2.elim
    | some r =>
     rw [hr] at h1
     have:=hload r hr
     rw [show (St.ev S (st.setBox idp (.fix (jw cs offp v.cells))) (.tmp q))=st.ev S (.tmp q) from rfl,this]
     refine ⟨h1.1, ?_⟩
     rw [← h1.2,hxd]
     rfl
  ·exact h2.elim
 ·rename_i q1 _ _;cases q1
 ·exact h2.elim
def gS (lb:Nat) (st:St):Prop:=(∀ i,st.nx≤i→st.bx i=none)∧lb≤st.nx
theorem gS.set {lb:Nat} {st:St} (h:gS lb st) (d:Option Nat) (v:SV):gS lb (st.set d v) :=
 ⟨fun i hi=>by rw [dX];rw [mj] at hi;exact h.1 i hi,by rw [mj];exact h.2⟩
theorem gS.newBox {lb:Nat} {st:St} (h:gS lb st) (x:Bx):gS lb (st.newBox x):=⟨fun i hi=>by
 simp only [St.newBox] at hi ⊢
 rw [if_neg (by omega)];exact h.1 i (by omega),Nat.le_succ_of_le h.2⟩
theorem gS.newBoxO {lb:Nat} {st:St} (h:gS lb st) (x:Option Bx):gS lb (st.newBoxO x):=⟨fun i hi=>by
 have hi:st.nx+1≤i:=hi
 show (if i=st.nx then x else st.bx i)=none
 rw [if_neg (by omega)]
 exact h.1 i (by omega),Nat.le_trans h.2 (Nat.le_succ _)⟩
theorem gS.delBox {lb:Nat} {st:St} (h:gS lb st) (id:Nat):gS lb (st.delBox id):=⟨fun i hi=>by
 simp only [St.delBox] at hi ⊢
 split
 ·rfl
 ·exact h.1 i hi,h.2⟩
theorem gS.setBox {lb:Nat} {st:St} (h:gS lb st) {id:Nat} {y:Bx} (hb:st.bx id=some y) (x:Bx):gS lb (st.setBox id x):=⟨fun i hi=>by
 simp only [St.setBox] at hi ⊢
 split
 ·rename_i e
  subst e
  rw [h.1 i hi] at hb;cases hb
 ·exact h.1 i hi,h.2⟩
theorem BM {lb:Nat} {f:FuncId} {args:List BV} {K:SV→St→Prop} (h:CallP S st f args K) (w:gS lb st):∃ r s',K r s'∧gS lb s':=by
 cases h with
 | pure args' X h ha hl hk=>exact ⟨_,_,hk,w⟩
 | ext args' X h ha hl hk=>exact ⟨_,_,hk,w⟩
 | lend args' X h ha hl hf hk=>exact ⟨_,_,hk,w⟩
 | recv id off cs0 cs rest args' X Y h he hb hoff hcs ha hl hr hy hk=>exact ⟨_,_,hk,w.setBox hb _⟩
 | recvEl id sz i e n g cs rest args' X Y h he hb hi hsz hcs ha hl hr hy hk=>exact ⟨_,_,hk,w.setBox hb _⟩
 | inl X bx' nx' h hr hw hk hn=>exact ⟨_,_,hk,hw,Nat.le_trans w.2 hn⟩
 | own args' e sz n g h ha hl hr hk=>exact ⟨_,_,hk,w.newBox _⟩
theorem Sq {lb:Nat} {ev:Operand→SV} {op:Op} {K:SV→St→Prop} (h:dk S st ev op K) (w:gS lb st):∃ r s',K r s'∧gS lb s':=by
 cases op with
 | build t parts =>
  simp only [dk] at h
  split at h
  ·split at h
   ·exact ⟨_,_,h.2,w⟩
   ·exact h.elim
  ·exact h.elim
 | alloc t =>
  simp only [dk] at h
  split at h
  ·exact ⟨_,_,h,w.newBox _⟩
  ·exact h.elim
 | box t x =>
  simp only [dk] at h
  split at h
  ·exact ⟨_,_,h.2,w.newBox _⟩
  ·exact h.elim
 | buildSlice t len parts =>
  simp only [dk] at h
  split at h
  ·split at h
   ·split at h
    ·exact ⟨_,_,h.2,w.newBox _⟩
    ·exact h.elim
   ·exact h.elim
  ·exact h.elim
 | store t p x =>
  simp only [dk] at h
  split at h
  ·split at h
   ·rename_i hb
    exact ⟨_,_,h.2,w.setBox hb _⟩
   ·exact h.elim
  ·split at h
   ·rename_i hb
    exact ⟨_,_,h.2,w.setBox hb _⟩
   ·exact h.elim
  ·exact h.elim
 | makeSlice t l c =>
  simp only [dk] at h
  split at h
  ·split at h
   ·exact ⟨_,_,h.2,w.newBoxO _⟩
   ·exact h.elim
  ·exact h.elim
 | call c =>
  simp only [dk] at h
  split at h
  ·split at h
   ·split at h
    ·exact ⟨_,_,h.2,w.newBox _⟩
    ·split at h
     ·exact ⟨_,_,h.2,(w.delBox _).newBox _⟩
     ·exact h.elim
    ·exact h.elim
   ·exact h.elim
  ·split at h
   ·split at h
    ·rename_i hb
     exact ⟨_,_,h.2,w.setBox hb _⟩
    ·exact h.elim
   ·exact h.elim
  ·exact BM h w
  ·split at h
   ·exact BM h w
   ·exact h.elim
  ·exact h.elim
 | _=>exact h.elim
theorem Jg {lb:Nat} {o:Oper} {K:St→Prop} (h:jo S st o K) (w:gS lb st):∃ s',K s'∧gS lb s':=by
 unfold jo at h
 split at h
 ·exact ⟨_,h.2,w.set _ _⟩
 ·obtain ⟨r,s',hk,hw⟩:=Sq h.2 w
  exact ⟨_,hk,hw.set _ _⟩
theorem rz {lb:Nat} {o:Oper} (h:Ex S ops st o s') (w:gS lb st):gS lb s':=by
 unfold Ex eP at h
 split at h
 ·obtain ⟨s,rfl,hw⟩:=Jg h w
  exact hw
 ·split at h
  ·rename_i g hg
   split at h
   ·rw [← h.2.2];exact w.set _ _
   ·rw [← h.2.2];exact w.set _ _
   ·rcases h with h|⟨x,_,_,h⟩
    ·cases g with
     | true =>
      obtain ⟨s,rfl,hw⟩:=Jg (h.1 rfl) w
      exact hw
     | false=>rw [← h.2 rfl];exact w.set _ _
    ·rw [← h];exact w.set _ _
  ·exact h.elim
def ta (rcv:Nat→Bool) (o:Oper):Bool:=o.guard.isNone && match o.op with
 | .alloc _=>true
 | .box _ _=>true
 | .buildSlice _ _ _=>true
 | .makeSlice _ _ _=>true
 | .call c=>match c.callee with
  | .value (.func f) => !rcv f && rcv (f+2000000)
  | _=>false
 | _=>false
theorem Bb {o:Oper} (ha:ta S.rcv o=true) (h:Ex S ops st o s'):∀ i,i≠st.nx→s'.bx i=st.bx i:=by
 intro i hi
 simp only [ta,Bool.and_eq_true,Option.isNone_iff_eq_none] at ha
 obtain ⟨hg,ha⟩:=ha
 unfold Ex eP at h
 rw [hg] at h
 simp only [jo] at h
 split at ha
 ·rename_i t ho
  rw [ho] at h
  simp only [show ro S st.bx (st.ev S) (.alloc t)=none from rfl,dk] at h
  split at h
  ·rw [← h.2];simp [St.newBox,dX,hi]
  ·exact h.2.elim
 ·rename_i t x ho
  rw [ho] at h
  simp only [show ro S st.bx (st.ev S) (.box t x)=none from rfl,dk] at h
  split at h
  ·rw [← h.2.2];simp [St.newBox,dX,hi]
  ·exact h.2.elim
 ·rename_i t l ps ho
  rw [ho] at h
  simp only [show ro S st.bx (st.ev S) (.buildSlice t l ps)=none from rfl,dk] at h
  split at h
  ·split at h
   ·split at h
    ·rw [← h.2.2];simp [St.newBox,dX,hi]
    ·exact h.2.elim
   ·exact h.2.elim
  ·exact h.2.elim
 ·rename_i t l c ho
  rw [ho] at h
  simp only [show ro S st.bx (st.ev S) (.makeSlice t l c)=none from rfl,dk] at h
  split at h
  ·split at h
   ·rw [← h.2.2];simp [St.newBoxO,dX,hi]
   ·exact h.2.elim
  ·exact h.2.elim
 ·rename_i c ho
  obtain ⟨cal,⟨al⟩,⟨tl⟩⟩:=c
  simp only at ha
  split at ha
  ·rename_i f
   rw [ho] at h
   simp only [Bool.and_eq_true,Bool.not_eq_true'] at ha
   have hro:ro S st.bx (st.ev S) (.call ⟨.value (.func f),⟨al⟩,⟨tl⟩⟩)=none:=by simp [ro,bj]
   rw [hro] at h
   have h2:=h.2
   unfold dk at h2
   simp only at h2
   cases h2 with
   | pure args' X h ha2 hl hk=>rw [← hk,dX]
   | ext args' X h ha2 hl hk=>rw [← hk,dX]
   | lend args' X h ha2 hl hf hk hp=>rw [← hk,dX]
   | recv id off cs0 cs rest args' X Y h he hb hoff hcs ha2 hl hr hy hk=>rw [ha.1] at hr;cases hr
   | recvEl id sz i e n g cs rest args' X Y h he hb hi hsz hcs ha2 hl hr hy hk=>rw [ha.1] at hr;cases hr
   | inl X bx' nx' h hr hw hk hn=>rw [ha.1] at hr;cases hr
   | own args' e sz n g h ha2 hl hr hk=>rw [← hk,dX];simp [St.newBox,hi]
  ·cases ha
 ·cases ha
def ya (o:Oper):Bool:=o.guard.isNone && match o.op with
 | .load _ _=>true
 | _=>false
def pF (rcv:Nat→Bool) (ops:Array Oper) (x y:Oper):Bool :=
 (match x.dst with|some d => !(cg ops y).contains d|none=>true) && (match y.dst with|some d => !(cg ops x).contains d|none=>true) &&
 (match x.dst,y.dst with|some d,some e=>d != e|_,_=>true) && ya x && ta rcv y
theorem Eg {t:TypeId} {b b':Nat→Option Bx} {v:SV} {r:Prop × SV} (h:dj S t b v=some r) (hb:∀ i y,b i=some y→b' i=some y):dj S t b' v=some r:=by
 unfold dj at h ⊢
 split
 ·rename_i id off
  simp only at h
  split at h
  ·rename_i h1 h2;rw [hb _ _ h1,h2];exact h
  ·rename_i h1 h2;rw [hb _ _ h1,h2];exact h
  ·cases h
 ·rename_i id sz i off
  simp only at h
  split at h
  ·rename_i h1 h2;rw [hb _ _ h1,h2];exact h
  ·rename_i h1 h2;rw [hb _ _ h1,h2];exact h
  ·cases h
 ·exact h
 ·simp_all
theorem iY {lb:Nat} {x y:Oper} (hi:pF S.rcv ops x y=true) (w:gS lb st) (h1:Ex S ops st x s1) (h2:Ex S ops s1 y s2):∃ s3,Ex S ops st y s3∧Ex S ops s3 x s2:=by
 simp only [pF,Bool.and_eq_true] at hi
 obtain ⟨⟨⟨⟨hxy,hyx⟩,hdd⟩,hl⟩,ha⟩:=hi
 have hab:=Bb ha h2
 simp only [ya,Bool.and_eq_true,Option.isNone_iff_eq_none] at hl
 obtain ⟨hxg,hl⟩:=hl
 split at hl
 case h_2=>cases hl
 rename_i t q hxo
 obtain ⟨v1,b1,n1,e1,k1,p1,z1⟩:=gC h1
 have hc1:vQ S.rcv x≤1:=by simp [vQ,dE,hxo]
 obtain ⟨rfl,rfl⟩:=k1 hc1
 obtain ⟨v2,b2,n2,e2,k2,p2,z2⟩:=gC h2
 have hs1:s1.bx=st.bx∧s1.nx=st.nx:=by rw [e1];exact ⟨dX,mj⟩
 have ag1:∀ t ∈ cg ops y,s1.fr t=st.fr t:=by
  rw [e1];exact gy (nx':=0) (bx':=st.bx) hxy
 have q2:=p2 st ag1 hs1.1.symm hs1.2.symm
 refine ⟨_,q2, ?_⟩
 have comm:s2=St.set (St.set ⟨st.fr,b2,n2,st.kf⟩ y.dst v2) x.dst v1:=by
  rw [e2,e1]
  simp only [dZ,St.mk.injEq,and_true]
  funext s
  by_cases c1:some s=x.dst
  ·by_cases c2:some s=y.dst
   ·rw [← c1,← c2] at hdd
    simp at hdd
   ·rw [if_neg c2,if_pos c1,if_pos c1]
  ·by_cases c2:some s=y.dst
   ·rw [if_pos c2,if_neg c1,if_pos c2]
   ·rw [if_neg c2,if_neg c1,if_neg c1,if_neg c2]
 have hbx:∀ i y',st.bx i=some y'→b2 i=some y':=fun i y' hi=>by
  have hne:i≠s1.nx:=by
   rw [hs1.2]
   intro e
   have:=w.1 i (by omega)
   rw [this] at hi;cases hi
  have:=hab i hne
  rw [e2,dX,hs1.1] at this
  exact this.trans hi
 have ag2:∀ t ∈ cg ops x,(St.set ⟨st.fr,b2,n2,st.kf⟩ y.dst v2).fr t=st.fr t:=gy (nx':=0) (bx':=st.bx) hyx
 have hevq:(St.set ⟨st.fr,b2,n2,st.kf⟩ y.dst v2).ev S q=st.ev S q :=
  (du (S:=S) (ops:=ops) (o:=x) (fun t ht=>(ag2 t ht).symm) q (by rw [hxo];simp [Op.operands])).symm
 unfold Ex eP at h1 ⊢
 rw [hxg] at h1 ⊢
 simp only [jo,hxo,nr] at h1 ⊢
 rw [hevq,dX]
 cases hr:dj S t st.bx (st.ev S q).strip with
 | none=>rw [hr] at h1;simp only [rc,dk] at h1;exact h1.2.elim
 | some r =>
  rw [hr] at h1
  rw [Eg hr hbx]
  obtain ⟨r1,r2⟩:=r
  simp only [rc] at h1 ⊢
  refine ⟨h1.1, ?_⟩
  rw [comm]
  have hv:∀ d,x.dst=some d→r2=v1:=fun d hd=>by
   have:=congrArg (fun s:St=>s.fr d) (h1.2.trans e1)
   simpa [hd,St.set] using this
  cases hd:x.dst with
  | none=>rfl
  | some d=>rw [hv d hd]
def UC (kl:List (Nat × Nat)) (ops:Array Oper) (mi:Nat) (j i:Nat) (x y:Oper):Bool :=
 match x.op,y.op,x.dst with
 | .load _ (.tmp q), .store _ (.tmp p) vop,some d =>
  x.guard.isNone && y.guard.isNone && y.dst.isNone && d != p && d != q && (match vop with | .tmp e=>e != d|_=>true) && ((Nat.beq (qk kl p) 2 && (Nat.beq (qk kl q) 1 || Nat.beq (qk kl q) 3)) || (Nat.ble 4 (qk kl p) && Nat.ble 4 (qk kl q) && qk kl p != qk kl q)) &&
   (List.range ops.size).all fun k=>Nat.ble k j || (match ops[k]? with
    | some z=>z.dst != some q && (z.dst != some p || (Nat.blt k i && mi.testBit k))
    | none=>true)
 | _,_,_=>false
def NL (rcv:Nat→Bool) (kl:List (Nat × Nat)) (ops:Array Oper) (x y:Oper):Bool :=
 (match x.dst with|some d => !(cg ops y).contains d|none=>true) && (match y.dst with|some d => !(cg ops x).contains d|none=>true) &&
 (match x.dst,y.dst with|some d,some e=>d != e|_,_=>true) && ta rcv x && (match y.op with
 | .load _ (.tmp q)=>y.guard.isNone && Nat.ble 4 (qk kl q) && (List.range ops.size).all fun k=>match ops[k]? with
  | some z=>z.dst != some q
  | none=>true
 | _=>false)
theorem sH {kl : List (Nat × Nat)} {x y : Oper} {t : TypeId} {q id off : Nat} (hi : NL S.rcv kl ops x y = true) (hyo : y.op = .load t (.tmp q)) (hyg : y.guard = none) (hq : st.fr q = .b (.c (.ptr id off))) (hid : id < st.nx)
  (h1:Ex S ops st x s1) (h2:Ex S ops s1 y s2):∃ s3,Ex S ops st y s3∧Ex S ops s3 x s2:=by
 simp only [NL,Bool.and_eq_true] at hi
 obtain ⟨⟨⟨⟨hxy,hyx⟩,hdd⟩,ha⟩,_⟩:=hi
 have hab:=Bb ha h1
 obtain ⟨v1,b1,n1,e1,k1,p1,z1⟩:=gC h1
 obtain ⟨v2,b2,n2,e2,k2,p2,z2⟩:=gC h2
 have hc2:vQ S.rcv y≤1:=by simp [vQ,dE,hyo,hyg]
 obtain ⟨rfl,rfl⟩:=k2 hc2
 have hfrq:s1.fr q=st.fr q:=by
  rw [e1]
  refine gy (nx':=0) (bx':=st.bx) hxy q ?_
  simp [cg,hyo,Op.operands]
 have hload:rc (dj S t s1.bx (s1.ev S (.tmp q)).strip) (s1.ev S (.tmp q)).cond=rc (dj S t st.bx (st.ev S (.tmp q)).strip) (st.ev S (.tmp q)).cond:=by
  simp only [St.ev,hfrq,hq,SV.strip,SV.cond,dj,hab id (by omega)]
 have hy:Ex S ops st y (st.set y.dst v2):=by
  unfold Ex eP at h2 ⊢
  rw [hyg] at h2 ⊢
  simp only [jo,hyo,nr] at h2 ⊢
  rw [hload] at h2
  cases hr:rc (dj S t st.bx (st.ev S (.tmp q)).strip) (st.ev S (.tmp q)).cond with
  | none=>rw [hr] at h2;simp only [dk] at h2;exact h2.2.elim
  | some r =>
   rw [hr] at h2
   refine ⟨h2.1, ?_⟩
   have h3:s1.set y.dst r.2=St.set ⟨s1.fr,s1.bx,s1.nx,s1.kf⟩ y.dst v2:=h2.2.trans e2
   rw [dZ,dZ] at h3
   simp only [St.mk.injEq,and_true] at h3
   rw [dZ,dZ]
   simp only [St.mk.injEq,and_true]
   funext s
   have:=congrFun h3 s
   by_cases c1:some s=y.dst
   ·rw [if_pos c1,if_pos c1] at this
    rw [if_pos c1,if_pos c1,this]
   ·rw [if_neg c1,if_neg c1]
 refine ⟨_,hy, ?_⟩
 have ag:∀ t ∈ cg ops x,st.fr t=(st.set y.dst v2).fr t:=fun t ht=>(gy (fr:=st.fr) (kf:=st.kf) (nx':=0) (bx':=st.bx) (bx:=st.bx) (nx:=st.nx) hyx t ht).symm
 have:=p1 (st.set y.dst v2) ag dX mj
 have comm:s2=St.set ⟨(st.set y.dst v2).fr,b1,n1,(st.set y.dst v2).kf⟩ x.dst v1:=by
  rw [e2,e1]
  simp only [dZ,St.mk.injEq,and_true]
  funext s
  by_cases c1:some s=x.dst
  ·by_cases c2:some s=y.dst
   ·rw [← c1,← c2] at hdd
    simp at hdd
   ·rw [if_neg c2,if_pos c1,if_pos c1]
  ·by_cases c2:some s=y.dst
   ·rw [if_pos c2,if_neg c1,if_pos c2]
   ·rw [if_neg c2,if_neg c1,if_neg c1,if_neg c2]
 rw [comm]
 exact this
def qz (rcv:Nat→Bool) (ops:Array Oper) (m:Nat→Nat) (kl:List (Nat × Nat)):Bool :=
 (List.range ops.size).all fun i=>match ops[i]? with
  | none=>false
  | some o=>(o.after.all fun e => !Region.binds .any e || Nat.blt e.on i) &&
   (List.range i).all fun j=>match ops[j]? with
    | none=>false
    | some x=>(rL rcv ops x o || pF rcv ops x o || UC kl ops (m i) j i x o || NL rcv kl ops x o) || ((m i).testBit j)
theorem uE {m : Nat → Nat} {kl : List (Nat × Nat)} {i : Nat} {o : Oper} {l2 : List Nat} (hd : qz S.rcv ops m kl = true) (ho : ops[i]? = some o) (hlt : i < ops.size) : ∀ (l1 : List Nat) {st s' : St}, (l1 ++ i :: l2).Pairwise (· < ·) →
  (∀ k ∈ l1 ++ i :: l2,k<ops.size)→(∀ j ∈ l1,(m i).testBit j=false)→LG S ops (l1.map (fun i=>ops.getD i default) ++ o :: l2.map (fun i=>ops.getD i default)) st s'→ir kl s'→gS (yF kl) st →
  ∃ s,Ex S ops st o s∧LG S ops (l1.map (fun i=>ops.getD i default) ++ l2.map (fun i=>ops.getD i default)) s s'
 | [],_,_,_,_,_,h,_,_=>h
 | j :: l1,st,s',hp,hall,ht,⟨s,h1,h2⟩,hk,hwf=>by
  have hpc:=List.pairwise_cons.1 hp
  obtain ⟨s2,h3,h4⟩:=uE hd ho hlt l1 hpc.2 (fun k hk=>hall k (List.mem_cons_of_mem _ hk)) (fun k hk=>ht k (List.mem_cons_of_mem _ hk)) h2 hk (rz h1 hwf)
  have hji:j<i:=hpc.1 i (List.mem_append_right _ (List.mem_cons_self ..))
  have hjlt:j<ops.size:=hall j (List.mem_cons_self ..)
  have hx:ops[j]?=some (ops.getD j default):=by rw [Array.getD_eq_getD_getElem?,Array.getElem?_eq_getElem hjlt];rfl
  have d1:=List.all_eq_true.1 hd i (List.mem_range.2 hlt)
  rw [ho] at d1
  simp only [Bool.and_eq_true] at d1
  have d2:=List.all_eq_true.1 d1.2 j (List.mem_range.2 hji)
  rw [hx] at d2
  simp only [Bool.or_eq_true,ht j (List.mem_cons_self ..),Bool.false_eq_true,or_false] at d2
  have key:∃ s3,Ex S ops st o s3∧Ex S ops s3 (ops.getD j default) s2:=by
   rcases d2 with ((d2|d2)|d2)|d2
   ·exact sS d2 h1 h3
   ·exact iY d2 hwf h1 h3
   ·unfold UC at d2
    split at d2
    ·rename_i _ t q t' p vop d hxo hyo hxd
     simp only [Bool.and_eq_true,Nat.beq_eq,Nat.ble_eq,Bool.or_eq_true,bne_iff_ne,Option.isNone_iff_eq_none] at d2
     obtain ⟨⟨⟨⟨⟨⟨⟨g1,g2⟩,g3⟩,g4⟩,g5⟩,g6⟩,g7⟩,g9⟩:=d2
     have hw:∀ k,j<k→k<ops.size→(ops.getD k default).dst≠some q∧((ops.getD k default).dst≠some p∨(k<i∧(m i).testBit k=true)):=fun k hk1 hk2=>by
      have:=List.all_eq_true.1 g9 k (List.mem_range.2 hk2)
      rw [show ops[k]?=some (ops.getD k default) by rw [Array.getD_eq_getD_getElem?,Array.getElem?_eq_getElem hk2];rfl] at this
      simp only [Bool.or_eq_true,Nat.ble_eq,Bool.and_eq_true,bne_iff_ne] at this
      rcases this with h|h
      ·omega
      ·refine ⟨h.1,h.2.imp id fun h=>⟨?_,h.2⟩⟩
       have:=h.1
       simp [Nat.blt] at this
       omega
     have hq1:s'.fr q=s.fr q:=yb h2 fun z hz=>by
      rcases List.mem_append.1 hz with hz|hz
      ·obtain ⟨k,hk1,rfl⟩:=List.mem_map.1 hz
       exact (hw k (hpc.1 k (List.mem_append_left _ hk1)) (hall k (List.mem_cons_of_mem _ (List.mem_append_left _ hk1)))).1
      ·rcases List.mem_cons.1 hz with hz|hz
       ·subst hz;rw [g3];simp
       ·obtain ⟨k,hk1,rfl⟩:=List.mem_map.1 hz
        exact (hw k (hpc.1 k (List.mem_append_right _ (List.mem_cons_of_mem _ hk1))) (hall k (List.mem_cons_of_mem _ (List.mem_append_right _ (List.mem_cons_of_mem _ hk1))))).1
     have hp1:s'.fr p=s.fr p:=yb h2 fun z hz=>by
      rcases List.mem_append.1 hz with hz|hz
      ·obtain ⟨k,hk1,rfl⟩:=List.mem_map.1 hz
       rcases (hw k (hpc.1 k (List.mem_append_left _ hk1)) (hall k (List.mem_cons_of_mem _ (List.mem_append_left _ hk1)))).2 with h|h
       ·exact h
       ·rw [ht k (List.mem_cons_of_mem _ hk1)] at h;cases h.2
      ·rcases List.mem_cons.1 hz with hz|hz
       ·subst hz;rw [g3];simp
       ·obtain ⟨k,hk1,rfl⟩:=List.mem_map.1 hz
        rcases (hw k (hpc.1 k (List.mem_append_right _ (List.mem_cons_of_mem _ hk1))) (hall k (List.mem_cons_of_mem _ (List.mem_append_right _ (List.mem_cons_of_mem _ hk1))))).2 with h|h
        ·exact h
        ·have:=(List.pairwise_cons.1 (List.pairwise_append.1 hpc.2).2.1).1 k hk1
         omega
     have hp2:s.fr p=st.fr p:=Ea h1 (by rw [hxd];simpa using g4)
     have hq2:s.fr q=st.fr q:=Ea h1 (by rw [hxd];simpa using g5)
     have hpk:=lE hk (t:=p) (by omega)
     have hqk:=lE hk (t:=q) (by omega)
     rw [hp1,hp2] at hpk
     rw [hq1,hq2] at hqk
     have g6':vop ≠ .tmp d:=fun e=>by subst e;simp at g6
     rcases g7 with g7|g7
     ·rw [g7.1] at hpk
      exact sK hxo hxd g1 hyo g3 g2 (by simpa using g4) g6' hpk hqk ⟨rfl,g7.2⟩ h1 h3
     ·exact qU hxo hxd g1 hyo g3 g2 (by simpa using g4) g6' hpk hqk ⟨g7.1.1,g7.1.2,g7.2⟩ h1 h3
    ·cases d2
   ·have d3:=d2
    simp only [NL,Bool.and_eq_true] at d3
    obtain ⟨⟨⟨⟨_,_⟩,_⟩,_⟩,d3⟩:=d3
    split at d3
    ·rename_i t q hyo
     simp only [Bool.and_eq_true,Option.isNone_iff_eq_none,Nat.ble_eq] at d3
     obtain ⟨⟨hyg,hkd⟩,hall2⟩:=d3
     have hz:∀ k,k<ops.size→(ops.getD k default).dst≠some q:=fun k hk2=>by
      have:=List.all_eq_true.1 hall2 k (List.mem_range.2 hk2)
      rw [show ops[k]?=some (ops.getD k default) by rw [Array.getD_eq_getD_getElem?,Array.getElem?_eq_getElem hk2];rfl] at this
      simpa using this
     have hoi:o=ops.getD i default:=by rw [Array.getD_eq_getD_getElem?,ho];rfl
     have hq1:s'.fr q=s.fr q:=yb h2 fun z hz2=>by
      rcases List.mem_append.1 hz2 with hz2|hz2
      ·obtain ⟨k,hk1,rfl⟩:=List.mem_map.1 hz2
       exact hz k (hall k (List.mem_cons_of_mem _ (List.mem_append_left _ hk1)))
      ·rcases List.mem_cons.1 hz2 with hz2|hz2
       ·subst hz2;rw [hoi];exact hz i hlt
       ·obtain ⟨k,hk1,rfl⟩:=List.mem_map.1 hz2
        exact hz k (hall k (List.mem_cons_of_mem _ (List.mem_append_right _ (List.mem_cons_of_mem _ hk1))))
     have hq2:s.fr q=st.fr q:=Ea h1 (hz j hjlt)
     have hqk:=lE hk (t:=q) (by omega)
     rw [hq1,hq2] at hqk
     unfold Dn at hqk
     split at hqk
     ·rename_i id off hfr
      have hlb:=Pu (t:=q) (l:=kl)
      exact sH d2 hyo hyg hfr (by have:=hwf.2;omega) h1 h3
     ·omega
     ·omega
     ·exact hqk.elim
    ·cases d3
  obtain ⟨s3,h5,h6⟩:=key
  exact ⟨s3,h5,s2,h6,h4⟩
theorem LD {m : Nat → Nat} {kl : List (Nat × Nat)} (hd : qz S.rcv ops m kl = true) (hm : cP ops m = true) {K : St → Prop} : ∀ (fuel : Nat) (listed : Array Bool) (rest : List Nat) (st s' : St),
  listed.size=ops.size→rest.Pairwise (· < ·)→(∀ i,i ∈ rest↔i<ops.size∧listed.getD i true=false)→gD ops listed→LG S ops (rest.map fun i=>ops.getD i default) st s'→K s'→ir kl s'→gS (yF kl) st→rest.length≤fuel →
  iL S ops fuel listed st K:=by
 have hed:∀ i o,ops[i]?=some o→∀ e ∈ o.after,Region.binds .any e=true→e.on<i:=fun i o ho e he hb=>by
  have hlt:i<ops.size:=by
   rcases Nat.lt_or_ge i ops.size with h|h
   ·exact h
   ·rw [Array.getElem?_eq_none h] at ho;cases ho
  have:=List.all_eq_true.1 hd i (List.mem_range.2 hlt)
  rw [ho] at this
  simp only [Bool.and_eq_true] at this
  have:=this.1
  obtain ⟨k,hk,rfl⟩:=Array.mem_iff_getElem.1 he
  have:=(Array.all_eq_true.1 this) k hk
  simp only [hb,Bool.not_true,Bool.false_or,Nat.blt] at this
  have:=Nat.le_of_ble_eq_true this
  omega
 have noready:∀ (listed:Array Bool) (rest:List Nat),listed.size=ops.size→rest.Pairwise (· < ·)→(∀ i,i ∈ rest↔i<ops.size∧listed.getD i true=false)→Region.ready .any ops listed=[]→rest=[]:=by
  intro listed rest hs hp hr hno
  cases rest with
  | nil=>rfl
  | cons i r =>
   exfalso
   obtain ⟨hlt,hl⟩:=(hr i).1 (List.mem_cons_self ..)
   have:i ∈ Region.ready .any ops listed:=(cA hs).2 ⟨_,Array.getElem?_eq_getElem hlt,hl,fun e he hb=>by
    have hle:=hed i _ (Array.getElem?_eq_getElem hlt) e he hb
    cases hq:listed.getD e.on false with
    | true=>rfl
    | false =>
     exfalso
     have hq':listed.getD e.on true=false:=by
      have hl2:e.on<listed.size:=by omega
      rw [Array.getD,dif_pos hl2] at hq ⊢
      exact hq
     have hmem:=(hr e.on).2 ⟨by omega,hq'⟩
     rcases List.mem_cons.1 hmem with h|h
     ·omega
     ·have:=(List.pairwise_cons.1 hp).1 _ h;omega⟩
   rw [hno] at this
   cases this
 intro fuel
 induction fuel with
 | zero =>
  intro listed rest st s' hs hp hr hcl hx hk hkl hwf hlen
  have hnil:rest=[]:=List.eq_nil_of_length_eq_zero (by omega)
  subst hnil
  have hst:st=s':=hx
  subst hst
  refine ⟨?_,hk⟩
  rw [List.eq_nil_iff_forall_not_mem]
  intro i hi
  obtain ⟨o,ho,hl,_⟩:=(cA hs).1 hi
  have hlt:i<ops.size:=by
   rcases Nat.lt_or_ge i ops.size with h|h
   ·exact h
   ·rw [Array.getElem?_eq_none h] at ho;cases ho
  exact absurd ((hr i).2 ⟨hlt,hl⟩) (by simp)
 | succ fuel ih =>
  intro listed rest st s' hs hp hr hcl hx hk hkl hwf hlen
  refine ⟨fun hno => ?_,fun i hi => ?_⟩
  ·have:=noready listed rest hs hp hr hno
   subst this
   have hst:st=s':=hx
   rw [hst];exact hk
  ·obtain ⟨o,ho,hl,hdep⟩:=(cA hs).1 hi
   have hlt:i<ops.size:=by
    rcases Nat.lt_or_ge i ops.size with h|h
    ·exact h
    ·rw [Array.getElem?_eq_none h] at ho;cases ho
   have hmem:=(hr i).2 ⟨hlt,hl⟩
   rw [ho]
   obtain ⟨l1,l2,rfl⟩:=List.append_of_mem hmem
   have hpw:=List.pairwise_append.1 hp
   have hoi:ops.getD i default=o:=by rw [Array.getD_eq_getD_getElem?,ho];rfl
   rw [List.map_append,List.map_cons,hoi] at hx
   have hdep':∀ e ∈ o.after,Region.binds .any e=true→jd listed e.on:=fun e he hb=>by
    have:=hdep e he hb
    have h2:=hed i o ho e he hb
    have hl2:e.on<listed.size:=by omega
    unfold jd
    rw [Array.getD,dif_pos hl2] at this ⊢
    exact this
   have hind:∀ j ∈ l1,(m i).testBit j=false:=fun j hj=>by
    have hji:j<i:=hpw.2.2 j hj i (List.mem_cons_self ..)
    obtain ⟨hjlt,hjl⟩:=(hr j).1 (List.mem_append_left _ hj)
    cases h2:(m i).testBit j with
    | false=>rfl
    | true =>
     exfalso
     have h3:=List.all_eq_true.1 hm i (List.mem_range.2 hlt)
     rw [ho] at h3
     have h4:=List.all_eq_true.1 h3 j (List.mem_range.2 hji)
     simp only [h2,Bool.not_true,Bool.false_or] at h4
     obtain ⟨k,hk',hh⟩:=Array.any_eq_true.1 h4
     simp only [Bool.and_eq_true,Bool.or_eq_true,Nat.beq_eq] at hh
     have hin:=hdep' _ (Array.getElem_mem hk') hh.1
     have hle:=hed i o ho _ (Array.getElem_mem hk') hh.1
     have:jd listed j:=by
      rcases hh.2 with q|q
      ·rw [← q];exact hin
      ·exact uP hm hcl hed (fun _ _ _=>trivial) (i+1) _ (by omega) hin (by omega) j (by have:=q.2;simp [Nat.blt] at this;omega) q.1
     unfold jd at this
     rw [this] at hjl
     cases hjl
   have hall:∀ k ∈ l1 ++ i :: l2,k<ops.size:=fun k hk2=>((hr k).1 hk2).1
   obtain ⟨s1,h1,h2⟩:=uE hd ho hlt l1 hp hall hind hx hkl hwf
   refine kN h1 ?_
   have hget:∀ k b,(listed.setIfInBounds i true).getD k b=if k=i then true else listed.getD k b:=fun k b=>by
    simp only [Array.getD_eq_getD_getElem?,Array.getElem?_setIfInBounds]
    by_cases hk:k=i
    ·subst hk;simp [hs,hlt]
    ·rw [if_neg (fun h=>hk h.symm),if_neg hk]
   refine ih _ (l1 ++ l2) s1 s' (by simpa using hs) ?_ (fun k => ?_) (fun k x hx' hin e he hb => ?_) (by rw [List.map_append];exact h2) hk hkl (rz h1 hwf) (by simp at hlen ⊢;omega)
   ·refine List.pairwise_append.2 ⟨hpw.1,(List.pairwise_cons.1 hpw.2.1).2,fun a ha b hb=>hpw.2.2 a ha b (List.mem_cons_of_mem _ hb)⟩
   ·have hk:=hr k
    rw [hget]
    by_cases hki:k=i
    ·subst hki
     simp only [if_true]
     constructor
     ·intro hmm
      exfalso
      rcases List.mem_append.1 hmm with q|q
      ·have:=hpw.2.2 k q k (List.mem_cons_self ..);omega
      ·have:=(List.pairwise_cons.1 hpw.2.1).1 k q;omega
     ·rintro ⟨_,q⟩;cases q
    ·rw [if_neg hki,← hk]
     simp [hki]
   ·unfold jd at hin ⊢
    rw [hget] at hin ⊢
    by_cases hek:e.on=i
    ·rw [if_pos hek]
    ·rw [if_neg hek]
     by_cases hki:k=i
     ·subst hki
      rw [ho] at hx'
      cases hx'
      exact hdep' e he hb
     ·rw [if_neg hki] at hin
      exact hcl k x hx' hin e he hb
theorem Aq {l:List Oper} {m:Nat→Nat} {kl:List (Nat × Nat)} (hd:qz S.rcv l.toArray m kl=true) (hm:cP l.toArray m=true) {K:St→Prop} (hwf:gS (yF kl) st) (h:aZ S l.toArray l st fun s=>ir kl s∧K s):iL S l.toArray l.toArray.size (Array.replicate l.toArray.size false) st K:=by
 obtain ⟨s',h1,h2⟩:=tX h
 refine LD hd hm _ _ (List.range l.length) st s' (by simp) List.pairwise_lt_range (fun i => ?_) (fun i o ho hi => ?_) ?_ h2.2 h2.1 hwf (by simp)
 ·rw [List.mem_range]
  simp only [List.size_toArray,Array.getD_eq_getD_getElem?,Array.getElem?_replicate]
  constructor
  ·intro h;exact ⟨h,by simp [h]⟩
  ·exact fun h=>h.1
 ·exfalso
  have hlt:i<l.toArray.size:=by
   rcases Nat.lt_or_ge i l.toArray.size with h|h
   ·exact h
   ·rw [Array.getElem?_eq_none h] at ho;cases ho
  unfold jd at hi
  simp only [Array.getD_eq_getD_getElem?,Array.getElem?_replicate,if_pos hlt] at hi
  cases hi
 ·have:(List.range l.length).map (fun i=>l.toArray.getD i default)=l:=by
   apply List.ext_getElem
   ·simp
   ·intro i h1 h2;simp [h2]
  rw [this];exact h1
theorem bC {id : Nat} {l : List Oper} {y : Code} {Q : AExit → St → Prop} (kl : List (Nat × Nat)) (hd : qz S.rcv l.toArray (fun i => (Region.before l.toArray).getD i 0) kl = true) (hm : cP l.toArray (fun i => (Region.before l.toArray).getD i 0) = true)
  (hwf:gS (yF kl) st) (h:∀ K:St→Prop,(∀ s,ir kl s→cw S y Q s→K s)→aZ S l.toArray l st K):cw S (.seq (.region id l.toArray true) y) Q st:=by
 refine uR ?_
 simp only [cw,if_pos]
 exact Aq hd hm hwf (h _ fun s h1 h2=>⟨h1,h2⟩)
theorem ch {id : Nat} {l : List Oper} {Q : AExit → St → Prop} (kl : List (Nat × Nat)) (hd : qz S.rcv l.toArray (fun i => (Region.before l.toArray).getD i 0) kl = true) (hm : cP l.toArray (fun i => (Region.before l.toArray).getD i 0) = true)
  (hwf:gS (yF kl) st) (h:∀ K:St→Prop,(∀ s,ir kl s→Q .normal s→K s)→aZ S l.toArray l st K):cw S (.region id l.toArray true) Q st:=by
 simp only [cw,if_pos]
 exact Aq hd hm hwf (h _ fun s h1 h2=>⟨h1,h2⟩)
theorem Qv {c:Operand} {x y z:Code} {t:Bool} {Q:AExit→St→Prop} (s0:St) (hc:st.ev S c = .t t) (h1:t=true→cw S x (gV (Wk fun s=>s=s0) Q) st) (h2:t=false→cw S y (gV (Wk fun s=>s=s0) Q) st) (h:cw S z Q s0):cw S (.seq (.cond c x y) z) Q st :=
 Sn (fun s=>s=s0) (lK hc h1 h2) (fun s hs=>hs ▸ h)
theorem ig {z x:Code} {id:Nat} {Q:AExit→St→Prop} (h:∀ K:St→Prop,(∀ s s',Le s s'→cw S z Q s'→K s)→cw S x (kK id (gV K Q)) st):cw S (.seq (.block id x) z) Q st:=by
 refine dv (S:=S) (.block id x) (Q:=gV (fun st=>Wk (cw S z Q) st∨cw S z Q st) Q) (fun _ _ h=>h) (AH ?_)
 exact h _ fun s s' hl hs => .inl ⟨s',hl,hs⟩
theorem PX {c i o:Nat}:Dn c (.b (.c (.ptr i o)))=(c=1∨c=4+i):=rfl
theorem RM {c i s k o:Nat}:Dn c (.b (.c (.pel i s k o)))=(c=2):=rfl
theorem SP {c s o:Nat} {g:Nat→PV}:Dn c (.b (.c (.ipt s g o)))=(c=3):=rfl
theorem Ss {s:St}:ir [] s=True:=rfl
theorem Oz {s:St} {t c:Nat} {r:List (Nat × Nat)}:ir ((t,c) :: r) s=(Dn c (s.fr t)∧ir r s):=rfl
end
attribute [go_sem] yF PX RM SP Ss Oz
end Go.SL
