/- Part of the proof: SlP, SlN, SlO, SlQ, SlR, SlS. -/
import Derived.Test.YtmfblbbemekkoaaGreatDoorK2
set_option linter.unusedSimpArgs false
set_option linter.unusedVariables false
namespace Go.SL
open Go
def Ex (S:Env) (ops:Array Oper) (st:St) (o:Oper) (s':St):Prop:=dD S ops st o fun s=>s=s'
section
variable {S:Env} {ops:Array Oper} {st st2 s':St} {ev ev2:Operand→SV} {op:Op} {o:Oper}
theorem yg {f:FuncId} {args:List BV} {K:SV→St→Prop} (h:CallP S st f args K):∃ r s',CallP S st f args (fun r0 s0=>r0=r∧s0=s')∧K r s':=by
 cases h with
 | pure args' X h ha hl hk=>exact ⟨_,_, .pure args' X h ha hl ⟨rfl,rfl⟩,hk⟩
 | lend args' X h ha hl hf hk hp=>exact ⟨_,_, .lend args' X h ha hl hf ⟨rfl,rfl⟩ hp,hk⟩
 | recv id off cs0 cs rest args' X Y h he hb hoff hcs ha hl hr hy hk=>exact ⟨_,_, .recv id off cs0 cs rest args' X Y h he hb hoff hcs ha hl hr hy ⟨rfl,rfl⟩,hk⟩
 | recvEl id sz i e n g cs rest args' X Y h he hb hi hsz hcs ha hl hr hy hk=>exact ⟨_,_, .recvEl id sz i e n g cs rest args' X Y h he hb hi hsz hcs ha hl hr hy ⟨rfl,rfl⟩,hk⟩
 | inl X bx' nx' h hr hw hk hn=>exact ⟨_,_, .inl X bx' nx' h hr hw ⟨rfl,rfl⟩ hn,hk⟩
 | own args' e sz n g h ha hl hr hk=>exact ⟨_,_, .own args' e sz n g h ha hl hr ⟨rfl,rfl⟩,hk⟩
 | ext args' X h ha hl hk=>exact ⟨_,_, .ext args' X h ha hl ⟨rfl,rfl⟩,hk⟩
theorem Dp {K:SV→St→Prop} (h:cu S st ev op K):∃ r s',cu S st ev op (fun r0 s0=>r0=r∧s0=s')∧K r s':=by
 cases op with
 | build t parts =>
  simp only [cu] at *
  split at h
  ·split at h
   ·exact ⟨_,_,⟨h.1,rfl,rfl⟩,h.2⟩
   ·exact h.elim
  ·exact h.elim
 | alloc t =>
  simp only [cu] at *
  split at h
  ·exact ⟨_,_,⟨rfl,rfl⟩,h⟩
  ·exact h.elim
 | box t x =>
  simp only [cu] at *
  split at h
  ·exact ⟨_,_,⟨h.1,rfl,rfl⟩,h.2⟩
  ·exact h.elim
 | buildSlice t len parts =>
  simp only [cu] at *
  split at h
  ·split at h
   ·split at h
    ·exact ⟨_,_,⟨h.1,rfl,rfl⟩,h.2⟩
    ·exact h.elim
   ·exact h.elim
  ·exact h.elim
 | store t p x =>
  simp only [cu] at *
  split at h
  ·split at h
   ·exact ⟨_,_,⟨h.1,rfl,rfl⟩,h.2⟩
   ·exact h.elim
  ·split at h
   ·exact ⟨_,_,⟨h.1,rfl,rfl⟩,h.2⟩
   ·exact h.elim
  ·exact h.elim
 | makeSlice t l c =>
  simp only [cu] at *
  split at h
  ·split at h
   ·exact ⟨_,_,⟨h.1,rfl,rfl⟩,h.2⟩
   ·exact h.elim
  ·exact h.elim
 | call c =>
  simp only [cu] at *
  split at h
  ·split at h
   ·split at h
    ·exact ⟨_,_,⟨h.1,rfl,rfl⟩,h.2⟩
    ·split at h
     ·exact ⟨_,_,⟨h.1,rfl,rfl⟩,h.2⟩
     ·exact h.elim
    ·exact h.elim
   ·exact h.elim
  ·split at h
   ·split at h
    ·exact ⟨_,_,⟨h.1,rfl,rfl⟩,h.2⟩
    ·exact h.elim
   ·exact h.elim
  ·exact yg h
  ·split at h
   ·exact yg h
   ·exact h.elim
  ·exact h.elim
 | _=>exact h.elim
theorem Ff {K:St→Prop} (h:gM S st o K):∃ s',gM S st o (fun s=>s=s')∧K s':=by
 unfold gM at *
 split at h
 ·exact ⟨_,⟨h.1,rfl⟩,h.2⟩
 ·obtain ⟨r,s',h1,h2⟩:=Dp h.2
  exact ⟨_,⟨h.1,rS (fun r0 s0 ⟨e1,e2⟩=>by rw [e1,e2]) h1⟩,h2⟩
theorem mB {K:St→Prop} (h:dD S ops st o K):∃ s',Ex S ops st o s'∧K s':=by
 unfold Ex
 unfold dD at *
 split at h
 ·exact Ff h
 ·split at h
  ·rename_i g hg
   split at h
   ·exact ⟨_,⟨h.1,h.2.1,rfl⟩,h.2.2⟩
   ·exact ⟨_,⟨h.1,h.2.1,rfl⟩,h.2.2⟩
   ·rcases h with h|⟨x,q1,q2,q3⟩
    ·cases g with
     | true =>
      obtain ⟨s',h1,h2⟩:=Ff (h.1 rfl)
      exact ⟨s', .inl ⟨fun _=>h1,fun h=>by cases h⟩,h2⟩
     | false=>exact ⟨_, .inl ⟨fun h=>by (cases h),fun _=>rfl⟩,h.2 rfl⟩
    ·exact ⟨_, .inr ⟨x,q1,q2,rfl⟩,q3⟩
  ·exact h.elim
theorem ja {K:St→Prop} (h:Ex S ops st o s') (hk:K s'):dD S ops st o K:=qM (fun s (hs:s=s')=>by rw [hs];exact hk) h
theorem kU {f : FuncId} {args : List BV} {r : SV} (h : CallP S st f args (fun r0 s0 => r0 = r ∧ s0 = s')) :
  ∃ bx' nx',s'=⟨st.fr,bx',nx',st.kf⟩∧((S.rcv f || S.rcv (f+2000000))=false→bx'=st.bx∧nx'=st.nx)∧∀ st2:St,st2.bx=st.bx→st2.nx=st.nx→CallP S st2 f args (fun r0 s0=>r0=r∧s0=⟨st2.fr,bx',nx',st2.kf⟩):=by
 cases h with
 | pure args' X h ha hl hk =>
  obtain ⟨rfl,rfl⟩:=hk
  exact ⟨_,_,rfl,fun _=>⟨rfl,rfl⟩,fun st2 e1 e2 => .pure args' _ h ha hl ⟨rfl,by rw [← e1,← e2]⟩⟩
 | ext args' X h ha hl hk =>
  obtain ⟨rfl,rfl⟩:=hk
  exact ⟨_,_,rfl,fun _=>⟨rfl,rfl⟩,fun st2 e1 e2 => .ext args' _ h ha hl ⟨rfl,by rw [← e1,← e2]⟩⟩
 | lend args' X h ha hl hf hk hp =>
  obtain ⟨rfl,rfl⟩:=hk
  exact ⟨_,_,rfl,fun _=>⟨rfl,rfl⟩,fun st2 e1 e2 => .lend args' _ h (by rw [e1];exact ha) hl hf ⟨rfl,by rw [← e1,← e2]⟩ hp⟩
 | recv id off cs0 cs rest args' X Y h he hb hoff hcs ha hl hr hy hk =>
  obtain ⟨rfl,rfl⟩:=hk
  exact ⟨_,_,rfl,fun h0=>by (simp [hr] at h0),fun st2 e1 e2 => .recv id off cs0 cs rest args' _ Y h he (by rw [e1];exact hb) hoff hcs ha hl hr hy ⟨rfl,by simp only [St.setBox,e1,e2]⟩⟩
 | recvEl id sz i e n g cs rest args' X Y h he hb hi hsz hcs ha hl hr hy hk =>
  obtain ⟨rfl,rfl⟩:=hk
  exact ⟨_,_,rfl,fun h0=>by (simp [hr] at h0),fun st2 e1 e2 => .recvEl id sz i e n g cs rest args' _ Y h he (by rw [e1];exact hb) hi hsz hcs ha hl hr hy ⟨rfl,by simp only [St.setBox,e1,e2]⟩⟩
 | inl X bx' nx' h hr hw hk hn =>
  obtain ⟨rfl,rfl⟩:=hk
  exact ⟨_,_,rfl,fun h0=>by (simp [hr] at h0),fun st2 e1 e2 => .inl _ bx' nx' (by rw [e1,e2];exact h) hr hw ⟨rfl,rfl⟩ (by rw [e2];exact hn)⟩
 | own args' e sz n g h ha hl hr hk =>
  obtain ⟨rfl,rfl⟩:=hk
  exact ⟨_,_,rfl,fun h0=>by (simp [hr] at h0),fun st2 e1 e2 => .own args' e sz n g h (by rw [e1];exact ha) hl hr ⟨by rw [e2],by simp only [St.newBox,e1,e2]⟩⟩
theorem Cp {f:FuncId} {args:List BV} {r:SV} (hp:S.rcv (f+1000000)=true) (hn:(S.rcv f || S.rcv (f+2000000))=false) (h:CallP S st f args (fun r0 s0=>r0=r∧s0=s')) (st2:St):CallP S st2 f args (fun r0 s0=>r0=r∧s0=st2):=by
 cases h with
 | pure args' X h ha hl hk=>exact .pure args' _ h ha hl ⟨hk.1,rfl⟩
 | ext args' X h ha hl hk=>exact .ext args' _ h ha hl ⟨hk.1,rfl⟩
 | lend args' X h ha hl hf hk hq=>rw [hp] at hq;cases hq
 | recv id off cs0 cs rest args' X Y h he hb hoff hcs ha hl hr hy hk=>simp [hr] at hn
 | recvEl id sz i e n g cs rest args' X Y h he hb hi hsz hcs ha hl hr hy hk=>simp [hr] at hn
 | inl X bx' nx' h hr hw hk hn2=>simp [hr] at hn
 | own args' e sz n g h ha hl hr hk=>simp [hr] at hn
theorem iR {pl:Nat→Option (Nat × Nat)}:∀ {ps:List (Nat × Operand)} {cs:List CV},(∀ p ∈ ps,ev p.2=ev2 p.2)→eK pl ev ps cs=eK pl ev2 ps cs
 | [],_,_=>rfl
 | p :: ps,cs,h=>by
  obtain ⟨i,x⟩:=p
  have h1:=h (i,x) (List.mem_cons_self ..)
  simp only at h1
  simp only [eK,h1]
  split
  ·rw [iR fun p hp=>h p (List.mem_cons_of_mem _ hp)]
  ·rfl
theorem uj {r : SV} (h : cu S st ev op (fun r0 s0 => r0 = r ∧ s0 = s')) (he : ∀ x ∈ op.operands.toList, ev x = ev2 x) :
  ∃ bx' nx',s'=⟨st.fr,bx',nx',st.kf⟩∧∀ st2:St,st2.bx=st.bx→st2.nx=st.nx→cu S st2 ev2 op (fun r0 s0=>r0=r∧s0=⟨st2.fr,bx',nx',st2.kf⟩):=by
 cases op with
 | build t parts =>
  have hf:∀ {pl cs},eK pl ev parts.toList cs=eK pl ev2 parts.toList cs:=fun {pl cs}=>iR fun p hp=>he p.2 (by simp only [Op.operands];exact List.mem_map_of_mem hp)
  simp only [cu,hf] at *
  split at h
  ·split at h
   ·obtain ⟨h1,rfl,rfl⟩:=h
    exact ⟨_,_,rfl,fun st2 e1 e2=>⟨h1,rfl,by rw [← e1,← e2]⟩⟩
   ·exact h.elim
  ·exact h.elim
 | alloc t =>
  simp only [cu] at *
  split at h
  ·obtain ⟨rfl,rfl⟩:=h
   exact ⟨_,_,rfl,fun st2 e1 e2=>⟨by rw [e2],by simp only [St.newBox,e1,e2]⟩⟩
  ·exact h.elim
 | box t x =>
  simp only [cu,he x (by simp [Op.operands])] at *
  split at h
  ·obtain ⟨h1,rfl,rfl⟩:=h
   exact ⟨_,_,rfl,fun st2 e1 e2=>⟨h1,by rw [e2],by simp only [St.newBox,e1,e2]⟩⟩
  ·exact h.elim
 | buildSlice t len parts =>
  have hf:∀ {pl cs},eK pl ev parts.toList cs=eK pl ev2 parts.toList cs:=fun {pl cs}=>iR fun p hp=>he p.2 (by simp only [Op.operands];exact List.mem_map_of_mem hp)
  simp only [cu,hf] at *
  split at h
  ·split at h
   ·split at h
    ·obtain ⟨h1,rfl,rfl⟩:=h
     exact ⟨_,_,rfl,fun st2 e1 e2=>⟨h1,by rw [e2],by simp only [St.newBox,e1,e2]⟩⟩
    ·exact h.elim
   ·exact h.elim
  ·exact h.elim
 | store t p x =>
  simp only [cu,he p (by simp [Op.operands]),he x (by simp [Op.operands])] at *
  split at h
  ·rename_i hb0
   split at h
   ·rename_i hb
    obtain ⟨h1,rfl,rfl⟩:=h
    exact ⟨_,_,rfl,fun st2 e1 e2=>by simp only [e1,hb];exact ⟨h1,by simp only [St.setBox,e1,e2,true_and]⟩⟩
   ·exact h.elim
  ·split at h
   ·rename_i hb
    obtain ⟨h1,rfl,rfl⟩:=h
    exact ⟨_,_,rfl,fun st2 e1 e2=>by simp only [e1,hb];exact ⟨h1,by simp only [St.setBox,e1,e2,true_and]⟩⟩
   ·exact h.elim
  ·exact h.elim
 | makeSlice t l c =>
  simp only [cu,he l (by simp [Op.operands]),he c (by simp [Op.operands])] at *
  split at h
  ·split at h
   ·obtain ⟨h1,rfl,rfl⟩:=h
    exact ⟨_,_,rfl,fun st2 e1 e2=>⟨h1,by rw [e2],by simp only [St.newBox,e1,e2]⟩⟩
   ·exact h.elim
  ·exact h.elim
 | call c =>
  obtain ⟨cal,⟨al⟩,⟨tl⟩⟩:=c
  unfold cu at h
  simp only at h
  split at h
  ·rename_i x y t t'
   have h1:=he x (by simp [Op.operands,Call.operands])
   have h2:=he y (by simp [Op.operands,Call.operands])
   rw [h1,h2] at h
   unfold cu
   simp only
   split at h
   ·rename_i hel hsrc
    split at h
    ·rename_i hi hz hx
     obtain ⟨hh,rfl,rfl⟩:=h
     exact ⟨_,_,rfl,fun st2 q1 q2=>by
      simp only [q1,q2,hel,hsrc,hi,hz,hx]
      exact ⟨hh,trivial,by simp only [St.newBox,q1,q2]⟩⟩
    ·rename_i hi hz hx
     split at h
     ·rename_i hb
      obtain ⟨hh,rfl,rfl⟩:=h
      exact ⟨_,_,rfl,fun st2 q1 q2=>by
       simp only [q1,q2,hel,hsrc,hi,hz,hx,hb]
       exact ⟨hh,trivial,by simp only [St.newBox,St.delBox,q1,q2];try rfl⟩⟩
     ·exact h.elim
    ·exact h.elim
   ·exact h.elim
  ·rename_i x y t t'
   have h1:=he x (by simp [Op.operands,Call.operands])
   have h2:=he y (by simp [Op.operands,Call.operands])
   rw [h1,h2] at h
   unfold cu
   simp only
   split at h
   ·rename_i hel hx hy
    split at h
    ·rename_i hb
     obtain ⟨hh,rfl,rfl⟩:=h
     exact ⟨_,_,rfl,fun st2 q1 q2=>by
      simp only [q1,hel,hx,hy,hb]
      exact ⟨hh,trivial,by simp only [St.setBox,q1,q2]⟩⟩
    ·exact h.elim
   ·exact h.elim
  ·have hl:al.map (fun x=>cM (ev x))=al.map (fun x=>cM (ev2 x)):=List.map_congr_left fun x hx=>by rw [he x (by simp [Op.operands,Call.operands,hx])]
   rw [hl] at h
   obtain ⟨bx',nx',e,_,hp⟩:=kU h
   exact ⟨bx',nx',e,fun st2 q1 q2=>by unfold cu;exact hp st2 q1 q2⟩
  ·rename_i t
   have hl:al.map (fun x=>cM (ev x))=al.map (fun x=>cM (ev2 x)):=List.map_congr_left fun x hx=>by rw [he x (by simp [Op.operands,Call.operands,hx])]
   have ht:=he (.tmp t) (by simp [Op.operands,Call.operands])
   split at h
   ·rename_i f ps hx
    rw [hl] at h
    obtain ⟨bx',nx',e,_,hp⟩:=kU h
    exact ⟨bx',nx',e,fun st2 q1 q2=>by unfold cu;simp only;rw [← ht,hx];exact hp st2 q1 q2⟩
   ·exact h.elim
  ·exact h.elim
 | _=>exact h.elim
theorem fe {bx:Nat→Option Bx} (he:∀ x ∈ op.operands.toList,ev x=ev2 x):ro S bx ev op=ro S bx ev2 op:=by
 have hc:aI (op.operands.toList.map ev)=aI (op.operands.toList.map ev2):=by rw [List.map_congr_left he]
 have hcore:aP S bx ev op=aP S bx ev2 op:=by
  cases op with
  | slice t x lo hi m =>
   cases m with
   | none =>
    have h1:=he x (by simp [Op.operands])
    cases lo with
    | none=>cases hi with
     | none=>simp only [aP,h1,Option.map_none]
     | some b=>have h3:=he b (by simp [Op.operands]);simp only [aP,h1,h3,Option.map_none,Option.map_some]
    | some a =>
     have h2:=he a (by simp [Op.operands])
     cases hi with
     | none=>simp only [aP,h1,h2,Option.map_none,Option.map_some]
     | some b=>have h3:=he b (by simp [Op.operands]);simp only [aP,h1,h2,h3,Option.map_some]
   | some _=>rfl
  | call c =>
   obtain ⟨cal,⟨al⟩,⟨tl⟩⟩:=c
   unfold aP
   simp only
   split
   ·rename_i x _;rw [he x (by simp [Op.operands,Call.operands])]
   ·rename_i x y;rw [he x (by simp [Op.operands,Call.operands]),he y (by simp [Op.operands,Call.operands])]
   ·rename_i x y;rw [he x (by simp [Op.operands,Call.operands]),he y (by simp [Op.operands,Call.operands])]
   ·rfl
  | makeFunc fn first cap =>
   have hl:cap.toList.map (fun x=>(ev x).strip)=cap.toList.map (fun x=>(ev2 x).strip):=List.map_congr_left fun x hx=>by rw [he x (by simp [Op.operands];exact .inr (by simpa using hx))]
   simp only [aP,hl]
  | load t x=>simp only [aP,he x (by simp [Op.operands])]
  | fieldAddr t x f=>simp only [aP,he x (by simp [Op.operands])]
  | field t x f=>simp only [aP,he x (by simp [Op.operands])]
  | indexAddr t x y=>simp only [aP,he x (by simp [Op.operands]),he y (by simp [Op.operands])]
  | index t x y=>simp only [aP,he x (by simp [Op.operands]),he y (by simp [Op.operands])]
  | extract x _=>simp only [aP,he x (by simp [Op.operands])]
  | binOp _ _ x y _=>simp only [aP,he x (by simp [Op.operands]),he y (by simp [Op.operands])]
  | unOp _ _ x=>simp only [aP,he x (by simp [Op.operands])]
  | convert _ _ x=>simp only [aP,he x (by simp [Op.operands])]
  | nilCheck x=>simp only [aP,he x (by simp [Op.operands])]
  | _=>rfl
 unfold ro
 split
 ·rename_i x;rw [he x (by simp [Op.operands])]
 ·rename_i x;rw [he x (by simp [Op.operands])]
 ·rename_i c a b;rw [he c (by simp [Op.operands]),he a (by simp [Op.operands]),he b (by simp [Op.operands])]
 ·rw [hcore,hc]
def cF (rcv:Nat→Bool):Op→Nat
 | .move _ | .assign _ | .pick .. | .fieldAddr .. | .field .. | .indexAddr .. | .index .. | .extract .. | .binOp .. | .unOp .. | .convert .. | .slice .. | .nilCheck _ | .build .. | .makeFunc .. => 0
 | .load .. => 1
 | .call c=>match c.callee with
  | .builtin .len | .builtin .min | .builtin .max=>0
  | .value (.func f)=>if rcv f || rcv (f+2000000) then 2 else if rcv (f+1000000) then 0 else 1
  | _=>2
 | _=>2
def sH (rcv:Nat→Bool) (o:Oper):Nat:=if o.guard.isSome then max 1 (cF rcv o.op) else cF rcv o.op
def bD (ops:Array Oper) (o:Oper):List Nat :=
 (o.op.operands.toList.filterMap fun | .tmp t=>some t|_=>none) ++ (match o.guard with|some (j,_)=>((ops[j]?).bind (·.dst)).toList|none=>[])
theorem cA {st st2:St} (h:∀ t ∈ bD ops o,st.fr t=st2.fr t):∀ x ∈ o.op.operands.toList,st.ev S x=st2.ev S x:=fun x hx=>by
 cases x with
 | tmp t=>exact h t (List.mem_append_left _ (List.mem_filterMap.2 ⟨_,hx,rfl⟩))
 | _=>rfl
theorem Jv {bx bx2:Nat→Option Bx} (h:cF S.rcv op=0):ro S bx ev op=ro S bx2 ev op:=by
 cases op with
 | load=>simp [cF] at h
 | slice t x lo hi m=>cases m <;> rfl
 | _=>rfl
theorem cV (st:St) (d:Option Nat) (v:SV):st.set d v=⟨fun s=>if some s=d then v else st.fr s,st.bx,st.nx,st.kf⟩:=by
 cases d with
 | none=>simp [St.set]
 | some d=>simp only [St.set,Option.some.injEq]
theorem pS {d : Option Nat} (hd : o.dst = d) (h : gM S st o (fun s => s = s')) :
  ∃ v bx' nx',s'=St.set ⟨st.fr,bx',nx',st.kf⟩ d v∧(cF S.rcv o.op≤1→bx'=st.bx∧nx'=st.nx) ∧
   (∀ st2:St,(∀ t ∈ bD ops o,st.fr t=st2.fr t)→st2.bx=st.bx→st2.nx=st.nx→gM S st2 o (fun s=>s=St.set ⟨st2.fr,bx',nx',st2.kf⟩ d v)) ∧
   (cF S.rcv o.op=0→∀ st2:St,(∀ t ∈ bD ops o,st.fr t=st2.fr t)→gM S st2 o (fun s=>s=St.set st2 d v)):=by
 subst hd
 unfold gM at h
 split at h
 ·rename_i vc r hro
  obtain ⟨hv,rfl⟩:=h
  refine ⟨r,st.bx,st.nx,rfl,fun _=>⟨rfl,rfl⟩,fun st2 hn e1 e2 => ?_,fun h0 st2 hn => ?_⟩
  ·unfold gM
   rw [e1,← fe (cA hn),hro]
   exact ⟨hv,by rw [← e1,← e2]⟩
  ·unfold gM
   rw [← fe (cA hn),Jv (bx2:=st.bx) h0,hro]
   exact ⟨hv,rfl⟩
 ·rename_i hro
  obtain ⟨hc,hM⟩:=h
  obtain ⟨r,s0,hM1,rfl⟩:=Dp hM
  obtain ⟨bx',nx',rfl, -⟩:=uj hM1 (ev2:=st.ev S) fun _ _=>rfl
  have hcond:∀ st2:St,(∀ t ∈ bD ops o,st.fr t=st2.fr t)→aI (o.op.operands.toList.map (st2.ev S)):=fun st2 hn=>by
   rw [← List.map_congr_left (cA (S:=S) hn)];exact hc
  have hcls:cF S.rcv o.op≤1→bx'=st.bx∧nx'=st.nx:=fun hle=>by
   revert hM1 hle
   generalize o.op=op
   intro hM1 hle
   cases op with
   | call c =>
    obtain ⟨cal,⟨al⟩,⟨tl⟩⟩:=c
    unfold cu at hM1
    simp only at hM1
    split at hM1
    ·simp [cF] at hle
    ·simp [cF] at hle
    ·obtain ⟨b,n,e,hr,_⟩:=kU hM1
     simp only [St.mk.injEq,true_and,and_true] at e
     obtain ⟨rfl,rfl⟩:=e
     refine hr ?_
     simp only [cF] at hle
     split at hle
     ·omega
     ·rename_i hne;simpa using hne
    ·simp [cF] at hle
    ·exact hM1.elim
   | build t parts =>
    simp only [cu] at hM1
    split at hM1
    ·split at hM1
     ·obtain ⟨_,_,e⟩:=hM1
      have e2:=congrArg St.bx e
      have e3:=congrArg St.nx e
      exact ⟨e2.symm,e3.symm⟩
     ·exact hM1.elim
    ·exact hM1.elim
   | alloc=>simp [cF] at hle
   | box=>simp [cF] at hle
   | buildSlice=>simp [cF] at hle
   | store=>simp [cF] at hle
   | makeSlice=>simp [cF] at hle
   | _=>exact hM1.elim
  refine ⟨r,bx',nx',rfl,hcls,fun st2 hn e1 e2 => ?_,fun h0 st2 hn => ?_⟩
  ·unfold gM
   rw [e1,← fe (cA hn),hro]
   refine ⟨hcond st2 hn, ?_⟩
   obtain ⟨b,n,e,hp⟩:=uj hM1 (ev2:=st2.ev S) (cA hn)
   simp only [St.mk.injEq,true_and,and_true] at e
   obtain ⟨rfl,rfl⟩:=e
   exact rS (fun r0 s0 ⟨q1,q2⟩=>by rw [q1,q2]) (hp st2 e1 e2)
  ·unfold gM
   rw [← fe (cA hn),Jv (bx2:=st.bx) h0,hro]
   refine ⟨hcond st2 hn, ?_⟩
   revert hM1 h0 hn
   generalize hoo:o.op=op
   intro hM1 h0 hn
   cases op with
   | build t parts =>
    have hev:=cA (S:=S) hn
    rw [hoo] at hev
    have hf:∀ {pl cs},eK pl (st.ev S) parts.toList cs=eK pl (st2.ev S) parts.toList cs:=fun {pl cs}=>iR fun p hp=>hev p.2 (by simp only [Op.operands];exact List.mem_map_of_mem hp)
    simp only [cu,hf] at hM1 ⊢
    split at hM1
    ·split at hM1
     ·obtain ⟨q1,rfl,e⟩:=hM1
      exact ⟨q1,rfl⟩
     ·exact hM1.elim
    ·exact hM1.elim
   | call c =>
    obtain ⟨cal,⟨al⟩,⟨tl⟩⟩:=c
    unfold cu at hM1
    simp only at hM1
    split at hM1
    ·simp [cF] at h0
    ·simp [cF] at h0
    ·simp only [cF] at h0
     split at h0
     ·simp at h0
     ·split at h0
      ·rename_i hne hpp
       have hev:=cA (S:=S) hn
       rw [hoo] at hev
       unfold cu
       simp only
       have hh:=Cp hpp (by simpa using hne) hM1 st2
       rw [List.map_congr_left (g:=fun x=>cM (st2.ev S x)) (fun x hx=>by rw [hev x (by simp [Op.operands,Call.operands,hx])])] at hh
       exact CallP.mono (fun r0 s0 ⟨q1,q2⟩=>by rw [q1,q2]) hh
      ·simp at h0
    ·simp [cF] at h0
    ·exact hM1.elim
   | alloc=>simp [cF] at h0
   | box=>simp [cF] at h0
   | buildSlice=>simp [cF] at h0
   | store=>simp [cF] at h0
   | makeSlice=>simp [cF] at h0
   | _=>exact hM1.elim
theorem ff (h : Ex S ops st o s') :
  ∃ v bx' nx',s'=St.set ⟨st.fr,bx',nx',st.kf⟩ o.dst v∧(sH S.rcv o≤1→bx'=st.bx∧nx'=st.nx) ∧
   (∀ st2:St,(∀ t ∈ bD ops o,st.fr t=st2.fr t)→st2.bx=st.bx→st2.nx=st.nx→Ex S ops st2 o (St.set ⟨st2.fr,bx',nx',st2.kf⟩ o.dst v)) ∧
   (sH S.rcv o=0→∀ st2:St,(∀ t ∈ bD ops o,st.fr t=st2.fr t)→Ex S ops st2 o (St.set st2 o.dst v)):=by
 unfold Ex dD at h
 cases hg:o.guard with
 | none =>
  rw [hg] at h
  obtain ⟨v,bx',nx',h1,h2,h3,h4⟩:=pS (ops:=ops) rfl h
  have hcl:sH S.rcv o=cF S.rcv o.op:=by simp [sH,hg]
  refine ⟨v,bx',nx',h1,by rwa [hcl],fun st2 a b c => ?_,fun h0 st2 a => ?_⟩
  ·unfold Ex dD;rw [hg];exact h3 st2 a b c
  ·unfold Ex dD;rw [hg];exact h4 (by rwa [hcl] at h0) st2 a
 | some p =>
  obtain ⟨j,want⟩:=p
  rw [hg] at h
  simp only at h
  have hcl:¬ sH S.rcv o=0:=by simp [sH,hg];try omega
  have hcl1:sH S.rcv o≤1→cF S.rcv o.op≤1:=by simp [sH,hg];try omega
  have hgv:∀ st2:St,(∀ t ∈ bD ops o,st.fr t=st2.fr t)→fX st ((ops[j]?).bind (·.dst)) want=fX st2 ((ops[j]?).bind (·.dst)) want:=fun st2 hn=>by
   unfold fX
   split
   ·rename_i d hd
    rw [hn d (List.mem_append_right _ (by rw [hg];simp [hd]))]
   ·rfl
  split at h
  ·rename_i g hgg
   split at h
   ·rename_i vc r hro
    obtain ⟨h1,h2,rfl⟩:=h
    refine ⟨_,st.bx,st.nx,rfl,fun _=>⟨rfl,rfl⟩,fun st2 hn e1 e2 => ?_,fun h0=>absurd h0 hcl⟩
    unfold Ex dD
    rw [hg]
    simp only
    rw [← hgv st2 hn,hgg,e1,← fe (cA hn),hro]
    exact ⟨by rw [e2];exact h1,h2,by rw [← e1,← e2]⟩
   ·rename_i vc p r hro
    obtain ⟨h1,h2,rfl⟩:=h
    refine ⟨_,st.bx,st.nx,rfl,fun _=>⟨rfl,rfl⟩,fun st2 hn e1 e2 => ?_,fun h0=>absurd h0 hcl⟩
    unfold Ex dD
    rw [hg]
    simp only
    rw [← hgv st2 hn,hgg,e1,← fe (cA hn),hro]
    exact ⟨by rw [e2];exact h1,h2,by rw [← e1,← e2]⟩
   ·rename_i hne hne2
    rcases h with h|⟨x,hlx,h1,rfl⟩
    ·cases g with
     | true =>
      obtain ⟨v,bx',nx',h1,h2,h3,h4⟩:=pS (ops:=ops) rfl (h.1 rfl)
      refine ⟨v,bx',nx',h1,fun hc=>h2 (hcl1 hc),fun st2 hn e1 e2 => ?_,fun h0=>absurd h0 hcl⟩
      unfold Ex dD
      rw [hg]
      simp only
      rw [← hgv st2 hn,hgg,e1,← fe (cA hn)]
      split
      ·rename_i g' q
       cases q
       split
       ·rename_i vc r hro;exact absurd hro (hne vc r)
       ·rename_i vc p r hro;exact absurd hro (hne2 vc p r)
       ·exact .inl ⟨fun _=>h3 st2 hn e1 e2,fun q=>by (cases q)⟩
      ·rename_i q;cases q
     | false =>
      have h1:=h.2 rfl
      subst h1
      refine ⟨_,st.bx,st.nx,rfl,fun _=>⟨rfl,rfl⟩,fun st2 hn e1 e2 => ?_,fun h0=>absurd h0 hcl⟩
      unfold Ex dD
      rw [hg]
      simp only
      rw [← hgv st2 hn,hgg,e1,← fe (cA hn)]
      split
      ·rename_i g' q
       cases q
       split
       ·rename_i vc r hro;exact absurd hro (hne vc r)
       ·rename_i vc p r hro;exact absurd hro (hne2 vc p r)
       ·exact .inl ⟨fun q=>by (cases q),fun _=>by rw [← e1,← e2]⟩
      ·rename_i q;cases q
    ·refine ⟨_,st.bx,st.nx,rfl,fun _=>⟨rfl,rfl⟩,fun st2 hn e1 e2 => ?_,fun h0=>absurd h0 hcl⟩
     unfold Ex dD
     rw [hg]
     simp only
     rw [← hgv st2 hn,hgg,e1,← fe (cA hn)]
     split
     ·rename_i g' q
      cases q
      split
      ·rename_i vc r hro;exact absurd hro (hne vc r)
      ·rename_i vc p r hro;exact absurd hro (hne2 vc p r)
      ·refine .inr ⟨x,by rw [e2];exact hlx,fun ht => ?_,by rw [← e1,← e2]⟩
       obtain ⟨v,bx',nx',p1,p2,p3,p4⟩:=pS (ops:=ops) rfl (h1 ht)
       have:=p3 st2 hn e1 e2
       rw [cV,cV] at p1
       simp only [St.mk.injEq,and_true] at p1
       obtain ⟨r1,rfl,rfl⟩:=p1
       have e:St.set st2 o.dst (.b x)=St.set ⟨st2.fr,st.bx,st.nx,st2.kf⟩ o.dst v:=by
        rw [cV,cV,e1,e2]
        simp only [St.mk.injEq,and_true]
        funext s
        by_cases hs:some s=o.dst
        ·have:=congrFun r1 s
         rw [if_pos hs,if_pos hs] at this
         rw [if_pos hs,if_pos hs,this]
        ·rw [if_neg hs,if_neg hs]
       rw [e];exact this
     ·rename_i q;cases q
  ·exact h.elim
def pa (rcv:Nat→Bool) (ops:Array Oper) (x y:Oper):Bool :=
 (match x.dst with|some d => !(bD ops y).contains d|none=>true) && (match y.dst with|some d => !(bD ops x).contains d|none=>true) &&
 (match x.dst,y.dst with|some d,some e=>d != e|_,_=>true) &&
 ((Nat.ble (sH rcv x) 1 && Nat.ble (sH rcv y) 1) || Nat.beq (sH rcv x) 0 || Nat.beq (sH rcv y) 0)
theorem eV {fr kf:Nat→SV} {bx bx':Nat→Option Bx} {nx nx':Nat} {d:Option Nat} {v:SV} {l:List Nat} (h:(match d with|some d => !l.contains d|none=>true)=true):∀ t ∈ l,(St.set ⟨fr,bx,nx,kf⟩ d v).fr t=fr t:=fun t ht=>by
 rw [cV]
 simp only
 cases d with
 | none=>simp
 | some d =>
  have:t≠d:=fun e=>by subst e;simp [ht] at h
  simp [this]
theorem pO {x y:Oper} {s1 s2:St} (hi:pa S.rcv ops x y=true) (h1:Ex S ops st x s1) (h2:Ex S ops s1 y s2):∃ s3,Ex S ops st y s3∧Ex S ops s3 x s2:=by
 simp only [pa,Bool.and_eq_true,Bool.or_eq_true,Nat.ble_eq,Nat.beq_eq] at hi
 obtain ⟨⟨⟨hxy,hyx⟩,hdd⟩,hc⟩:=hi
 obtain ⟨v1,b1,n1,rfl,k1,p1,z1⟩:=ff h1
 obtain ⟨v2,b2,n2,rfl,k2,p2,z2⟩:=ff h2
 have ag1:∀ t ∈ bD ops y,(St.set ⟨st.fr,b1,n1,st.kf⟩ x.dst v1).fr t=st.fr t:=eV (nx':=0) (bx':=st.bx) hxy
 have comm:∀ b n,St.set ⟨(St.set ⟨st.fr,b1,n1,st.kf⟩ x.dst v1).fr,b,n,st.kf⟩ y.dst v2=St.set ⟨(St.set ⟨st.fr,b1,n1,st.kf⟩ y.dst v2).fr,b,n,st.kf⟩ x.dst v1:=fun b n=>by
  simp only [cV,St.mk.injEq,and_true]
  funext s
  by_cases e1:some s=x.dst
  ·by_cases e2:some s=y.dst
   ·exfalso
    rw [← e1,← e2] at hdd
    simp at hdd
   ·simp only [if_pos e1,if_neg e2]
  ·simp only [if_neg e1]
 have nn:∀ b n,(∀ t ∈ bD ops x,st.fr t=(St.set ⟨st.fr,b,n,st.kf⟩ y.dst v2).fr t):=fun b n t ht=>(eV (nx':=0) (bx':=st.bx) hyx t ht).symm
 have sb:∀ fr b n kf d v,(St.set ⟨fr,b,n,kf⟩ d v).bx=b:=fun fr b n kf d v=>by rw [cV]
 have sk:∀ fr b n kf d v,(St.set ⟨fr,b,n,kf⟩ d v).kf=kf:=fun fr b n kf d v=>by rw [cV]
 have sn:∀ fr b n kf d v,(St.set ⟨fr,b,n,kf⟩ d v).nx=n:=fun fr b n kf d v=>by rw [cV]
 have sf:∀ fr b n kf b' n' kf' d v,(St.set ⟨fr,b,n,kf⟩ d v).fr=(St.set ⟨fr,b',n',kf'⟩ d v).fr:=fun fr b n kf b' n' kf' d v=>by simp only [cV]
 rcases hc with (hc|hc)|hc
 ·obtain ⟨rfl,rfl⟩:=k1 hc.1
  obtain ⟨q1,q2⟩:=k2 hc.2
  rw [sb] at q1;rw [sn] at q2
  subst q1;subst q2
  refine ⟨_,p2 st ag1 (by rw [sb]) (by rw [sn]), ?_⟩
  have:=p1 (St.set ⟨st.fr,st.bx,st.nx,st.kf⟩ y.dst v2) (nn _ _) (by rw [sb]) (by rw [sn])
  rw [sk] at this
  rw [sk,comm]
  exact this
 ·obtain ⟨rfl,rfl⟩:=k1 (by omega)
  refine ⟨_,p2 st ag1 (by rw [sb]) (by rw [sn]), ?_⟩
  have:=z1 hc (St.set ⟨st.fr,b2,n2,st.kf⟩ y.dst v2) (nn _ _)
  rw [sk,comm]
  rw [sf _ _ _ _ b2 n2 st.kf]
  simp only [cV] at this ⊢
  exact this
 ·have:=z2 hc st ag1
  obtain ⟨q1,q2⟩:=k2 (by omega)
  rw [sb] at q1;rw [sn] at q2
  subst q1;subst q2
  refine ⟨_,this, ?_⟩
  have:=p1 (St.set st y.dst v2) (nn st.bx st.nx) (sb st.fr _ _ _ _ _) (sn st.fr _ _ _ _ _)
  rw [show (st.set y.dst v2).kf=st.kf from sk st.fr st.bx st.nx st.kf _ _] at this
  rw [sk,comm,sf _ _ _ _ st.bx st.nx st.kf]
  exact this
def HB (S:Env) (ops:Array Oper):List Oper→St→St→Prop
 | [],st,s'=>st=s'
 | o :: r,st,s'=>∃ s,Ex S ops st o s∧HB S ops r s s'
theorem qp {K:St→Prop}:∀ {l:List Oper} {st:St},aK S ops l st K→∃ s',HB S ops l st s'∧K s'
 | [],st,h=>⟨st,rfl,h⟩
 | o :: r,st,h=>by
  obtain ⟨s,h1,h2⟩:=mB h
  obtain ⟨s',h3,h4⟩:=qp h2
  exact ⟨s',⟨s,h1,h3⟩,h4⟩
theorem uu {o:Oper} {l2:List Oper}:∀ {l1:List Oper} {st s':St},(∀ x ∈ l1,pa S.rcv ops x o=true)→HB S ops (l1 ++ o :: l2) st s'→∃ s,Ex S ops st o s∧HB S ops (l1 ++ l2) s s'
 | [],st,s',_,h=>h
 | x :: l1,st,s',hi,⟨s,h1,h2⟩=>by
  obtain ⟨s2,h3,h4⟩:=uu (fun y hy=>hi y (List.mem_cons_of_mem _ hy)) h2
  obtain ⟨s3,h5,h6⟩:=pO (hi x (List.mem_cons_self ..)) h1 h3
  exact ⟨s3,h5,s2,h6,h4⟩
def sj (rcv:Nat→Bool) (ops:Array Oper) (m:Nat→Nat):Bool :=
 (List.range ops.size).all fun i=>match ops[i]? with
  | none=>false
  | some o=>(o.after.all fun e => !Region.binds .any e || Nat.blt e.on i) &&
   (List.range i).all fun j=>match ops[j]? with
    | none=>false
    | some x=>(pa rcv ops x o && true) || ((m i).testBit j)
def cg (ops:Array Oper) (m:Nat→Nat):Bool :=
 (List.range ops.size).all fun i=>match ops[i]? with
  | none=>false
  | some o=>(List.range i).all fun j => !((m i).testBit j) || o.after.any fun e=>Region.binds .any e && (Nat.beq e.on j || ((m e.on).testBit j && Nat.blt j e.on))
def gA (listed:Array Bool) (i:Nat):Prop:=listed.getD i true=true
def eZ (ops:Array Oper) (listed:Array Bool):Prop:=∀ i o,ops[i]?=some o→gA listed i→∀ e ∈ o.after,Region.binds .any e=true→gA listed e.on
theorem bP {listed:Array Bool} {i:Nat} (hs:listed.size=ops.size):i ∈ Region.ready .any ops listed↔∃ o,ops[i]?=some o∧listed.getD i true=false∧∀ e ∈ o.after,Region.binds .any e=true→listed.getD e.on false=true:=by
 unfold Region.ready
 rw [List.mem_filter,List.mem_range]
 constructor
 ·rintro ⟨h1,h2⟩
  simp only [Bool.and_eq_true,Bool.not_eq_true'] at h2
  rw [Array.getElem?_eq_getElem h1] at h2
  refine ⟨_,Array.getElem?_eq_getElem h1,h2.1,fun e he hb => ?_⟩
  have:=h2.2
  simp only [Option.map_some,Option.getD_some,Array.all_eq_true] at this
  obtain ⟨k,hk,rfl⟩:=Array.mem_iff_getElem.1 he
  have:=this k hk
  simpa [hb] using this
 ·rintro ⟨o,ho,h1,h2⟩
  have hlt:i<ops.size:=by
   rcases Nat.lt_or_ge i ops.size with h|h
   ·exact h
   ·rw [Array.getElem?_eq_none h] at ho;cases ho
  refine ⟨hlt, ?_⟩
  rw [ho]
  simp only [Option.map_some,Option.getD_some,Bool.and_eq_true,Bool.not_eq_true']
  refine ⟨h1,Array.all_eq_true.2 fun k hk => ?_⟩
  have:=h2 _ (Array.getElem_mem hk)
  cases hb:Region.binds .any o.after[k] with
  | true=>simp [this hb]
  | false=>simp
theorem qI {m : Nat → Nat} {listed : Array Bool} (hm : cg ops m = true) (hcl : eZ ops listed) (hed : ∀ i o, ops[i]? = some o → ∀ e ∈ o.after, Region.binds .any e = true → e.on < i) (hsz : ∀ k, gA listed k → k < ops.size → True) :
  ∀ (n i:Nat),i<n→gA listed i→i<ops.size→∀ j,j<i→(m i).testBit j=true→gA listed j:=by
 intro n
 induction n with
 | zero=>intro i h;omega
 | succ n ih =>
  intro i hn hi hlt j hj hb
  have ho:=Array.getElem?_eq_getElem hlt
  have:=List.all_eq_true.1 hm i (List.mem_range.2 hlt)
  rw [ho] at this
  have:=List.all_eq_true.1 this j (List.mem_range.2 hj)
  simp only [hb,Bool.not_true,Bool.false_or] at this
  obtain ⟨k,hk,hh⟩:=Array.any_eq_true.1 this
  simp only [Bool.and_eq_true,Bool.or_eq_true,Nat.beq_eq] at hh
  obtain ⟨hbind,hh⟩:=hh
  have hmem:ops[i].after[k] ∈ ops[i].after:=Array.getElem_mem hk
  have hin:=hcl i _ ho hi _ hmem hbind
  have hle:=hed i _ ho _ hmem hbind
  rcases hh with hh|hh
  ·rw [← hh];exact hin
  ·exact ih _ (by omega) hin (by omega) j (by have:=hh.2;simp [Nat.blt] at this;omega) hh.1
theorem KU {m : Nat → Nat} (hd : sj S.rcv ops m = true) (hm : cg ops m = true) {K : St → Prop} : ∀ (fuel : Nat) (listed : Array Bool) (rest : List Nat) (st s' : St),
  listed.size=ops.size→rest.Pairwise (· < ·)→(∀ i,i ∈ rest↔i<ops.size∧listed.getD i true=false)→eZ ops listed→HB S ops (rest.map fun i=>ops.getD i default) st s'→K s'→rest.length≤fuel →
  fN S ops fuel listed st K:=by
 have hed:∀ i o,ops[i]?=some o→∀ e ∈ o.after,Region.binds .any e=true→e.on<i:=fun i o ho e he hb=>by
  have hlt:i<ops.size:=by
   rcases Nat.lt_or_ge i ops.size with h|h
   ·exact h
   ·rw [Array.getElem?_eq_none h] at ho;cases ho
  have:=List.all_eq_true.1 hd i (List.mem_range.2 hlt)
  rw [ho] at this
  simp only [Bool.and_eq_true] at this
  have:=this.1
  obtain ⟨k,hk,rfl⟩:=Array.mem_iff_getElem.1 he
  have:=(Array.all_eq_true.1 this) k hk
  simp only [hb,Bool.not_true,Bool.false_or,Nat.blt] at this
  have:=Nat.le_of_ble_eq_true this
  omega
 have noready:∀ (listed:Array Bool) (rest:List Nat),listed.size=ops.size→rest.Pairwise (· < ·)→(∀ i,i ∈ rest↔i<ops.size∧listed.getD i true=false)→Region.ready .any ops listed=[]→rest=[]:=by
  intro listed rest hs hp hr hno
  cases rest with
  | nil=>rfl
  | cons i r =>
   exfalso
   obtain ⟨hlt,hl⟩:=(hr i).1 (List.mem_cons_self ..)
   have:i ∈ Region.ready .any ops listed:=(bP hs).2 ⟨_,Array.getElem?_eq_getElem hlt,hl,fun e he hb=>by
    have hle:=hed i _ (Array.getElem?_eq_getElem hlt) e he hb
    cases hq:listed.getD e.on false with
    | true=>rfl
    | false =>
     exfalso
     have hq':listed.getD e.on true=false:=by
      have hl2:e.on<listed.size:=by omega
      rw [Array.getD,dif_pos hl2] at hq ⊢
      exact hq
     have hmem:=(hr e.on).2 ⟨by omega,hq'⟩
     rcases List.mem_cons.1 hmem with h|h
     ·omega
     ·have:=(List.pairwise_cons.1 hp).1 _ h;omega⟩
   rw [hno] at this
   cases this
 intro fuel
 induction fuel with
 | zero =>
  intro listed rest st s' hs hp hr hcl hx hk hlen
  have hnil:rest=[]:=List.eq_nil_of_length_eq_zero (by omega)
  subst hnil
  have hst:st=s':=hx
  subst hst
  refine ⟨?_,hk⟩
  rw [List.eq_nil_iff_forall_not_mem]
  intro i hi
  obtain ⟨o,ho,hl,_⟩:=(bP hs).1 hi
  have hlt:i<ops.size:=by
   rcases Nat.lt_or_ge i ops.size with h|h
   ·exact h
   ·rw [Array.getElem?_eq_none h] at ho;cases ho
  exact absurd ((hr i).2 ⟨hlt,hl⟩) (by simp)
 | succ fuel ih =>
  intro listed rest st s' hs hp hr hcl hx hk hlen
  refine ⟨fun hno => ?_,fun i hi => ?_⟩
  ·have:=noready listed rest hs hp hr hno
   subst this
   have hst:st=s':=hx
   rw [hst];exact hk
  ·obtain ⟨o,ho,hl,hdep⟩:=(bP hs).1 hi
   have hlt:i<ops.size:=by
    rcases Nat.lt_or_ge i ops.size with h|h
    ·exact h
    ·rw [Array.getElem?_eq_none h] at ho;cases ho
   have hmem:=(hr i).2 ⟨hlt,hl⟩
   rw [ho]
   obtain ⟨l1,l2,rfl⟩:=List.append_of_mem hmem
   have hpw:=List.pairwise_append.1 hp
   have hoi:ops.getD i default=o:=by rw [Array.getD_eq_getD_getElem?,ho];rfl
   rw [List.map_append,List.map_cons,hoi] at hx
   have hdep':∀ e ∈ o.after,Region.binds .any e=true→gA listed e.on:=fun e he hb=>by
    have:=hdep e he hb
    have h2:=hed i o ho e he hb
    have hl2:e.on<listed.size:=by omega
    unfold gA
    rw [Array.getD,dif_pos hl2] at this ⊢
    exact this
   have hind:∀ x ∈ l1.map (fun i=>ops.getD i default),pa S.rcv ops x o=true:=fun x hxm=>by
    obtain ⟨j,hj,rfl⟩:=List.mem_map.1 hxm
    have hji:j<i:=hpw.2.2 j hj i (List.mem_cons_self ..)
    obtain ⟨hjlt,hjl⟩:=(hr j).1 (List.mem_append_left _ hj)
    have h1:=List.all_eq_true.1 hd i (List.mem_range.2 hlt)
    rw [ho] at h1
    simp only [Bool.and_eq_true] at h1
    have h2:=List.all_eq_true.1 h1.2 j (List.mem_range.2 hji)
    rw [Array.getElem?_eq_getElem hjlt] at h2
    simp only [Bool.or_eq_true,Bool.and_true] at h2
    rcases h2 with h2|h2
    ·rw [Array.getD_eq_getD_getElem?,Array.getElem?_eq_getElem hjlt];exact h2
    ·exfalso
     have h3:=List.all_eq_true.1 hm i (List.mem_range.2 hlt)
     rw [ho] at h3
     have h4:=List.all_eq_true.1 h3 j (List.mem_range.2 hji)
     simp only [h2,Bool.not_true,Bool.false_or] at h4
     obtain ⟨k,hk',hh⟩:=Array.any_eq_true.1 h4
     simp only [Bool.and_eq_true,Bool.or_eq_true,Nat.beq_eq] at hh
     have hin:=hdep' _ (Array.getElem_mem hk') hh.1
     have hle:=hed i o ho _ (Array.getElem_mem hk') hh.1
     have:gA listed j:=by
      rcases hh.2 with q|q
      ·rw [← q];exact hin
      ·exact qI hm hcl hed (fun _ _ _=>trivial) (i+1) _ (by omega) hin (by omega) j (by have:=q.2;simp [Nat.blt] at this;omega) q.1
     unfold gA at this
     rw [this] at hjl
     cases hjl
   obtain ⟨s1,h1,h2⟩:=uu hind hx
   refine ja h1 ?_
   have hget:∀ k b,(listed.setIfInBounds i true).getD k b=if k=i then true else listed.getD k b:=fun k b=>by
    simp only [Array.getD_eq_getD_getElem?,Array.getElem?_setIfInBounds]
    by_cases hk:k=i
    ·subst hk;simp [hs,hlt]
    ·rw [if_neg (fun h=>hk h.symm),if_neg hk]
   refine ih _ (l1 ++ l2) s1 s' (by simpa using hs) ?_ (fun k => ?_) (fun k x hx' hin e he hb => ?_) (by rw [List.map_append];exact h2) hk (by simp at hlen ⊢;omega)
   ·refine List.pairwise_append.2 ⟨hpw.1,(List.pairwise_cons.1 hpw.2.1).2,fun a ha b hb=>hpw.2.2 a ha b (List.mem_cons_of_mem _ hb)⟩
   ·have hk:=hr k
    rw [hget]
    by_cases hki:k=i
    ·subst hki
     simp only [if_true]
     constructor
     ·intro hmm
      exfalso
      rcases List.mem_append.1 hmm with q|q
      ·have:=hpw.2.2 k q k (List.mem_cons_self ..);omega
      ·have:=(List.pairwise_cons.1 hpw.2.1).1 k q;omega
     ·rintro ⟨_,q⟩;cases q
    ·rw [if_neg hki,← hk]
     simp [hki]
   ·unfold gA at hin ⊢
    rw [hget] at hin ⊢
    by_cases hek:e.on=i
    ·rw [if_pos hek]
    ·rw [if_neg hek]
     by_cases hki:k=i
     ·subst hki
      rw [ho] at hx'
      cases hx'
      exact hdep' e he hb
     ·rw [if_neg hki] at hin
      exact hcl k x hx' hin e he hb
theorem Is {l:List Oper} {m:Nat→Nat} (hd:sj S.rcv l.toArray m=true) (hm:cg l.toArray m=true) {K:St→Prop} (h:aK S l.toArray l st K):fN S l.toArray l.toArray.size (Array.replicate l.toArray.size false) st K:=by
 obtain ⟨s',h1,h2⟩:=qp h
 refine KU hd hm _ _ (List.range l.length) st s' (by simp) List.pairwise_lt_range (fun i => ?_) (fun i o ho hi => ?_) ?_ h2 (by simp)
 ·rw [List.mem_range]
  simp only [List.size_toArray,Array.getD_eq_getD_getElem?,Array.getElem?_replicate]
  constructor
  ·intro h;exact ⟨h,by simp [h]⟩
  ·exact fun h=>h.1
 ·exfalso
  have hlt:i<l.toArray.size:=by
   rcases Nat.lt_or_ge i l.toArray.size with h|h
   ·exact h
   ·rw [Array.getElem?_eq_none h] at ho;cases ho
  unfold gA at hi
  simp only [Array.getD_eq_getD_getElem?,Array.getElem?_replicate,if_pos hlt] at hi
  cases hi
 ·have:(List.range l.length).map (fun i=>l.toArray.getD i default)=l:=by
   apply List.ext_getElem
   ·simp
   ·intro i h1 h2;simp [h2]
  rw [this];exact h1
theorem Ah {id:Nat} {l:List Oper} {Q:AExit→St→Prop} (hd:sj S.rcv l.toArray (fun i=>(Region.before l.toArray).getD i 0)=true) (hm:cg l.toArray (fun i=>(Region.before l.toArray).getD i 0)=true) (h:aK S l.toArray l st (Q .normal)):cw S (.region id l.toArray true) Q st:=by
 simp only [cw,if_pos]
 exact Is hd hm h
end
end Go.SL
namespace Go.SL
open Go
structure Sl {α:Type} (x:α):Type where
def Sl.of {α:Type} (x:α):Sl x:=⟨⟩
def rk (x:Option (Prop × SV)) (c:Prop) {K:SV→Prop} (_:Sl K):Prop :=
 match x with
 | some (vc,r)=>c∧vc∧K r
 | none=>False
theorem GS {vc c:Prop} {r:SV} {K:SV→Prop}:rk (some (vc,r)) c (Sl.of K)=(c∧vc∧K r):=rfl
def rg (g:Option Bool) (nx:Nat) (x:Option (Prop × SV)) {K:SV→Prop} (_:Sl K) {p:Prop} (_:Sl p):Prop :=
 match g,x with
 | some g,some (vc, .b r)=>r.lt nx∧(g=true→vc)∧K (.grd g r)
 | some g,some (vc, .grd q r)=>r.lt nx∧(g=true→vc∧q=true)∧K (.grd g r)
 | _,_=>p
theorem Ln {vc:Prop} {r:BV} {K:SV→Prop} {g u:Bool} {nx:Nat} {p:Prop} {q:Sl p}:rg (some g) nx (some (vc, .grd u r)) (Sl.of K) q=(r.lt nx∧(g=true→vc∧u=true)∧K (.grd g r)):=rfl
theorem II {vc:Prop} {r:BV} {K:SV→Prop} {g:Bool} {nx:Nat} {p:Prop} {q:Sl p}:rg (some g) nx (some (vc, .b r)) (Sl.of K) q=(r.lt nx∧(g=true→vc)∧K (.grd g r)):=rfl
def rc (x:Option (Prop × SV)) (c:Prop):Option (Prop × SV) :=
 match x with
 | some (vc,r)=>some (c∧vc,r)
 | none=>none
theorem Hp {vc c:Prop} {r:SV}:rc (some (vc,r)) c=some (c∧vc,r):=rfl
def dj (S:Env) (st:St) (f:FuncId) (args:List BV) {K:SV→St→Prop} (_:Sl K):Prop:=CallP S st f args K
def MP (g:Option Bool) (c:Prop) (S:Env) (st:St) (f:FuncId) (args:List BV) (d:Option Nat) {K:St→Prop} (_:Sl K):Prop :=
 match g with
 | some g => ((g = true → c ∧ CallP S st f args fun r st' => K (st'.set d r)) ∧ (g = false → K (st.set d .any))) ∨
   ∃ x:BV,x.lt st.nx∧(g=true→c∧CallP S st f args fun r st'=>st'.set d r=st.set d (.b x))∧K (st.set d (.grd g x))
 | none=>False
section
variable {S:Env} {ops:Array Oper} {rest:List Oper} {st:St} {K:St→Prop} {d:Option Nat} {ty:TypeId} {pos:String} {af:Array Edge} {gd:Nat × Bool}
theorem NI:aK S ops [] st K=K st:=rfl
theorem Mz {x:Operand}:aK S ops (⟨d, .move x,ty,pos,af,none⟩ :: rest) st K=aK S ops rest (st.set d (st.ev S x)) K:=by
 simp [aK,dD,gM,ro]
theorem FD {x:Operand}:aK S ops (⟨d, .assign x,ty,pos,af,none⟩ :: rest) st K=aK S ops rest (st.set d (st.ev S x)) K:=by
 simp [aK,dD,gM,ro]
theorem JV {c x y:Operand}:aK S ops (⟨d, .pick c x y,ty,pos,af,none⟩ :: rest) st K=rk (oq (st.ev S c) (st.ev S x) (st.ev S y)) True (Sl.of fun r=>aK S ops rest (st.set d r) K):=by
 simp only [aK,dD,gM,ro,rk]
 split
 ·rename_i h;simp only [h];simp
 ·rename_i h;simp only [h];simp [cu]
theorem ch {o : Oper} {K' : St → Prop} (hr : ∀ x, o.op ≠ .move x) (ha : ∀ x, o.op ≠ .assign x) (hp : ∀ c x y, o.op ≠ .pick c x y) (hM : ∀ K, cu S st (st.ev S) o.op K = False) :
  gM S st o K'=rk (aP S st.bx (st.ev S) o.op) (aI (o.op.operands.toList.map (st.ev S))) (Sl.of fun r=>K' (st.set o.dst r)):=by
 unfold gM ro
 split
 ·rename_i h
  split at h
  ·rename_i x hx;exact absurd hx (hr x)
  ·rename_i x hx;exact absurd hx (ha x)
  ·rename_i c x y hx;exact absurd hx (hp c x y)
  ·split at h
   ·rename_i h2
    simp only [Option.some.injEq,Prod.mk.injEq] at h
    obtain ⟨rfl,rfl⟩:=h
    rw [h2]
    simp only [rk,and_assoc]
   ·simp at h
 ·rename_i h
  split at h
  ·simp at h
  ·simp at h
  ·rename_i c x y hx;exact absurd hx (hp c x y)
  ·split at h
   ·simp at h
   ·rename_i h2
    rw [h2,hM]
    simp only [rk,and_false]
def fV (S:Env) (t:TypeId) (f:Nat) (x:SV):Option (Prop × SV) :=
 match S.fld t f with
 | some (off,sz,_)=>(kQ off x).map fun y=>(sz≠0,y)
 | none=>none
def jt (i:Nat):SV→Option (Prop × SV)
 | .tup vs=>some (i<vs.length, .b (vs.getD i .any))
 | _=>none
def wA:SV→Option (Prop × SV)
 | .b (.c (.ptr id off))=>some (True, .b (.c (.ptr id off)))
 | .b (.c (.pel id sz i off))=>some (True, .b (.c (.pel id sz i off)))
 | .b (.c (.ipt sz g off))=>some (True, .b (.c (.ipt sz g off)))
 | _=>none
def FC:SV→SV→Option (Prop × SV)
 | .b (.c (.p (.val (.int k a)))), .b (.c (.p (.val (.int k' b))))=>some (k=k', .v (.int k (if b<a then b else a)))
 | _,_=>none
def Eg:SV→SV→Option (Prop × SV)
 | .b (.c (.p (.val (.int k a)))), .b (.c (.p (.val (.int k' b))))=>some (k=k', .v (.int k (if b>a then b else a)))
 | _,_=>none
theorem Ki {t:TypeId} {x:Operand}:aK S ops (⟨d, .load t x,ty,pos,af,none⟩ :: rest) st K=rk (ct S t st.bx (st.ev S x).strip) (st.ev S x).cond (Sl.of fun r=>aK S ops rest (st.set d r) K):=by
 simp only [aK,dD]
 rw [ch (by simp) (by simp) (by simp) (fun _=>rfl)]
 simp [aP,Op.operands,aI]
theorem vS {t : TypeId} {x : Operand} {f : Nat} : aK S ops (⟨d, .fieldAddr t x f, ty, pos, af, none⟩ :: rest) st K =
  rk (fV S t f (st.ev S x).strip) (st.ev S x).cond (Sl.of fun r=>aK S ops rest (st.set d r) K):=by
 simp only [aK,dD]
 rw [ch (by simp) (by simp) (by simp) (fun _=>rfl),show aP S st.bx (st.ev S) (.fieldAddr t x f)=fV S t f (st.ev S x).strip from rfl]
 simp [Op.operands,aI]
theorem Gx {t:TypeId} {x:Operand} {f:Nat}:aK S ops (⟨d, .field t x f,ty,pos,af,none⟩ :: rest) st K=rk (lJ S t f (st.ev S x).strip) (st.ev S x).cond (Sl.of fun r=>aK S ops rest (st.set d r) K):=by
 simp only [aK,dD]
 rw [ch (by simp) (by simp) (by simp) (fun _=>rfl)]
 simp [aP,Op.operands,aI]
theorem vT {t : TypeId} {x i : Operand} : aK S ops (⟨d, .indexAddr t x i, ty, pos, af, none⟩ :: rest) st K =
  rk (eP S t (st.ev S x).strip (st.ev S i).strip) ((st.ev S x).cond∧(st.ev S i).cond) (Sl.of fun r=>aK S ops rest (st.set d r) K):=by
 simp only [aK,dD]
 rw [ch (by simp) (by simp) (by simp) (fun _=>rfl)]
 simp [aP,Op.operands,aI]
theorem IN {t : TypeId} {x i : Operand} : aK S ops (⟨d, .index t x i, ty, pos, af, none⟩ :: rest) st K =
  rk (lL S t (st.ev S x).strip (st.ev S i).strip) ((st.ev S x).cond∧(st.ev S i).cond) (Sl.of fun r=>aK S ops rest (st.set d r) K):=by
 simp only [aK,dD]
 rw [ch (by simp) (by simp) (by simp) (fun _=>rfl)]
 simp [aP,Op.operands,aI]
theorem AN {x : Operand} {i : Nat} : aK S ops (⟨d, .extract x i, ty, pos, af, none⟩ :: rest) st K =
  rk (jt i (st.ev S x).strip) (st.ev S x).cond (Sl.of fun r=>aK S ops rest (st.set d r) K):=by
 simp only [aK,dD]
 rw [ch (by simp) (by simp) (by simp) (fun _=>rfl),show aP S st.bx (st.ev S) (.extract x i)=jt i (st.ev S x).strip from rfl]
 simp [Op.operands,aI]
theorem MR {op : BinOp} {t yt : TypeId} {x y : Operand} : aK S ops (⟨d, .binOp op t x y yt, ty, pos, af, none⟩ :: rest) st K =
  rk (tJ S op t (st.ev S x).strip (st.ev S y).strip) ((st.ev S x).cond∧(st.ev S y).cond) (Sl.of fun r=>aK S ops rest (st.set d r) K):=by
 simp only [aK,dD]
 rw [ch (by simp) (by simp) (by simp) (fun _=>rfl)]
 simp [aP,Op.operands,aI]
theorem OR {op : UnOp} {t : TypeId} {x : Operand} : aK S ops (⟨d, .unOp op t x, ty, pos, af, none⟩ :: rest) st K =
  rk (Bc op (st.ev S x).strip) (st.ev S x).cond (Sl.of fun r=>aK S ops rest (st.set d r) K):=by
 simp only [aK,dD]
 rw [ch (by simp) (by simp) (by simp) (fun _=>rfl)]
 simp [aP,Op.operands,aI]
theorem LR {s t : TypeId} {x : Operand} : aK S ops (⟨d, .convert s t x, ty, pos, af, none⟩ :: rest) st K =
  rk (nV S s t (st.ev S x).strip) (st.ev S x).cond (Sl.of fun r=>aK S ops rest (st.set d r) K):=by
 simp only [aK,dD]
 rw [ch (by simp) (by simp) (by simp) (fun _=>rfl)]
 simp [aP,Op.operands,aI]
def xb (S:Env) (st:St):Option Operand→Prop
 | none=>True
 | some x=>(st.ev S x).cond
theorem IE {t : TypeId} {x : Operand} {lo hi : Option Operand} : aK S ops (⟨d, .slice t x lo hi none, ty, pos, af, none⟩ :: rest) st K =
  rk (mV S t (st.ev S x).strip (lo.map fun x=>(st.ev S x).strip) (hi.map fun x=>(st.ev S x).strip)) ((st.ev S x).cond∧xb S st lo∧xb S st hi) (Sl.of fun r=>aK S ops rest (st.set d r) K):=by
 simp only [aK,dD]
 rw [ch (by simp) (by simp) (by simp) (fun _=>rfl)]
 cases lo <;> cases hi <;> simp [aP,Op.operands,aI,xb]
theorem zd {x : Operand} : aK S ops (⟨d, .nilCheck x, ty, pos, af, none⟩ :: rest) st K =
  rk (wA (st.ev S x).strip) (st.ev S x).cond (Sl.of fun r=>aK S ops rest (st.set d r) K):=by
 simp only [aK,dD]
 rw [ch (by simp) (by simp) (by simp) (fun _=>rfl),show aP S st.bx (st.ev S) (.nilCheck x)=wA (st.ev S x).strip from rfl]
 simp [Op.operands,aI]
theorem Ot {x : Operand} {t : TypeId} : aK S ops (⟨d, .call ⟨.builtin .len, #[x], #[t]⟩, ty, pos, af, none⟩ :: rest) st K =
  rk (tg S t (st.ev S x).strip) (st.ev S x).cond (Sl.of fun r=>aK S ops rest (st.set d r) K):=by
 simp only [aK,dD]
 rw [ch (by simp) (by simp) (by simp) (fun _=>by simp [cu])]
 simp [aP,Op.operands,Call.operands,aI]
theorem NP {x y : Operand} {ts : Array TypeId} : aK S ops (⟨d, .call ⟨.builtin .min, #[x, y], ts⟩, ty, pos, af, none⟩ :: rest) st K =
  rk (FC (st.ev S x).strip (st.ev S y).strip) ((st.ev S x).cond∧(st.ev S y).cond) (Sl.of fun r=>aK S ops rest (st.set d r) K):=by
 simp only [aK,dD]
 rw [ch (by simp) (by simp) (by simp) (fun _=>by simp [cu]),show aP S st.bx (st.ev S) (.call ⟨.builtin .min, #[x,y],ts⟩)=FC (st.ev S x).strip (st.ev S y).strip from rfl]
 simp [Op.operands,Call.operands,aI]
theorem NB {x y : Operand} {ts : Array TypeId} : aK S ops (⟨d, .call ⟨.builtin .max, #[x, y], ts⟩, ty, pos, af, none⟩ :: rest) st K =
  rk (Eg (st.ev S x).strip (st.ev S y).strip) ((st.ev S x).cond∧(st.ev S y).cond) (Sl.of fun r=>aK S ops rest (st.set d r) K):=by
 simp only [aK,dD]
 rw [ch (by simp) (by simp) (by simp) (fun _=>by simp [cu]),show aP S st.bx (st.ev S) (.call ⟨.builtin .max, #[x,y],ts⟩)=Eg (st.ev S x).strip (st.ev S y).strip from rfl]
 simp [Op.operands,Call.operands,aI]
def mk (x:Option (Prop × SV × St)) {K:SV→St→Prop} (_:Sl K):Prop :=
 match x with
 | some (vc,r,s)=>vc∧K r s
 | none=>False
theorem Gk {vc:Prop} {r:SV} {s:St} {K:SV→St→Prop}:mk (some (vc,r,s)) (Sl.of K)=(vc∧K r s):=rfl
def vo (S:Env) (st:St) (t:TypeId):Option (Prop × SV × St) :=
 match S.zero t with
 | some z=>some (True, .b (.c (.ptr st.nx 0)),st.newBox (.fix (z.map CV.ofV)))
 | none=>none
def GW (st:St) (x:SV):Option (Prop × SV × St) :=
 match x with
 | .b v=>some (v.one, .b (.c (.ptr st.nx 0)),st.newBox (.fix v.cells))
 | _=>none
def mD (S:Env) (st:St) (t:TypeId) (ps:List (Nat × Operand)):Option (Prop × SV × St) :=
 match S.bld t,S.zero t with
 | some pl,some z=>match eK (lO pl) (st.ev S) ps (z.map CV.ofV) with
  | some (vc,cs)=>some (vc, .b (.agg cs),st)
  | none=>none
 | _,_=>none
def iV (S:Env) (st:St) (t:TypeId) (len:Nat) (ps:List (Nat × Operand)):Option (Prop × SV × St) :=
 match S.el t with
 | some (none,e,s,_)=>match S.zero e with
  | some z=>match eK (fun i=>some (i * s,s)) (st.ev S) ps ((List.range (len * s)).map fun i=>CV.ofV (z.getD (i % z.length) undef)) with
   | some (vc,cs)=>some (vc∧0<s∧z.length=s∧len * s≤16777216∧0≤len, .b (.c (.own st.nx len)),st.newBox (.arr e s len fun i j=>(cs.getD (i * s+j) .any).toP))
   | none=>none
  | none=>none
 | _=>none
def vj (S:Env) (st:St) (t:TypeId) (p x:SV):Option (Prop × SV × St) :=
 match p,x,S.ti t with
 | .b (.c (.ptr id off)), .b v,some (sz,_)=>match st.bx id with
  | some (.fix cs)=>some (v.cells.length=sz∧off+sz≤cs.length∧v.one, .any,st.setBox id (.fix (gP cs off v.cells)))
  | _=>none
 | .b (.c (.pel id s i off)), .b v,some (sz,_)=>match st.bx id with
  | some (.arr e s' n f) => some (s = s' ∧ i < n ∧ off + sz ≤ s ∧ v.cells.length = sz ∧ v.one ∧ v.lt 0, .any,
    st.setBox id (.arr e s' n fun i' j=>if i'=i then (if off≤j∧j<off+sz then (v.cells.getD (j - off) .any).toP else f i j) else f i' j))
  | _=>none
 | _,_,_=>none
def Env.byt (S:Env) (e:TypeId):Option Nat:=(S.P.info? e).map (·.bytes)
def zX (S:Env) (st:St) (t:TypeId) (l c:SV):Option (Prop × SV × St) :=
 match l,c,S.el t with
 | .b (.c (.p (.val (.int _ l)))), .b (.c (.p (.val (.int _ c)))),some (none,e,s,_)=>match S.zero e,S.byt e with
  | some z, some by' => some (0 ≤ l ∧ l ≤ c ∧ (by' : Int) * c ≤ 281474976710656 ∧ c ≤ 9223372036854775807 ∧ 0 < s ∧ z.length = s,
    .b (.c (.own st.nx l.toNat)),st.newBox (.arr e s l.toNat fun _ j => .val (z.getD j undef)))
  | _,_=>none
 | _,_,_=>none
def pI (S:Env) (st:St) (t t':TypeId) (x y:SV):Option (Prop × SV × St) :=
 match S.el t,oV st.bx y with
 | some (none,e,s,_),some (vc,sz,m,g)=>match S.byt e,S.zero e,x with
  | some by',some z, .b (.c (.p (.val (.slice none 0 0)))) =>
   some (vc∧t=t'∧(sz=s∨m=0)∧0<s∧z.length=s∧m * by'≤140737488355328∧m≤maxLen, .b (.c (.own st.nx m)),st.newBox (.arr e s m g))
  | some by',some z, .b (.c (.own id n))=>match st.bx id with
   | some (.arr e' s' n' f) =>
    some (vc∧t=t'∧e=e'∧s=s'∧n≤n'∧(sz=s∨m=0)∧0<s∧z.length=s∧(n+m) * by'≤140737488355328∧n+m≤maxLen,
     .b (.c (.own st.nx (n+m))),(st.delBox id).newBox (.arr e s (n+m) (ix n f g)))
   | _=>none
  | _,_,_=>none
 | _,_=>none
def zY (S:Env) (st:St) (t:TypeId) (x y:SV):Option (Prop × SV × St) :=
 match S.el t,x,y with
 | some (none,_,s,_), .b (.c (.sub id s1 lo n)), .b (.c (.p (.lst sz m g)))=>match st.bx id with
  | some (.arr e' s2 n' f)=>some (s1=s∧s2=s∧sz=s∧n≤m∧lo+n≤n'∧0<n, .b (.c (.p (.val (.int .i64 n)))),st.setBox id (.arr e' s2 n' fun i j=>if lo≤i∧i<lo+n then g (i - lo) j else f i j))
  | _=>none
 | _,_,_=>none
theorem Ik {t t':TypeId} {x y:Operand} {K:SV→St→Prop}:cu S st (st.ev S) (.call ⟨.builtin .copy, #[x,y], #[t,t']⟩) K=mk (zY S st t (st.ev S x).strip (st.ev S y).strip) (Sl.of K):=by
 simp only [cu,zY]
 split
 ·split <;> simp_all [mk]
 ·simp_all [mk]
theorem Dw {t:TypeId} {K:SV→St→Prop}:cu S st (st.ev S) (.alloc t) K=mk (vo S st t) (Sl.of K):=by
 simp only [cu,vo];split <;> simp_all [mk]
theorem JS {t:TypeId} {x:Operand} {K:SV→St→Prop}:cu S st (st.ev S) (.box t x) K=mk (GW st (st.ev S x).strip) (Sl.of K):=by
 simp only [cu,GW];split <;> simp_all [mk]
theorem xo {t:TypeId} {ps:Array (Nat × Operand)} {K:SV→St→Prop}:cu S st (st.ev S) (.build t ps) K=mk (mD S st t ps.toList) (Sl.of K):=by
 simp only [cu,mD]
 split
 ·split <;> simp_all [mk]
 ·simp_all [mk]
theorem sR {t:TypeId} {n:Nat} {ps:Array (Nat × Operand)} {K:SV→St→Prop}:cu S st (st.ev S) (.buildSlice t n ps) K=mk (iV S st t n ps.toList) (Sl.of K):=by
 simp only [cu,iV]
 split
 ·split
  ·split <;> simp_all [mk]
  ·simp_all [mk]
 ·simp_all [mk]
theorem EF {t:TypeId} {p x:Operand} {K:SV→St→Prop}:cu S st (st.ev S) (.store t p x) K=mk (vj S st t (st.ev S p).strip (st.ev S x).strip) (Sl.of K):=by
 simp only [cu,vj]
 split
 ·split <;> simp_all [mk]
 ·split <;> simp_all [mk]
 ·simp_all [mk]
theorem Jc {t:TypeId} {l c:Operand} {K:SV→St→Prop}:cu S st (st.ev S) (.makeSlice t l c) K=mk (zX S st t (st.ev S l).strip (st.ev S c).strip) (Sl.of K):=by
 simp only [cu,zX,Env.byt]
 split
 ·rename_i e s _ _ _ _
  cases hz:S.zero e with
  | none=>simp_all [mk]
  | some z =>
   cases hi:S.P.info? e with
   | none=>simp_all [mk]
   | some i=>simp_all [mk]
 ·simp_all [mk]
theorem AE {t t':TypeId} {x y:Operand} {K:SV→St→Prop}:cu S st (st.ev S) (.call ⟨.builtin .append, #[x,y], #[t,t']⟩) K=mk (pI S st t t' (st.ev S x).strip (st.ev S y).strip) (Sl.of K):=by
 simp only [cu,pI,Env.byt]
 split
 ·rename_i e s ag vc sz m g _ _
  cases hi:S.P.info? e with
  | none=>simp_all [mk]
  | some i =>
   cases hz:S.zero e with
   | none=>simp_all [mk]
   | some z =>
    simp only [*,Option.map_some]
    split
    ·simp_all [mk]
    ·split <;> simp_all [mk]
    ·simp_all [mk]
 ·simp_all [mk]
theorem pD {o:Oper} {K':St→Prop} (hro:ro S st.bx (st.ev S) o.op=none):gM S st o K'=(aI (o.op.operands.toList.map (st.ev S))∧cu S st (st.ev S) o.op fun r st'=>K' (st'.set o.dst r)):=by
 unfold gM;rw [hro]
theorem If {t : TypeId} : aK S ops (⟨d, .alloc t, ty, pos, af, none⟩ :: rest) st K =
  mk (vo S st t) (Sl.of fun r st'=>aK S ops rest (st'.set d r) K):=by
 simp only [aK,dD];rw [pD rfl,Dw];simp [Op.operands,aI]
theorem Ol {t : TypeId} {x : Operand} : aK S ops (⟨d, .box t x, ty, pos, af, none⟩ :: rest) st K =
  ((st.ev S x).cond∧mk (GW st (st.ev S x).strip) (Sl.of fun r st'=>aK S ops rest (st'.set d r) K)):=by
 simp only [aK,dD];rw [pD rfl,JS];simp [Op.operands,aI]
theorem IB {t : TypeId} {ps : Array (Nat × Operand)} : aK S ops (⟨d, .build t ps, ty, pos, af, none⟩ :: rest) st K =
  (aI (ps.toList.map fun p=>st.ev S p.2)∧mk (mD S st t ps.toList) (Sl.of fun r st'=>aK S ops rest (st'.set d r) K)):=by
 simp only [aK,dD];rw [pD rfl,xo];simp [Op.operands];exact fun _=>Iff.rfl
theorem vN {t : TypeId} {n : Nat} {ps : Array (Nat × Operand)} : aK S ops (⟨d, .buildSlice t n ps, ty, pos, af, none⟩ :: rest) st K =
  (aI (ps.toList.map fun p=>st.ev S p.2)∧mk (iV S st t n ps.toList) (Sl.of fun r st'=>aK S ops rest (st'.set d r) K)):=by
 simp only [aK,dD];rw [pD rfl,sR];simp [Op.operands];exact fun _=>Iff.rfl
theorem GZ {t : TypeId} {x y : Operand} : aK S ops (⟨d, .store t x y, ty, pos, af, none⟩ :: rest) st K =
  (((st.ev S x).cond∧(st.ev S y).cond)∧mk (vj S st t (st.ev S x).strip (st.ev S y).strip) (Sl.of fun r st'=>aK S ops rest (st'.set d r) K)):=by
 simp only [aK,dD];rw [pD rfl,EF];simp [Op.operands,aI]
theorem LX {t : TypeId} {x y : Operand} : aK S ops (⟨d, .makeSlice t x y, ty, pos, af, none⟩ :: rest) st K =
  (((st.ev S x).cond∧(st.ev S y).cond)∧mk (zX S st t (st.ev S x).strip (st.ev S y).strip) (Sl.of fun r st'=>aK S ops rest (st'.set d r) K)):=by
 simp only [aK,dD];rw [pD rfl,Jc];simp [Op.operands,aI]
theorem DI {x y : Operand} {t t' : TypeId} : aK S ops (⟨d, .call ⟨.builtin .append, #[x, y], #[t, t']⟩, ty, pos, af, none⟩ :: rest) st K =
  (((st.ev S x).cond∧(st.ev S y).cond)∧mk (pI S st t t' (st.ev S x).strip (st.ev S y).strip) (Sl.of fun r st'=>aK S ops rest (st'.set d r) K)):=by
 simp only [aK,dD];rw [pD rfl,AE];simp [Op.operands,Call.operands,aI]
theorem Lp {x y : Operand} {t t' : TypeId} : aK S ops (⟨d, .call ⟨.builtin .copy, #[x, y], #[t, t']⟩, ty, pos, af, none⟩ :: rest) st K =
  (((st.ev S x).cond∧(st.ev S y).cond)∧mk (zY S st t (st.ev S x).strip (st.ev S y).strip) (Sl.of fun r st'=>aK S ops rest (st'.set d r) K)):=by
 simp only [aK,dD];rw [pD rfl,Ik];simp [Op.operands,Call.operands,aI]
theorem Kx {f : FuncId} {args : Array Operand} {ts : Array TypeId} : aK S ops (⟨d, .call ⟨.value (.func f), args, ts⟩, ty, pos, af, none⟩ :: rest) st K =
  (aI (args.toList.map (st.ev S))∧dj S st f (args.toList.map fun x=>cM (st.ev S x)) (Sl.of fun r st'=>aK S ops rest (st'.set d r) K)):=by
 simp only [aK,dD]
 rw [pD (by simp [ro,aP])]
 simp [Op.operands,Call.operands,aI,cu,St.ev,SV.cond,dj]
end
section
variable {S:Env} {ops:Array Oper} {rest:List Oper} {st:St} {K:St→Prop} {d:Option Nat} {ty:TypeId} {pos:String} {af:Array Edge} {j:Nat} {want:Bool} {bx:Nat→Option Bx} {ev:Operand→SV}
theorem fp {op:Op} (hr:∀ x,op ≠ .move x) (ha:∀ x,op ≠ .assign x) (hp:∀ c x y,op ≠ .pick c x y):ro S bx ev op=rc (aP S bx ev op) (aI (op.operands.toList.map ev)):=by
 unfold ro rc
 split
 ·rename_i x;exact absurd rfl (hr x)
 ·rename_i x;exact absurd rfl (ha x)
 ·rename_i c x y;exact absurd rfl (hp c x y)
 ·rfl
theorem Hf {x:Operand}:ro S bx ev (.move x)=some (True,ev x):=rfl
theorem AL {x:Operand}:ro S bx ev (.assign x)=some (True,ev x):=rfl
theorem Ij {c x y:Operand}:ro S bx ev (.pick c x y)=oq (ev c) (ev x) (ev y):=rfl
theorem kZ {t:TypeId} {x:Operand}:ro S bx ev (.load t x)=rc (ct S t bx (ev x).strip) (ev x).cond:=by
 rw [fp (by simp) (by simp) (by simp)];simp [aP,Op.operands,aI]
theorem vk {t:TypeId} {x:Operand} {f:Nat}:ro S bx ev (.fieldAddr t x f)=rc (fV S t f (ev x).strip) (ev x).cond:=by
 rw [fp (by simp) (by simp) (by simp)];simp [aP,fV,Op.operands,aI];rfl
theorem Dd {t:TypeId} {x:Operand} {f:Nat}:ro S bx ev (.field t x f)=rc (lJ S t f (ev x).strip) (ev x).cond:=by
 rw [fp (by simp) (by simp) (by simp)];simp [aP,Op.operands,aI]
theorem uT {t:TypeId} {x i:Operand}:ro S bx ev (.indexAddr t x i)=rc (eP S t (ev x).strip (ev i).strip) ((ev x).cond∧(ev i).cond):=by
 rw [fp (by simp) (by simp) (by simp)];simp [aP,Op.operands,aI]
theorem CH {t:TypeId} {x i:Operand}:ro S bx ev (.index t x i)=rc (lL S t (ev x).strip (ev i).strip) ((ev x).cond∧(ev i).cond):=by
 rw [fp (by simp) (by simp) (by simp)];simp [aP,Op.operands,aI]
theorem zq {x:Operand} {i:Nat}:ro S bx ev (.extract x i)=rc (jt i (ev x).strip) (ev x).cond:=by
 rw [fp (by simp) (by simp) (by simp)];simp [aP,jt,Op.operands,aI];rfl
theorem JJ {op:BinOp} {t yt:TypeId} {x y:Operand}:ro S bx ev (.binOp op t x y yt)=rc (tJ S op t (ev x).strip (ev y).strip) ((ev x).cond∧(ev y).cond):=by
 rw [fp (by simp) (by simp) (by simp)];simp [aP,Op.operands,aI]
theorem Oo {op:UnOp} {t:TypeId} {x:Operand}:ro S bx ev (.unOp op t x)=rc (Bc op (ev x).strip) (ev x).cond:=by
 rw [fp (by simp) (by simp) (by simp)];simp [aP,Op.operands,aI]
theorem Hz {s t:TypeId} {x:Operand}:ro S bx ev (.convert s t x)=rc (nV S s t (ev x).strip) (ev x).cond:=by
 rw [fp (by simp) (by simp) (by simp)];simp [aP,Op.operands,aI]
theorem xG {x:Operand}:ro S bx ev (.nilCheck x)=rc (wA (ev x).strip) (ev x).cond:=by
 rw [fp (by simp) (by simp) (by simp)];simp [aP,wA,Op.operands,aI];rfl
theorem Lf {x:Operand} {t:TypeId}:ro S bx ev (.call ⟨.builtin .len, #[x], #[t]⟩)=rc (tg S t (ev x).strip) (ev x).cond:=by
 rw [fp (by simp) (by simp) (by simp)];simp [aP,Op.operands,Call.operands,aI]
theorem PS {op : Op} : aK S ops (⟨d, op, ty, pos, af, some (j, want)⟩ :: rest) st K =
  rg (fX st ((ops[j]?).bind (·.dst)) want) st.nx (ro S st.bx (st.ev S) op) (Sl.of fun r=>aK S ops rest (st.set d r) K) (Sl.of (aK S ops (⟨d,op,ty,pos,af,some (j,want)⟩ :: rest) st K)):=by
 unfold rg
 split
 ·rename_i g vc r h1 h2
  simp only [aK,dD]
  rw [h1]
  simp only [h2]
 ·rename_i g vc u r h1 h2
  simp only [aK,dD]
  rw [h1]
  simp only [h2]
 ·rfl
theorem Ly {f : FuncId} {args : Array Operand} {ts : Array TypeId} : aK S ops (⟨d, .call ⟨.value (.func f), args, ts⟩, ty, pos, af, some (j, want)⟩ :: rest) st K =
  MP (fX st ((ops[j]?).bind (·.dst)) want) (aI (args.toList.map (st.ev S))) S st f (args.toList.map fun x=>cM (st.ev S x)) d (Sl.of fun st'=>aK S ops rest st' K):=by
 simp only [aK,dD]
 cases fX st ((ops[j]?).bind (·.dst)) want with
 | none=>rfl
 | some g =>
  simp only [MP]
  rw [show ro S st.bx (st.ev S) (.call ⟨.value (.func f),args,ts⟩)=none by simp [ro,aP]]
  have hm : ∀ K' : St → Prop, gM S st ⟨d, .call ⟨.value (.func f), args, ts⟩, ty, pos, af, some (j, want)⟩ K' =
    (aI (args.toList.map (st.ev S))∧CallP S st f (args.toList.map fun x=>cM (st.ev S x)) fun r st'=>K' (st'.set d r)):=fun K'=>by
   rw [pD (by simp [ro,aP])]
   simp [Op.operands,Call.operands,aI,cu,St.ev,SV.cond]
  simp only [hm]
end
def OM (g:Option Bool) (nx:Nat) (x:Option (Prop × SV × St)) (c:Prop) {K:SV→Prop} (_:Sl K) {p:Prop} (_:Sl p):Prop :=
 match g,x with
 | some g,some (vc, .b r,_)=>(r.lt nx∧(g=true→c∧vc)∧K (.grd g r))∨p
 | _,_=>p
theorem Ct {vc c:Prop} {r:BV} {K:SV→Prop} {g:Bool} {nx:Nat} {p:Prop} {q:Sl p} {s:St} (h:r.lt nx∧(g=true→c∧vc)∧K (.grd g r)):OM (some g) nx (some (vc, .b r,s)) c (Sl.of K) q := .inl h
section
variable {S:Env} {ops:Array Oper} {rest:List Oper} {st:St} {K:St→Prop} {d:Option Nat} {ty:TypeId} {pos:String} {af:Array Edge} {j:Nat} {want:Bool}
theorem Bv {t:TypeId} {ps:List (Nat × Operand)} {vc:Prop} {r:SV} {s:St} (h:mD S st t ps=some (vc,r,s)):s=st:=by
 unfold mD at h
 split at h
 ·split at h
  ·simp only [Option.some.injEq,Prod.mk.injEq] at h;exact h.2.2.symm
  ·cases h
 ·cases h
theorem Hc {t : TypeId} {ps : Array (Nat × Operand)} : aK S ops (⟨d, .build t ps, ty, pos, af, some (j, want)⟩ :: rest) st K =
  OM (fX st ((ops[j]?).bind (·.dst)) want) st.nx (mD S st t ps.toList) (aI (ps.toList.map fun p=>st.ev S p.2)) (Sl.of fun r=>aK S ops rest (st.set d r) K) (Sl.of (aK S ops (⟨d, .build t ps,ty,pos,af,some (j,want)⟩ :: rest) st K)):=by
 unfold OM
 split
 ·rename_i g vc r s h1 h2
  have hs:=Bv h2
  subst hs
  refine propext ⟨fun h => .inr h,fun h => ?_⟩
  rcases h with h|h
  ·simp only [aK,dD]
   rw [h1]
   have hro:ro S s.bx (s.ev S) (.build t ps)=none:=rfl
   simp only [hro]
   refine .inr ⟨r,h.1,fun hg => ?_,h.2.2⟩
   rw [pD hro]
   refine ⟨?_, ?_⟩
   ·have:=(h.2.1 hg).1
    simp only [Op.operands,List.map_map]
    exact this
   ·show cu S s (s.ev S) (.build t ps) _
    rw [xo,h2]
    exact ⟨(h.2.1 hg).2,rfl⟩
  ·exact h
 ·rfl
end
section
variable {S:Env} {ops:Array Oper} {rest:List Oper} {st:St} {K:St→Prop} {d:Option Nat} {ty:TypeId} {pos:String} {af:Array Edge} {gd:Nat × Bool}
theorem LA {t:Nat}:st.ev S (.tmp t)=st.fr t:=rfl
theorem DP {v:Value}:st.ev S (.const v) = .b (.c (.p (.val v))):=rfl
theorem HV {f:Nat}:st.ev S (.func f) = .v (.func (.func f) #[] #[]):=rfl
theorem BL {g:Nat}:st.ev S (.global g)=(match S.gl g with|some (n,f) => .b (.c (.ipt n f 0))|none => .any):=rfl
theorem CD {v:SV}:st.set none v=st:=rfl
theorem MH {k s:Nat} {v:SV}:(st.set (some k) v).fr s=if s=k then v else st.fr s:=rfl
theorem cR {k:Option Nat} {v:SV}:(st.set k v).bx=st.bx:=by cases k <;> rfl
theorem ee {k:Option Nat} {v:SV}:(st.set k v).nx=st.nx:=by cases k <;> rfl
theorem BM {x:Bx}:(st.newBox x).fr=st.fr:=rfl
theorem BD {x:Bx} {i:Nat}:(st.newBox x).bx i=if i=st.nx then some x else st.bx i:=rfl
theorem dS {x:Bx}:(st.newBox x).nx=st.nx+1:=rfl
theorem BP {x:Bx} {i:Nat}:(st.setBox i x).fr=st.fr:=rfl
theorem Bq {x:Bx} {i j:Nat}:(st.setBox i x).bx j=if j=i then some x else st.bx j:=rfl
theorem dW {x:Bx} {i:Nat}:(st.setBox i x).nx=st.nx:=rfl
theorem AC {i:Nat}:(st.delBox i).fr=st.fr:=rfl
theorem Cb {i j:Nat}:(st.delBox i).bx j=if j=i then none else st.bx j:=rfl
theorem dV {i:Nat}:(st.delBox i).nx=st.nx:=rfl
theorem LD {args:List BV}:(pZ args).fr=gp args 0:=rfl
theorem MC {args:List BV} {i:Nat}:(pZ args).bx i=none:=rfl
theorem Mo {args:List BV}:(pZ args).nx=0:=rfl
theorem Jy {cs:List PV} {args:List BV} {s:Nat}:(PW cs args).fr s=if s=0 then .b (.c (.ptr 0 0)) else gp args 1 s:=rfl
theorem Lz {cs:List PV} {args:List BV} {i:Nat}:(PW cs args).bx i=if i=0 then some (.fix (cs.map CV.p)) else none:=rfl
theorem Ke {cs:List PV} {args:List BV}:(PW cs args).nx=1:=rfl
theorem yw {k s:Nat}:gp [] k s = .any:=rfl
theorem wI {x:BV} {r:List BV} {k s:Nat}:gp (x :: r) k s=if s=k then .b x else gp r (k+1) s:=rfl
theorem Ef {s:Nat}:jB [] s = .any:=rfl
theorem tB {k s:Nat} {v:SV} {r:List (Nat × SV)}:jB ((k,v) :: r) s=if s=k then v else jB r s:=rfl
theorem EW {s:Nat}:fu [] s=none:=rfl
theorem jC {k s:Nat} {v:Bx} {r:List (Nat × Bx)}:fu ((k,v) :: r) s=if s=k then some v else fu r s:=rfl
theorem Iz {x:BV}:(SV.b x).strip = .b x:=rfl
theorem Cc {p:Bool} {x:BV}:(SV.grd p x).strip = .b x:=rfl
theorem Ca {x:List BV}:(SV.tup x).strip = .tup x:=rfl
theorem MG {x:BV}:(SV.b x).cond=True:=rfl
theorem CX {p:Bool} {x:BV}:(SV.grd p x).cond=(p=true):=rfl
theorem CN {x:List BV}:(SV.tup x).cond=True:=rfl
theorem Fa {x:BV}:cM (.b x)=x:=rfl
theorem zl {p:Bool} {x:BV}:cM (.grd p x)=x:=rfl
theorem ya:aI []=True:=rfl
theorem vO {x:SV} {r:List SV}:aI (x :: r)=(x.cond∧aI r):=rfl
theorem yT:xb S st none=True:=rfl
theorem yO {x:Operand}:xb S st (some x)=(st.ev S x).cond:=rfl
theorem ah {n:St→Prop} {Q:AExit→St→Prop}:fv n Q .normal st=n st:=rfl
theorem Bt {n:St→Prop} {Q:AExit→St→Prop}:fv n Q .ret st=Q .ret st:=rfl
theorem yE {n:St→Prop} {Q:AExit→St→Prop} {id:Nat}:fv n Q (.exit id) st=Q (.exit id) st:=rfl
theorem jf {id:Nat} {Q:AExit→St→Prop}:iW id Q .normal st=Q .normal st:=rfl
theorem yy {id:Nat} {Q:AExit→St→Prop}:iW id Q .ret st=Q .ret st:=rfl
theorem wi {id id':Nat} {Q:AExit→St→Prop}:iW id Q (.exit id') st=if id'=id then Q .normal st else Q (.exit id') st:=rfl
theorem Di {rs:List ResultVar} {R:SV→Prop}:FP S rs R .ret st=vF S rs R st:=rfl
theorem xz {rs:List ResultVar} {R:SV→Prop}:FP S rs R .normal st=vF S rs R st:=rfl
theorem Fi {rs:List ResultVar} {R:SV→List PV→Prop}:Ns S rs R .ret st=Cz S rs R st:=rfl
theorem xp {rs:List ResultVar} {R:SV→List PV→Prop}:Ns S rs R .normal st=Cz S rs R st:=rfl
end
section
variable {S:Env} {st:St} {Q:AExit→St→Prop}
theorem kg {id:Nat} {l:List Oper} {y:Code} (h:∀ K:St→Prop,(∀ s,cw S y Q s→K s)→aK S l.toArray l st K):cw S (.seq (.region id l.toArray false) y) Q st :=
 rl (og (h _ fun _ h=>h))
theorem Ha {id:Nat} {l:List Oper} (h:∀ K:St→Prop,(∀ s,Q .normal s→K s)→aK S l.toArray l st K):cw S (.region id l.toArray false) Q st :=
 og (h _ fun _ h=>h)
theorem Dm {id : Nat} {l : List Oper} {y : Code} (hd : sj S.rcv l.toArray (fun i => (Region.before l.toArray).getD i 0) = true) (hm : cg l.toArray (fun i => (Region.before l.toArray).getD i 0) = true)
  (h:∀ K:St→Prop,(∀ s,cw S y Q s→K s)→aK S l.toArray l st K):cw S (.seq (.region id l.toArray true) y) Q st :=
 rl (Ah hd hm (h _ fun _ h=>h))
theorem Db {id : Nat} {l : List Oper} (hd : sj S.rcv l.toArray (fun i => (Region.before l.toArray).getD i 0) = true) (hm : cg l.toArray (fun i => (Region.before l.toArray).getD i 0) = true)
  (h:∀ K:St→Prop,(∀ s,Q .normal s→K s)→aK S l.toArray l st K):cw S (.region id l.toArray true) Q st :=
 Ah hd hm (h _ fun _ h=>h)
theorem kO {x y z:Code} (h:cw S (.seq x (.seq y z)) Q st):cw S (.seq (.seq x y) z) Q st :=
 cC x (fun e s hs=>by cases e <;> exact hs) h
theorem ua {c:Operand} {x y z:Code} {t:Bool} (hc:st.ev S c = .t t) (h1:t=true→cw S (.seq x z) Q st) (h2:t=false→cw S (.seq y z) Q st):cw S (.seq (.cond c x y) z) Q st :=
 jS hc h1 h2
theorem Dz {z:Code} (h:cw S z Q st):cw S (.seq .skip z) Q st := .inr h
theorem AY {z:Code} {l:Nat} (h:cw S z Q st):cw S (.seq (.label l) z) Q st := .inr h
theorem iF {z:Code} (h:Q .ret st):cw S (.seq .ret z) Q st:=h
theorem EM {z:Code} {id:Nat} (h:Q (.exit id) st):cw S (.seq (.exit id) z) Q st:=h
theorem nQ {z x:Code} {id:Nat} (h:∀ K:St→Prop,(∀ s,cw S z Q s→K s)→cw S x (iW id (fv K Q)) st):cw S (.seq (.block id x) z) Q st :=
 rl (h _ fun _ h=>h)
end
def eA:List BV→Prop
 | []=>True
 | x :: r=>x.lt 0∧eA r
theorem bL:∀ {l:List BV},eA l→∀ x ∈ l,BV.lt 0 x
 | _ :: _,h,_, .head _=>h.1
 | _ :: _,h,_, .tail _ hm=>bL h.2 _ hm
theorem cG:∀ (l:List BV),fg l l
 | []=>trivial
 | _ :: r=>⟨fun _ _ _ _ h=>h,cG r⟩
section
variable {S:Env} {st:St} {f:FuncId} {args args':List BV} {K:SV→St→Prop}
theorem vq {X:SV} (h:aD S f args (fun r=>r=X)) (hl:eA args) (hk:K X st):dj S st f args (Sl.of K) :=
 .pure args _ h (cG _) (bL hl) hk
theorem EG {X:SV} (h:wP S f args X) (hl:eA args) (hk:K X st):dj S st f args (Sl.of K) := .ext args X h (cG _) (bL hl) hk
theorem pG {X:SV} (hk:K X st) (ha:args=args') (hl:eA args') (h:aD S f args' (fun r=>r=X)):dj S st f args (Sl.of K) :=
 .pure args' _ h (ha ▸ cG _) (bL hl) hk
theorem Da {X:BV} {g:Bool} {c:Prop} {d:Option Nat} {K:St→Prop} (h:g=true→aD S f args (fun r=>r = .b X)) (hl:eA args) (hx:X.lt st.nx) (hc:g=true→c) (hk:K (st.set d (.grd g X))):MP (some g) c S st f args d (Sl.of K) :=
 .inr ⟨X,hx,fun hg=>⟨hc hg, .pure args _ (h hg) (cG _) (bL hl) rfl⟩,hk⟩
end
attribute [go_sem] List.getElem?_toArray Option.bind_some Option.map_some Option.map_none Option.getD_some Option.getD_none true_and and_true List.drop_succ_cons List.drop_zero List.drop_nil List.take_succ_cons List.take_zero List.take_nil
 List.getD_cons_zero List.getD_cons_succ List.getD_nil List.length_cons List.length_nil List.map_cons List.map_nil List.cons_append List.nil_append List.append_nil List.getElem?_cons_zero List.getElem?_cons_succ eA cond_true cond_false
def fE (nx:Nat):List CV→Prop
 | []=>True
 | x :: r=>CV.lt nx x∧fE nx r
theorem iG {nx:Nat}:∀ {l:List CV},fE nx l↔∀ c ∈ l,CV.lt nx c
 | []=>by simp [fE]
 | x :: r=>by simp [fE,iG (l:=r)]
def oM (nx:Nat):List BV→Prop
 | []=>True
 | x :: r=>BV.lt nx x∧oM nx r
theorem uD {nx:Nat}:∀ {l:List BV},oM nx l↔∀ c ∈ l,BV.lt nx c
 | []=>by simp [oM]
 | x :: r=>by simp [oM,uD (l:=r)]
section
variable {nx:Nat}
theorem Mv {cs:List CV}:BV.lt nx (.agg cs)=fE nx cs:=propext iG.symm
theorem OA {l:List PV}:BV.lt nx (.agg (l.map CV.p))=True:=by
 simp [BV.lt,CV.lt]
theorem IY {l:List PV}:fE nx (l.map CV.p)=True:=by
 rw [iG];simp [CV.lt]
theorem PF {x:CV}:BV.lt nx (.c x)=CV.lt nx x:=rfl
theorem MU {x:PV}:CV.lt nx (.p x)=True:=rfl
theorem JB {i o:Nat}:CV.lt nx (.ptr i o)=(i<nx):=rfl
theorem Km {i s o n:Nat}:CV.lt nx (.pel i s n o)=(i<nx):=rfl
theorem KV {i n:Nat}:CV.lt nx (.own i n)=(i<nx):=rfl
theorem Mr {s o:Nat} {g:Nat→PV}:CV.lt nx (.ipt s g o)=True:=rfl
theorem KN:fE nx []=True:=rfl
theorem Hy {x:CV} {r:List CV}:fE nx (x :: r)=(CV.lt nx x∧fE nx r):=rfl
theorem Ja:oM nx []=True:=rfl
theorem Cv {x:BV} {r:List BV}:oM nx (x :: r)=(BV.lt nx x∧oM nx r):=rfl
theorem OI {x:BV}:SV.lt nx (.b x)=BV.lt nx x:=rfl
theorem HO {x:List BV}:SV.lt nx (.tup x)=oM nx x:=propext uD.symm
theorem Gw {x:BV} {p:Bool}:SV.lt nx (.grd p x)=BV.lt nx x:=rfl
theorem GF:SV.lt nx .any=True:=rfl
theorem GM {l:List CV}:Bx.lt nx (.fix l)=fE nx l:=propext iG.symm
theorem HW {e s n:Nat} {f:Nat→Nat→PV}:Bx.lt nx (.arr e s n f)=True:=rfl
end
attribute [go_sem] Mv IY PF MU JB Km KV Mr KN Hy Ja Cv OI HO Gw GF GM HW
attribute [go_sem ↓] OA
attribute [go_sem ↓] PS
attribute [go_sem ↓ 1100] Ly Hc
attribute [go_sem] Hf AL Ij kZ vk Dd uT CH zq JJ Oo Hz xG Lf
attribute [go_sem] GS II Ln Gk Hp
attribute [go_sem ↓] NI Mz FD JV Ki vS Gx vT IN AN MR OR LR IE zd Ot NP NB
 If Ol IB vN GZ LX DI Lp Kx
attribute [go_sem] LA DP HV BL CD MH cR ee BM BD dS BP Bq dW AC Cb dV
 LD MC Mo Jy Lz Ke yw wI Ef tB EW jC Iz Cc Ca MG CX CN Fa zl ya vO yT yO
 ah Bt yE jf yy wi Di xz Fi xp
attribute [go_sem] kC oq ct kQ lJ eP lL tJ EZ Bc nV tg fV jt wA FC Eg mV xV? vo GW mD iV vj zX pI zY eK lO gP oV BV.cells BV.one CV.one CV.ofV CV.toP fX
 vF oi IC Cz Am dH dg ir
end Go.SL
namespace Go.SL
open Go
open Go.RowKit (wrap64)
theorem Rc {n:Int} (h1 : -9223372036854775808≤n) (h2:n≤9223372036854775807):wrap64 n=n:=IntWalk.wrap64_in n ⟨h1,h2⟩
theorem ef {n:Int} (h1 : -9223372036854775808≤n) (h2:n≤9223372036854775807):IntKind.i64.wrap n=n:=IntWalk.i64_in n ⟨h1,h2⟩
theorem Ng {n:Int} (h1:0≤n) (h2:n≤65535):IntKind.u16.wrap n=n:=IntWalk.u16_in n ⟨h1,h2⟩
theorem ml {n:Int} (h1:0≤n) (h2:n≤18446744073709551615):IntKind.u64.wrap n=n:=by
 simp only [IntKind.wrap,IntKind.bits,IntKind.signed]
 simp
 omega
theorem zW {n k:Int}:((n.tdiv k).natAbs)≤n.natAbs:=by
 rw [Int.natAbs_tdiv];exact Nat.div_le_self _ _
theorem Ar {n k:Int} (h1 : -9223372036854775808≤n) (h2:n≤9223372036854775807) (hk:2≤k):IntKind.i64.wrap (n.tdiv k)=n.tdiv k:=by
 have h := @zW n k
 refine ef (by omega) ?_
 by_cases h0:n = -9223372036854775808
 ·subst h0
  have:(-9223372036854775808:Int).tdiv k≤0:=by
   rw [Int.neg_tdiv]
   have:=Int.tdiv_nonneg (a:=9223372036854775808) (b:=k) (by omega) (by omega)
   omega
  omega
 ·omega
theorem rI (n:Int) : -9223372036854775808≤IntKind.i64.wrap n∧IntKind.i64.wrap n≤9223372036854775807:=by
 simp only [IntKind.wrap,IntKind.bits,IntKind.signed]
 simp
 split <;> omega
theorem Dx {a b:Int} (h:0≤a):a.tdiv b=a / b:=Int.tdiv_eq_ediv_of_nonneg h
theorem ND {a b:Int} (h:0≤a):a.tmod b=a % b:=Int.tmod_eq_emod_of_nonneg h
def bd {α:Type} [Inhabited α] (enc:α→List PV) (xs:List α):Nat→Nat→PV:=fun i j=>(enc (xs.getD i default)).getD j .any
theorem PV.le_refl (x:PV):PV.le x x:=fun _ _ _ h=>h
theorem iY {sz:Nat} {f:Nat→Nat→PV}:PV.le (.val (.slice none 0 0)) (.lst sz 0 f):=fun _ _ u h=>by
 have:u = .slice none 0 0:=h
 subst this
 exact ⟨none,0,rfl,Nat.le_refl _,fun h=>absurd h (Nat.lt_irrefl 0)⟩
theorem mC {sz n:Nat} {f g:Nat→Nat→PV} (h:∀ i,i<n→∀ j,j<sz→f i j=g i j):PV.le (.lst sz n f) (.lst sz n g):=fun _ _ u hu=>by
 obtain ⟨a,c,e,hn,hb⟩:=hu
 refine ⟨a,c,e,hn,fun h0 => ?_⟩
 obtain ⟨b,o,ha,hok,hc⟩:=hb h0
 refine ⟨b,o,ha,hok,fun i hi j hj => ?_⟩
 rw [← h i hi j hj]
 exact hc i hi j hj
theorem Iu {k:IntKind} {n:Int}:(Value.int k n).oneCell'=true:=rfl
theorem EA {b:Bool}:(Value.bool b).oneCell'=true:=rfl
theorem yG {s:ByteArray}:(Value.string s).oneCell'=true:=rfl
theorem AX {o n:Nat}:(Value.slice none o n).oneCell'=true:=rfl
attribute [go_sem] Iu EA yG AX
theorem Es {α:Type} [Inhabited α] {enc:α→List PV} {xs:List α} {i j:Nat}:bd enc xs i j=(enc (xs.getD i default)).getD j .any:=rfl
theorem BZ:maxLen=9223372036854775807:=by decide
attribute [go_sem] BZ
theorem Ix {a b:Bool}:(bif a then b else false)=(a && b):=by cases a <;> rfl
theorem MB {a b:Bool}:(bif a then true else b)=(a || b):=by cases a <;> rfl
attribute [go_sem] Ix MB
theorem dC {α : Type} [Inhabited α] {enc : α → List PV} {xs : List α} {x : α} {s : Nat} {g : Nat → Nat → PV} (hg : ∀ j, j < s → g 0 j = (enc x).getD j .any) :
  ∀ i,i<xs.length+1→∀ j,j<s→PV.le (ix xs.length (bd enc xs) g i j) (bd enc (xs ++ [x]) i j):=fun i hi j hj=>by
 have:ix xs.length (bd enc xs) g i j=bd enc (xs ++ [x]) i j:=by
  unfold ix bd
  split
  ·rename_i h;simp only [List.getD_eq_getElem?_getD,List.getElem?_append_left h]
  ·rename_i h
   have:i=xs.length:=by omega
   subst this
   rw [Nat.sub_self,hg j hj]
   simp
 rw [this];exact PV.le_refl _
attribute [go_sem] Es
end Go.SL
namespace Go.SL
open Go
def NZ (s1:St):AExit→St→Prop
 | .normal,s=>s=s1
 | _,_=>False
theorem bO {s:St}:NZ s .normal s:=rfl
def St.ite (t:Bool) (s1 s2:St):St :=
 { fr:=fun k=>if t=true then s1.fr k else s2.fr k,bx:=fun i=>if t=true then s1.bx i else s2.bx i,nx:=if t=true then s1.nx else s2.nx,kf:=fun k=>if t=true then s1.kf k else s2.kf k }
def oT:Code→Bool
 | .skip=>true
 | .region .. => true
 | .seq x y=>oT x && oT y
 | .cond _ x y=>oT x && oT y
 | .label _=>true
 | _=>false
section
variable {S:Env} {st:St} {Q:AExit→St→Prop}
theorem eE {c : Operand} {x y z : Code} {t : Bool} {s1 s2 : St} (hf : (oT x && oT y) = true) (hc : st.ev S c = .t t) (h1 : t = true → cw S x (NZ s1) st) (h2 : t = false → cw S y (NZ s2) st)
  (h:cw S z Q (St.ite t s1 s2)):cw S (.seq (.cond c x y) z) Q st:=by
 refine rl (jS hc (fun ht => ?_) fun ht => ?_)
 ·subst ht
  refine cC x (fun e s hs => ?_) (h1 rfl)
  cases e with
  | normal=>have:s=s1:=hs;subst this;exact h
  | _=>exact hs.elim
 ·subst ht
  refine cC y (fun e s hs => ?_) (h2 rfl)
  cases e with
  | normal=>have:s=s2:=hs;subst this;exact h
  | _=>exact hs.elim
theorem kn {c : Operand} {x y : Code} {t : Bool} {s1 s2 : St} (hf : (oT x && oT y) = true) (hc : st.ev S c = .t t) (h1 : t = true → cw S x (NZ s1) st) (h2 : t = false → cw S y (NZ s2) st)
  (h:Q .normal (St.ite t s1 s2)):cw S (.cond c x y) Q st:=by
 refine jS hc (fun ht => ?_) fun ht => ?_
 ·subst ht
  refine cC x (fun e s hs => ?_) (h1 rfl)
  cases e with
  | normal=>have:s=s1:=hs;subst this;exact h
  | _=>exact hs.elim
 ·subst ht
  refine cC y (fun e s hs => ?_) (h2 rfl)
  cases e with
  | normal=>have:s=s2:=hs;subst this;exact h
  | _=>exact hs.elim
variable {t:Bool} {s1 s2:St}
theorem KE {k:Nat}:(St.ite t s1 s2).fr k=if t=true then s1.fr k else s2.fr k:=rfl
theorem Kj {k:Nat}:(St.ite t s1 s2).bx k=if t=true then s1.bx k else s2.bx k:=rfl
theorem Ky:(St.ite t s1 s2).nx=if t=true then s1.nx else s2.nx:=rfl
variable {p:Prop} [Decidable p]
theorem LO {x y:BV}:(if p then SV.b x else SV.b y)=SV.b (if p then x else y):=by split <;> rfl
theorem NJ {x y:CV}:(if p then BV.c x else BV.c y)=BV.c (if p then x else y):=by split <;> rfl
theorem IL {x y:List CV}:(if p then BV.agg x else BV.agg y)=BV.agg (if p then x else y):=by split <;> rfl
theorem Fb {x y:CV} {l r:List CV}:(if p then x :: l else y :: r)=(if p then x else y) :: (if p then l else r):=by split <;> rfl
theorem MT {x y:PV}:(if p then CV.p x else CV.p y)=CV.p (if p then x else y):=by split <;> rfl
theorem IM {x y:Value}:(if p then PV.val x else PV.val y)=PV.val (if p then x else y):=by split <;> rfl
theorem IP {k:IntKind} {x y:Int}:(if p then Value.int k x else Value.int k y)=Value.int k (if p then x else y):=by split <;> rfl
theorem CR {x y:Bool}:(if p then Value.bool x else Value.bool y)=Value.bool (if p then x else y):=by split <;> rfl
theorem Gn {sz n m:Nat} {f g:Nat→Nat→PV}:(if p then PV.lst sz n f else PV.lst sz m g)=PV.lst sz (if p then n else m) (if p then f else g):=by split <;> rfl
theorem Hb {i n m:Nat}:(if p then CV.own i n else CV.own i m)=CV.own i (if p then n else m):=by split <;> rfl
theorem Fv {x y:Bx}:(if p then some x else some y)=some (if p then x else y):=by split <;> rfl
theorem IU {x y:List CV}:(if p then Bx.fix x else Bx.fix y)=Bx.fix (if p then x else y):=by split <;> rfl
theorem Hk {e s n m:Nat} {f g:Nat→Nat→PV}:(if p then Bx.arr e s n f else Bx.arr e s m g)=Bx.arr e s (if p then n else m) (if p then f else g):=by split <;> rfl
theorem DK {α:Type} {x:α}:(if p then x else x)=x:=by split <;> rfl
end
theorem Qu {p:Prop} [Decidable p] {a b:Bool}:((if p then a else b)=true)=((p→a=true)∧(¬p→b=true)):=by split <;> simp_all
theorem Qe {p:Prop} [Decidable p] {a b:Bool}:((if p then a else b)=false)=((p→a=false)∧(¬p→b=false)):=by split <;> simp_all
theorem au {X:Type} {F:X→St} {I:X→Prop} {m:X→Nat} {k:Nat} {st:St} (x':X) (hle:Le st (F x')) (hI:I x') (hm:m x'<k):Wk (fun s=>∃ x',s=F x'∧I x'∧m x'<k) st :=
 ⟨F x',hle,x',rfl,hI,hm⟩
theorem jM {S:Env} {st:St} {f:FuncId} {args args':List BV} {K:SV→St→Prop} {X:SV} (hk:K X st) (ha:fg (args.map (dg st.bx)) args') (hl:eA args') (hf:X.flat) (h:aD S f args' (fun r=>r=X)) (hp:S.rcv (f+1000000)=false:=by rfl):dj S st f args (Sl.of K) :=
 .lend args' _ h ha (bL hl) hf hk hp
theorem iq:fg [] []=True:=rfl
theorem fJ {x y:BV} {r s:List BV}:fg (x :: r) (y :: s)=(BV.le x y∧fg r s):=rfl
theorem nZ {x:BV}:BV.le x x:=fun _ _ _ _ h=>h
theorem ql {x y:PV} (h:PV.le x y):BV.le (.c (.p x)) (.c (.p y)):=fun _ ok w u hu=>h ok w u hu
theorem Dj {S:Env} {st:St} {Q:AExit→St→Prop} {id:Nat} {l:List Oper} {y:Code} (h:∀ K:St→Prop,(∀ s,cw S y Q s→K s)→(∀ s s',Le s s'→cw S y Q s'→K s)→aK S l.toArray l st K):cw S (.seq (.region id l.toArray false) y) Q st:=by
 refine cC (S:=S) (.region id l.toArray false) (Q:=fv (fun st=>Wk (cw S y Q) st∨cw S y Q st) Q) (fun _ _ h=>h) (og ?_)
 exact h _ (fun s hs => .inr hs) fun s s' hl hs => .inl ⟨s',hl,hs⟩
def Nw (x y:BV):Prop:=BV.lt 0 y∧∀ ok w u,bu bo ok w x u→bu bo ok w y u
def QK (x y:SV):Prop:=SV.lt 0 y∧∀ ok w u,aU bo ok w x u→aU bo ok w y u
def Hg:List BV→List BV→Prop
 | [],[]=>True
 | x :: l,y :: r=>Nw x y∧Hg l r
 | _,_=>False
theorem lv {S:Env} {f:FuncId} {args:List BV} {X:SV} (h:aD S f args fun r=>QK r X):aD S f args fun r=>r=X :=
 ⟨h.1,fun ok w vs h1 h2 h3 h4=>(h.2 ok w vs h1 h2 h3 h4).mono fun _ _ ⟨v,r,he,hR,_,hb,hd⟩=>⟨v,X,he,rfl,hR.1,hb,hR.2 _ _ _ hd⟩⟩
theorem Ai {x y:BV} (h:Nw x y):QK (.b x) (.b y):=h
theorem nL {x:BV} (h:BV.lt 0 x):Nw x x:=⟨h,fun _ _ _ h=>h⟩
theorem oW {x y:PV} (h:PV.le x y):Nw (.c (.p x)) (.c (.p y)):=⟨trivial,fun ok w u hu=>h ok w u hu⟩
theorem sF {ok:Nat→Prop} {w:World}:∀ {l r:List BV},Hg l r→l.length=r.length∧∀ {u:Nat→Value},(∀ j,bu bo ok w (l.getD j .any) (u j))→∀ j,bu bo ok w (r.getD j .any) (u j)
 | [],[],_=>⟨rfl,fun h=>h⟩
 | x :: l,y :: r,⟨h1,h2⟩=>by
  obtain ⟨q1,q2⟩:=sF (ok:=ok) (w:=w) h2
  refine ⟨by simp [q1],fun {u} hu j => ?_⟩
  cases j with
  | zero=>exact h1.2 ok w _ (hu 0)
  | succ j=>exact q2 (u:=fun k=>u (k+1)) (fun k=>hu (k+1)) j
theorem As:∀ {l r:List BV},Hg l r→∀ v ∈ r,BV.lt 0 v
 | [],[],_,v,hv=>by cases hv
 | x :: l,y :: r,h,v,hv=>by
  rcases List.mem_cons.1 hv with e|e
  ·rw [e];exact h.1.1
  ·exact As h.2 v e
theorem lg {l r:List BV} (h:Hg l r):QK (.tup l) (.tup r) :=
 ⟨As h,fun ok w u ⟨us,hu,hs,hd⟩=>⟨us,hu,by rw [hs,(sF (ok:=ok) (w:=w) h).1],(sF h).2 hd⟩⟩
def Ax:List CV→List CV→Prop
 | [],[]=>True
 | .p x :: l, .p y :: r=>(x=y∨PV.le x y)∧Ax l r
 | _,_=>False
theorem pW:Ax [] []=True:=rfl
theorem lk {x y:PV} {l r:List CV}:Ax (.p x :: l) (.p y :: r)=((x=y∨PV.le x y)∧Ax l r):=rfl
theorem qW {ok:Nat→Prop} {w:World}:∀ {l r:List CV},Ax l r→l.length=r.length∧(∀ c ∈ r,CV.lt 0 c)∧∀ {u:Nat→Value},(∀ j,bB bo ok w (l.getD j .any) (u j))→∀ j,bB bo ok w (r.getD j .any) (u j)
 | [],[],_=>⟨rfl,by simp,fun h=>h⟩
 | .p x :: l, .p y :: r,h=>by
  rw [lk] at h
  obtain ⟨h1,h2⟩:=h
  obtain ⟨q1,q0,q2⟩:=qW (ok:=ok) (w:=w) h2
  refine ⟨by simp [q1],fun c hc => ?_,fun {u} hu j => ?_⟩
  ·rcases List.mem_cons.1 hc with e|e
   ·rw [e];trivial
   ·exact q0 c e
  ·cases j with
   | zero =>
    rcases h1 with e|e
    ·rw [← e];exact hu 0
    ·exact e _ _ _ (hu 0)
   | succ j=>exact q2 (u:=fun k=>u (k+1)) (fun k=>hu (k+1)) j
theorem uY {l r:List CV} (h:Ax l r):Nw (.agg l) (.agg r):=by
 refine ⟨(qW (ok:=fun _=>True) (w:=default) h).2.1,fun ok w u ⟨us,hu,hs,h1,hd⟩ => ?_⟩
 obtain ⟨q1,_,q2⟩:=qW (ok:=ok) (w:=w) h
 exact ⟨us,hu,by rw [hs,q1],h1,q2 hd⟩
theorem EK {k:IntKind} {a b:Int} (h:a=b):SV.b (.c (.p (.val (.int k a))))=SV.b (.c (.p (.val (.int k b)))):=by rw [h]
def aZ (l:List (Nat × SV)) (b:List (Nat × Bx)) (nx:Nat):St:=⟨jB l,fu b,nx,fun _ => .any⟩
theorem Ir {l:List (Nat × SV)} {b:List (Nat × Bx)} {nx s:Nat}:(aZ l b nx).fr s=jB l s:=rfl
theorem GA {l:List (Nat × SV)} {b:List (Nat × Bx)} {nx s:Nat}:(aZ l b nx).bx s=fu b s:=rfl
theorem Gm {l:List (Nat × SV)} {b:List (Nat × Bx)} {nx:Nat}:(aZ l b nx).nx=nx:=rfl
def nM:List (Nat × Option Nat)→Nat→Option Nat
 | [],_=>some 0
 | (k,v) :: r,i=>if i=k then v else nM r i
theorem Gf {i:Nat}:nM [] i=some 0:=rfl
theorem DJ {k i:Nat} {v:Option Nat} {r:List (Nat × Option Nat)}:nM ((k,v) :: r) i=if i=k then v else nM r i:=rfl
def sL (r:Nat→Option Nat) (st:St) (bx':Nat→Option Bx) (nx:Nat):List (Nat × SV)→Prop
 | []=>True
 | (k,v) :: l=>(xD r st.bx bx' (st.fr k) v∧v.lt nx)∧sL r st bx' nx l
def vw (r:Nat→Option Nat) (st:St) (bx':Nat→Option Bx) (nx:Nat):List (Nat × Bx)→Prop
 | []=>True
 | (i,x) :: l=>(ku r st.bx bx' i x∧i<nx∧x.lt nx)∧vw r st bx' nx l
theorem jz {s:Nat}:∀ {l:List (Nat × SV)},jB l s = .any∨(s,jB l s) ∈ l
 | [] => .inl rfl
 | (k,v) :: l=>by
  rw [tB]
  split
  ·rename_i h;subst h;exact .inr (List.mem_cons_self ..)
  ·rcases jz (s:=s) (l:=l) with h|h
   ·exact .inl h
   ·exact .inr (List.mem_cons_of_mem _ h)
theorem fR {s:Nat} {x:Bx}:∀ {l:List (Nat × Bx)},fu l s=some x→(s,x) ∈ l
 | [],h=>by cases h
 | (k,v) :: l,h=>by
  rw [jC] at h
  split at h
  ·rename_i e;subst e;cases h;exact List.mem_cons_self ..
  ·exact List.mem_cons_of_mem _ (fR h)
theorem js {r:Nat→Option Nat} {st:St} {bx':Nat→Option Bx} {nx:Nat}:∀ {l:List (Nat × SV)},sL r st bx' nx l→∀ {k v},(k,v) ∈ l→xD r st.bx bx' (st.fr k) v∧v.lt nx
 | (_,_) :: _,h,_,_, .head _=>h.1
 | (_,_) :: _,h,_,_, .tail _ hm=>js h.2 hm
theorem nI {r:Nat→Option Nat} {st:St} {bx':Nat→Option Bx} {nx:Nat}:∀ {l:List (Nat × Bx)},vw r st bx' nx l→∀ {k v},(k,v) ∈ l→ku r st.bx bx' k v∧k<nx∧v.lt nx
 | (_,_) :: _,h,_,_, .head _=>h.1
 | (_,_) :: _,h,_,_, .tail _ hm=>nI h.2 hm
def vZ (r:Nat→Option Nat):List Nat→Bool
 | []=>true
 | i :: l=>(l.all fun j=>i == j || r i == none || r i != r j) && vZ r l
theorem lr {r:Nat→Option Nat}:∀ {l:List Nat},vZ r l=true→∀ i j k,i ∈ l→j ∈ l→r i=some k→r j=some k→i=j
 | a :: l,h,i,j,k,hi,hj,h1,h2=>by
  simp only [vZ,Bool.and_eq_true,List.all_eq_true,Bool.or_eq_true,beq_iff_eq,bne_iff_ne] at h
  obtain ⟨ha,hl⟩:=h
  rcases List.mem_cons.1 hi with e1|e1 <;> rcases List.mem_cons.1 hj with e2|e2
  ·rw [e1,e2]
  ·subst e1
   rcases ha j e2 with (q|q)|q
   ·exact q
   ·rw [q] at h1;cases h1
   ·exact absurd (h1.trans h2.symm) q
  ·subst e2
   rcases ha i e1 with (q|q)|q
   ·exact q.symm
   ·rw [q] at h2;cases h2
   ·exact absurd (h2.trans h1.symm) q
  ·exact lr hl i j k e1 e2 h1 h2
theorem Jt {st : St} {l : List (Nat × SV)} {b : List (Nat × Bx)} {nx : Nat} (r : List (Nat × Option Nat)) (h0 : nM r 0 = some 0) (hnx : 0 < nx) (hinj : vZ (nM r) (b.map (·.1)) = true)
  (hfr:sL (nM r) st (fu b) nx l) (hb:vw (nM r) st (fu b) nx b):Le st (aZ l b nx):=by
 have key:∀ i,fu b i≠none→i ∈ b.map (·.1):=fun i hi=>by
  cases hx:fu b i with
  | none=>exact absurd hx hi
  | some x=>exact List.mem_map.2 ⟨_,fR hx,rfl⟩
 refine ⟨⟨nM r,h0,fun _=>hnx,fun i j k hi hj h1 h2=>lr hinj i j k (key i hi) (key j hj) h1 h2,fun s => ?_,fun i x hx=>(nI hb (fR hx)).1,fun s=>by show xD _ _ _ _ .any;unfold xD;split <;> trivial⟩,fun s => ?_,fun i x hx=>(nI hb (fR hx)).2,fun _=>trivial⟩
 ·show xD _ _ _ _ (jB l s)
  rcases jz (s:=s) (l:=l) with h|h
  ·rw [h];unfold xD;split <;> trivial
  ·exact (js hfr h).1
 ·show SV.lt nx (jB l s)
  rcases jz (s:=s) (l:=l) with h|h
  ·rw [h];trivial
  ·exact (js hfr h).2
section
variable {r:Nat→Option Nat} {bx bx':Nat→Option Bx} {st:St} {nx:Nat}
theorem FK:sL r st bx' nx []=True:=rfl
theorem Az {k:Nat} {v:SV} {l:List (Nat × SV)}:sL r st bx' nx ((k,v) :: l)=((xD r st.bx bx' (st.fr k) v∧v.lt nx)∧sL r st bx' nx l):=rfl
theorem Ee:vw r st bx' nx []=True:=rfl
theorem Ch {k:Nat} {v:Bx} {l:List (Nat × Bx)}:vw r st bx' nx ((k,v) :: l)=((ku r st.bx bx' k v∧k<nx∧v.lt nx)∧vw r st bx' nx l):=rfl
theorem Jr {x y:BV}:xD r bx bx' (.b x) (.b y)=MQ r bx bx' x y:=rfl
theorem pF {x:SV}:xD r bx bx' x .any=True:=by cases x <;> rfl
theorem Js {x y:CV}:MQ r bx bx' (.c x) (.c y)=wv r bx bx' x y:=by
 cases y with
 | p y=>cases y with
  | any=>cases x <;> rfl
  | _=>rfl
 | _=>rfl
theorem HX {x y:List CV}:MQ r bx bx' (.agg x) (.agg y)=FM r bx bx' x y:=rfl
theorem Gs:FM r bx bx' [] []=True:=rfl
theorem Dk {x y:CV} {l l':List CV}:FM r bx bx' (x :: l) (y :: l')=(wv r bx bx' x y∧FM r bx bx' l l'):=rfl
theorem Hu {x:CV}:wv r bx bx' x (.p .any)=True:=by cases x <;> rfl
theorem ID {x:PV} {v:Value}:wv r bx bx' (.p x) (.p (.val v))=(x = .val v∨PV.le x (.val v)):=rfl
theorem GH {x:PV} {sz n:Nat} {f:Nat→Nat→PV}:wv r bx bx' (.p x) (.p (.lst sz n f))=(x = .lst sz n f∨PV.le x (.lst sz n f)):=rfl
theorem Gz {x:PV} {i n:Nat}:wv r bx bx' (.p x) (.own i n)=(x = .val (.slice none 0 0)∧n=0∧r i=none):=rfl
theorem FT {i o i' o':Nat}:wv r bx bx' (.ptr i o) (.ptr i' o')=(r i'=some i∧o=o'):=rfl
theorem FU {i s k o i' s' k' o':Nat}:wv r bx bx' (.pel i s k o) (.pel i' s' k' o')=(r i'=some i∧s=s'∧k=k'∧o=o'):=rfl
theorem GL {i n i' n':Nat}:wv r bx bx' (.own i n) (.own i' n')=(r i'=some i∧n=n'):=rfl
def zj (r:Nat→Option Nat) (id:Nat):List (Nat × Bx)→Prop
 | []=>True
 | (i,_) :: l=>r i≠some id∧zj r id l
theorem CT {id:Nat}:zj r id []=True:=rfl
theorem BG {id i:Nat} {x:Bx} {l:List (Nat × Bx)}:zj r id ((i,x) :: l)=(r i≠some id∧zj r id l):=rfl
theorem sX {id:Nat}:∀ {b:List (Nat × Bx)},zj r id b→∀ id',fu b id'≠none→r id'≠some id
 | [],_,id',h=>(h rfl).elim
 | (i,x) :: l,h,id',hb=>by
  rw [jC] at hb
  by_cases e:id'=i
  ·subst e;exact h.1
  ·rw [if_neg e] at hb;exact sX h.2 id' hb
theorem tL {id:Nat}:∀ {b:List (Nat × Bx)},(∀ id',fu b id'≠none→r id'≠some id)→zj r id b
 | [],_=>trivial
 | (i,x) :: l,h=>by
  refine ⟨h i (by rw [jC,if_pos rfl];simp),tL fun id' hb => ?_⟩
  refine h id' ?_
  rw [jC]
  split
  ·simp
  ·exact hb
def Kl (y:Option Bx) (n sz n':Nat) (f':Nat→Nat→PV) (p:Prop):Prop:=match y with
 | some (.arr _ s m f)=>s=sz∧n=n'∧n≤m∧(∀ i,i<n→∀ j,j<sz→PV.le (f i j) (f' i j))∧p
 | _=>False
theorem ED {i n sz n':Nat} {f':Nat→Nat→PV} {b:List (Nat × Bx)}:wv r bx (fu b) (.own i n) (.p (.lst sz n' f'))=Kl (bx i) n sz n' f' (zj r i b):=by
 apply propext
 unfold Kl
 constructor
 ·rintro ⟨e,m,f,h1,h2,h3,h4,h5⟩
  rw [h1]
  exact ⟨rfl,h2,h3,h4,tL h5⟩
 ·intro h
  split at h
  ·rename_i hb
   obtain ⟨rfl,h2,h3,h4,h5⟩:=h
   exact ⟨_,_,_,hb,h2,h3,h4,sX h5⟩
  ·exact h.elim
theorem Ay {e s m n sz n':Nat} {f f':Nat→Nat→PV} {p:Prop}:Kl (some (.arr e s m f)) n sz n' f' p=(s=sz∧n=n'∧n≤m∧(∀ i,i<n→∀ j,j<sz→PV.le (f i j) (f' i j))∧p):=rfl
theorem Ic {s o s' o':Nat} {g g':Nat→PV}:wv r bx bx' (.ipt s g o) (.ipt s' g' o')=(s=s'∧o=o'∧(g=g'∨∀ j,j<s→PV.le (g j) (g' j))):=rfl
theorem Ge {l l':List CV}:MN r bx bx' (.fix l) (.fix l')=FM r bx bx' l l':=rfl
theorem Io {e s n e' s' n':Nat} {f f':Nat→Nat→PV}:MN r bx bx' (.arr e s n f) (.arr e' s' n' f')=(e=e'∧s=s'∧n=n'∧(f=f'∨∀ i,i<n→∀ j,j<s→PV.le (f i j) (f' i j))):=rfl
def HA (bx bx':Nat→Option Bx) (r:Nat→Option Nat) (y:Option Bx) (x:Bx):Prop:=match y with
 | some y=>MN r bx bx' y x
 | none=>False
def IQ (r:Nat→Option Nat) (bx bx':Nat→Option Bx) (k:Option Nat) (x:Bx):Prop:=match k with
 | some k=>HA bx bx' r (bx k) x
 | none=>match x with
  | .arr _ s n _=>n=0∧0<s
  | _=>False
theorem Fq {i:Nat} {x:Bx}:ku r bx bx' i x=IQ r bx bx' (r i) x:=by
 unfold ku IQ
 cases r i with
 | some k =>
  simp only [HA]
  cases hk:bx k with
  | some y=>simp
  | none=>simp
 | none =>
  cases x with
  | fix=>simp
  | arr e s n f =>
   simp only [Bx.arr.injEq]
   exact propext ⟨fun ⟨_,_,_,⟨_,h1,h2,_⟩,h3⟩=>⟨h2,h1 ▸ h3⟩,fun ⟨h1,h2⟩=>⟨e,s,f,⟨rfl,rfl,h1,rfl⟩,h2⟩⟩
theorem Aw {k:Nat} {x:Bx}:IQ r bx bx' (some k) x=HA bx bx' r (bx k) x:=rfl
theorem BH {e s n:Nat} {f:Nat→Nat→PV}:IQ r bx bx' none (.arr e s n f)=(n=0∧0<s):=rfl
theorem AM {y x:Bx}:HA bx bx' r (some y) x=MN r bx bx' y x:=rfl
end
theorem BS {nx:Nat}:(∀ x:BV,x ∈ ([]:List BV)→BV.lt nx x)=True:=by simp
theorem yX {nx:Nat} {a:BV} {l:List BV}:(∀ x:BV,x ∈ a :: l→BV.lt nx x)=(BV.lt nx a∧∀ x:BV,x ∈ l→BV.lt nx x):=by simp
attribute [go_sem] BS yX
attribute [go_sem] KE Kj Ky LO NJ IL Fb MT IM IP CR Gn Hb Fv IU Hk
attribute [go_sem ↓] DK
attribute [go_sem] Ir GA Gm Gf DJ FK Az Ee Ch Jr pF Js HX Gs Dk Hu ID GH Gz FT FU GL ED Ay CT BG Ic Ge Io Fq Aw BH AM
end Go.SL
namespace Go.SL
open Go
section
variable {S:Env} {ops:Array Oper} {rest:List Oper} {st:St} {K:St→Prop} {d:Option Nat} {ty:TypeId} {pos:String} {af:Array Edge} {j:Nat} {want g:Bool} {op:Go.Op}
theorem BA {nx : Nat} {K1 : SV → Prop} {y : Option (Prop × SV)} (x : BV) (hy : y = none) (hro : ro S st.bx (st.ev S) op = none) (hx : x.lt st.nx) (hg : fX st ((ops[j]?).bind (·.dst)) want = some g)
  (h1:g=true→aK S ops (⟨d,op,ty,pos,af,none⟩ :: rest) st K) (h2:g=false→aK S ops rest (st.set d (.grd g x)) K) :
  rg (some g) nx y (Sl.of K1) (Sl.of (aK S ops (⟨d,op,ty,pos,af,some (j,want)⟩ :: rest) st K)):=by
 have key:aK S ops (⟨d,op,ty,pos,af,some (j,want)⟩ :: rest) st K:=by
  simp only [aK,dD,hg,hro]
  cases g with
  | true=>exact .inl ⟨fun _=>by have:=h1 rfl;simpa only [aK,dD,gM,hro] using this,fun h=>by cases h⟩
  | false=>exact .inr ⟨x,hx,(fun h=>by cases h),h2 rfl⟩
 subst hy
 exact key
variable {f:FuncId} {args args':List BV} {c:Prop} {X:BV}
theorem yH (hg:g=true) (hc:c) (h:aD S f args' (fun r=>r = .b X)) (ha:fg (args.map (dg st.bx)) args') (hl:eA args') (hf:X.flat) (hk:K (st.set d (.b X))) (hp:S.rcv (f+1000000)=false:=by rfl):MP (some g) c S st f args d (Sl.of K) :=
 .inl ⟨fun _=>⟨hc, .lend args' _ h ha (bL hl) hf hk hp⟩,fun h=>by rw [hg] at h;cases h⟩
theorem BE (X:BV) (hg:g=false) (hx:X.lt st.nx) (hk:K (st.set d (.grd g X))):MP (some g) c S st f args d (Sl.of K) :=
 .inr ⟨X,hx,(fun h=>by rw [hg] at h;cases h),hk⟩
end
theorem St.ite_t {s1 s2:St}:St.ite true s1 s2=s1:=rfl
theorem St.ite_f {s1 s2:St}:St.ite false s1 s2=s2:=rfl
section
variable {S:Env} {st:St} {f:FuncId} {K:SV→St→Prop} {Q:AExit→St→Prop}
theorem vl {P:St→Prop} {c:Code} (h:∀ s,cw S c Q s→P s) (h2:cw S c Q st):P st:=h _ h2
theorem aT {id:Nat} {l:List Oper} {y:Code} (h:∀ K:St→Prop,(∀ s s',Le s s'→cw S y Q s'→K s)→aK S l.toArray l st K):cw S (.seq (.region id l.toArray false) y) Q st :=
 Dj fun K _ hW=>h K hW
theorem gY {c:Operand} {x y z:Code} {t:Bool} (hc:st.ev S c = .t t) (ht:t=true) (h:cw S (.seq x z) Q st):cw S (.seq (.cond c x y) z) Q st:=ua hc (fun _=>h) (fun h=>by rw [ht] at h;cases h)
theorem qU {c:Operand} {x y z:Code} {t:Bool} (hc:st.ev S c = .t t) (ht:t=false) (h:cw S (.seq y z) Q st):cw S (.seq (.cond c x y) z) Q st:=ua hc (fun h=>by rw [ht] at h;cases h) (fun _=>h)
theorem Ez {c:Operand} {x y:Code} {t:Bool} (hc:st.ev S c = .t t) (ht:t=true) (h:cw S x Q st):cw S (.cond c x y) Q st:=jS hc (fun _=>h) (fun h=>by rw [ht] at h;cases h)
theorem DD {c:Operand} {x y:Code} {t:Bool} (hc:st.ev S c = .t t) (ht:t=false) (h:cw S y Q st):cw S (.cond c x y) Q st:=jS hc (fun h=>by rw [ht] at h;cases h) (fun _=>h)
end
def yC (k:IntKind) (a b:Int):Int:=k.wrap (BitVec.ofInt k.bits a &&& BitVec.ofInt k.bits b).toNat
def Ji (k:IntKind) (a b:Int):Int:=k.wrap (BitVec.ofInt k.bits a ||| BitVec.ofInt k.bits b).toNat
def PX (k:IntKind) (a b:Int):Int:=k.wrap (BitVec.ofInt k.bits a ^^^ BitVec.ofInt k.bits b).toNat
theorem He {k:IntKind} {a b:Int}:k.wrap (BitVec.ofInt k.bits a &&& BitVec.ofInt k.bits b).toNat=yC k a b:=rfl
theorem LV {k:IntKind} {a b:Int}:k.wrap (BitVec.ofInt k.bits a ||| BitVec.ofInt k.bits b).toNat=Ji k a b:=rfl
theorem Hd {k:IntKind} {a b:Int}:k.wrap (BitVec.ofInt k.bits a ^^^ BitVec.ofInt k.bits b).toNat=PX k a b:=rfl
attribute [go_sem ↓] He LV Hd
theorem GG {p:Prop} [Decidable p] {f g:Nat→Nat→PV} {i j:Nat}:(if p then f else g) i j=if p then f i j else g i j:=by split <;> rfl
attribute [go_sem] GG
end Go.SL
namespace Go.SL
open Go
def yZ (c:Nat):SV→Prop
 | .b (.c (.ptr id _))=>c=1∨c=4+id
 | .b (.c (.pel _ _ _ _))=>c=2
 | .b (.c (.ipt _ _ _))=>c=3
 | _=>False
def fI:List (Nat × Nat)→St→Prop
 | [],_=>True
 | (t,c) :: r,s=>yZ c (s.fr t)∧fI r s
def vh:List (Nat × Nat)→Nat
 | []=>0
 | (_,c) :: r=>max (c - 3) (vh r)
def nG:List (Nat × Nat)→Nat→Nat
 | [],_=>0
 | (t,c) :: r,s=>if s=t then c else nG r s
theorem Jf {t:Nat}:∀ {l:List (Nat × Nat)},nG l t - 3≤vh l
 | []=>Nat.zero_le _
 | (k,c) :: r=>by
  unfold nG vh
  split
  ·omega
  ·have:=Jf (t:=t) (l:=r)
   omega
theorem ki {s:St} {t:Nat}:∀ {l:List (Nat × Nat)},fI l s→nG l t≠0→yZ (nG l t) (s.fr t)
 | [],_,h=>absurd rfl h
 | (k,c) :: r,h,hn=>by
  unfold nG at hn ⊢
  split
  ·rename_i e;subst e;exact h.1
  ·rename_i e
   rw [if_neg e] at hn
   exact ki h.2 hn
section
variable {S:Env} {ops:Array Oper} {st s1 s2 s':St}
theorem zR {o:Oper} {t:Nat} (h:Ex S ops st o s') (hd:o.dst≠some t):s'.fr t=st.fr t:=by
 obtain ⟨v1,b1,n1,rfl,_⟩:=ff h
 rw [cV]
 simp only
 rw [if_neg fun e=>hd e.symm]
theorem vx {t:Nat}:∀ {l:List Oper} {st s':St},HB S ops l st s'→(∀ o ∈ l,o.dst≠some t)→s'.fr t=st.fr t
 | [],_,_,h,_=>by rw [show _=_ from h]
 | o :: r,st,s',⟨s,h1,h2⟩,hd=>(vx h2 fun x hx=>hd x (List.mem_cons_of_mem _ hx)).trans (zR h1 (hd o (List.mem_cons_self ..)))
theorem pC {x y : Oper} {d p q : Nat} {t t' : TypeId} {vop : Operand} (hx : x.op = .load t (.tmp q)) (hxd : x.dst = some d) (hxg : x.guard = none)
  (hy:y.op = .store t' (.tmp p) vop) (hyd:y.dst=none) (hyg:y.guard=none) (hdp:d≠p) (hdv:vop ≠ .tmp d) {c c':Nat} (hp:yZ c (st.fr p)) (hq:yZ c' (st.fr q)) (hc:c=2∧(c'=1∨c'=3))
  (h1:Ex S ops st x s1) (h2:Ex S ops s1 y s2):∃ s3,Ex S ops st y s3∧Ex S ops s3 x s2:=by
 obtain ⟨rfl,hc⟩:=hc
 obtain ⟨idp,szp,ip,offp,hpv⟩:∃ id sz i off,st.fr p = .b (.c (.pel id sz i off)):=by
  unfold yZ at hp
  split at hp
  ·omega
  ·exact ⟨_,_,_,_,by assumption⟩
  ·cases hp
  ·cases hp
 have e1:s1=st.set (some d) (s1.fr d)∧s1.bx=st.bx∧s1.nx=st.nx:=by
  obtain ⟨v,b,n,rfl,hb,_⟩:=ff h1
  have:sH S.rcv x≤1:=by simp [sH,cF,hx]
  obtain ⟨rfl,rfl⟩:=hb this
  rw [hxd]
  refine ⟨?_,cR,ee⟩
  simp [St.set]
 have hev:∀ z:Operand,z ≠ .tmp d→s1.ev S z=st.ev S z:=fun z hz=>by
  rw [e1.1]
  cases z with
  | tmp k=>simp only [St.ev,St.set];rw [if_neg (fun e=>hz (by rw [e]))]
  | _=>rfl
 have hvp:s1.ev S (.tmp p)=st.ev S (.tmp p):=hev _ (fun e=>hdp (by cases e;rfl))
 have hvv:=hev vop hdv
 have hro:∀ b ev,ro S b ev (.store t' (.tmp p) vop)=none:=fun _ _=>rfl
 unfold Ex dD at h2
 rw [hyg] at h2
 simp only [gM,hy,hro,hyd] at h2
 obtain ⟨hcond,h2⟩:=h2
 simp only [Op.operands] at hcond
 have hev1:(st.ev S (.tmp p)).strip = .b (.c (.pel idp szp ip offp)):=by simp [St.ev,hpv,SV.strip]
 simp only [cu,hvp,hvv,hev1,e1.2.1] at h2
 split at h2
 ·rename_i q1 _ _;cases q1
 ·rename_i id s i off v sz ag q1 q2 q3
  cases q1
  split at h2
  ·rename_i e s' n f hb
   obtain ⟨hvc,h2⟩:=h2
   refine ⟨st.setBox idp (.arr e s' n fun i' j=>if i'=ip then (if offp≤j∧j<offp+sz then (v.cells.getD (j - offp) .any).toP else f ip j) else f i' j), ?_, ?_⟩
   ·unfold Ex dD
    rw [hyg]
    simp only [gM,hy,hro,hyd]
    refine ⟨?_, ?_⟩
    ·simp only [Op.operands]
     simpa only [Op.operands,List.map_cons,List.map_nil,hvp,hvv] using hcond
    ·simp only [cu,hev1,q2,q3,hb]
     exact ⟨hvc,rfl⟩
   ·subst h2
    unfold Ex dD at h1 ⊢
    rw [hxg] at h1 ⊢
    simp only [gM,hx,kZ] at h1 ⊢
    have hload:∀ r,rc (ct S t st.bx (st.ev S (.tmp q)).strip) (st.ev S (.tmp q)).cond=some r→rc (ct S t (st.setBox idp (.arr e s' n fun i' j=>if i'=ip then (if offp≤j∧j<offp+sz then (v.cells.getD (j - offp) .any).toP else f ip j) else f i' j)).bx (st.ev S (.tmp q)).strip) (st.ev S (.tmp q)).cond=some r:=fun r hr=>by
     unfold yZ at hq
     simp only [St.ev] at hr ⊢
     split at hq
     ·rename_i id2 off2 hqv
      rw [hqv] at hr ⊢
      simp only [SV.strip,SV.cond,ct,St.setBox] at hr ⊢
      by_cases hid:id2=idp
      ·subst hid
       rw [hb] at hr
       simp [rc] at hr
      ·rw [if_neg hid];exact hr
     ·subst hq;omega
     ·rename_i hqv
      rw [hqv] at hr ⊢
      exact hr
     ·exact hq.elim
    cases hr:rc (ct S t st.bx (st.ev S (.tmp q)).strip) (st.ev S (.tmp q)).cond with
    | none=>rw [hr] at h1;simp only [cu] at h1;exact h1.2.elim
    | some r =>
     rw [hr] at h1
     have:=hload r hr
     rw [show (St.ev S (st.setBox idp (.arr e s' n fun i' j=>if i'=ip then (if offp≤j∧j<offp+sz then (v.cells.getD (j - offp) .any).toP else f ip j) else f i' j)) (.tmp q))=st.ev S (.tmp q) from rfl,this]
     refine ⟨h1.1, ?_⟩
     rw [← h1.2,hxd]
     rfl
  ·exact h2.elim
 ·exact h2.elim
theorem oe {x y : Oper} {d p q : Nat} {t t' : TypeId} {vop : Operand} (hx : x.op = .load t (.tmp q)) (hxd : x.dst = some d) (hxg : x.guard = none)
  (hy:y.op = .store t' (.tmp p) vop) (hyd:y.dst=none) (hyg:y.guard=none) (hdp:d≠p) (hdv:vop ≠ .tmp d) {c c':Nat} (hp:yZ c (st.fr p)) (hq:yZ c' (st.fr q)) (hc:4≤c∧4≤c'∧c≠c')
  (h1:Ex S ops st x s1) (h2:Ex S ops s1 y s2):∃ s3,Ex S ops st y s3∧Ex S ops s3 x s2:=by
 obtain ⟨hc1,hc2,hc3⟩:=hc
 obtain ⟨idp,offp,hpv,rfl⟩:∃ id off,st.fr p = .b (.c (.ptr id off))∧c=4+id:=by
  unfold yZ at hp
  split at hp
  ·exact ⟨_,_,by assumption,by omega⟩
  ·omega
  ·omega
  ·cases hp
 obtain ⟨idq,offq,hqv,rfl⟩:∃ id off,st.fr q = .b (.c (.ptr id off))∧c'=4+id:=by
  unfold yZ at hq
  split at hq
  ·exact ⟨_,_,by assumption,by omega⟩
  ·omega
  ·omega
  ·cases hq
 have e1:s1=st.set (some d) (s1.fr d)∧s1.bx=st.bx∧s1.nx=st.nx:=by
  obtain ⟨v,b,n,rfl,hb,_⟩:=ff h1
  have:sH S.rcv x≤1:=by simp [sH,cF,hx]
  obtain ⟨rfl,rfl⟩:=hb this
  rw [hxd]
  refine ⟨?_,cR,ee⟩
  simp [St.set]
 have hev:∀ z:Operand,z ≠ .tmp d→s1.ev S z=st.ev S z:=fun z hz=>by
  rw [e1.1]
  cases z with
  | tmp k=>simp only [St.ev,St.set];rw [if_neg (fun e=>hz (by rw [e]))]
  | _=>rfl
 have hvp:s1.ev S (.tmp p)=st.ev S (.tmp p):=hev _ (fun e=>hdp (by cases e;rfl))
 have hvv:=hev vop hdv
 have hro:∀ b ev,ro S b ev (.store t' (.tmp p) vop)=none:=fun _ _=>rfl
 unfold Ex dD at h2
 rw [hyg] at h2
 simp only [gM,hy,hro,hyd] at h2
 obtain ⟨hcond,h2⟩:=h2
 simp only [Op.operands] at hcond
 have hev1:(st.ev S (.tmp p)).strip = .b (.c (.ptr idp offp)):=by simp [St.ev,hpv,SV.strip]
 simp only [cu,hvp,hvv,hev1,e1.2.1] at h2
 split at h2
 ·rename_i id off v sz ag q1 q2 q3
  cases q1
  split at h2
  ·rename_i cs hb
   obtain ⟨hvc,h2⟩:=h2
   refine ⟨st.setBox idp (.fix (gP cs offp v.cells)), ?_, ?_⟩
   ·unfold Ex dD
    rw [hyg]
    simp only [gM,hy,hro,hyd]
    refine ⟨?_, ?_⟩
    ·simp only [Op.operands]
     simpa only [Op.operands,List.map_cons,List.map_nil,hvp,hvv] using hcond
    ·simp only [cu,hev1,q2,q3,hb]
     exact ⟨hvc,rfl⟩
   ·subst h2
    unfold Ex dD at h1 ⊢
    rw [hxg] at h1 ⊢
    simp only [gM,hx,kZ] at h1 ⊢
    have hload:∀ r,rc (ct S t st.bx (st.ev S (.tmp q)).strip) (st.ev S (.tmp q)).cond=some r→rc (ct S t (st.setBox idp (.fix (gP cs offp v.cells))).bx (st.ev S (.tmp q)).strip) (st.ev S (.tmp q)).cond=some r:=fun r hr=>by
     simp only [St.ev] at hr ⊢
     rw [hqv] at hr ⊢
     simp only [SV.strip,SV.cond,ct,St.setBox] at hr ⊢
     rw [if_neg (by omega)];exact hr
    cases hr:rc (ct S t st.bx (st.ev S (.tmp q)).strip) (st.ev S (.tmp q)).cond with
    | none=>rw [hr] at h1;simp only [cu] at h1;exact h1.2.elim
    | some r =>
     rw [hr] at h1
     have:=hload r hr
     rw [show (St.ev S (st.setBox idp (.fix (gP cs offp v.cells))) (.tmp q))=st.ev S (.tmp q) from rfl,this]
     refine ⟨h1.1, ?_⟩
     rw [← h1.2,hxd]
     rfl
  ·exact h2.elim
 ·rename_i q1 _ _;cases q1
 ·exact h2.elim
def dB (lb:Nat) (st:St):Prop:=(∀ i,st.nx≤i→st.bx i=none)∧lb≤st.nx
theorem dB.set {lb:Nat} {st:St} (h:dB lb st) (d:Option Nat) (v:SV):dB lb (st.set d v) :=
 ⟨fun i hi=>by rw [cR];rw [ee] at hi;exact h.1 i hi,by rw [ee];exact h.2⟩
theorem dB.newBox {lb:Nat} {st:St} (h:dB lb st) (x:Bx):dB lb (st.newBox x):=⟨fun i hi=>by
 simp only [St.newBox] at hi ⊢
 rw [if_neg (by omega)];exact h.1 i (by omega),Nat.le_succ_of_le h.2⟩
theorem dB.delBox {lb:Nat} {st:St} (h:dB lb st) (id:Nat):dB lb (st.delBox id):=⟨fun i hi=>by
 simp only [St.delBox] at hi ⊢
 split
 ·rfl
 ·exact h.1 i hi,h.2⟩
theorem dB.setBox {lb:Nat} {st:St} (h:dB lb st) {id:Nat} {y:Bx} (hb:st.bx id=some y) (x:Bx):dB lb (st.setBox id x):=⟨fun i hi=>by
 simp only [St.setBox] at hi ⊢
 split
 ·rename_i e
  subst e
  rw [h.1 i hi] at hb;cases hb
 ·exact h.1 i hi,h.2⟩
theorem wN {lb:Nat} {f:FuncId} {args:List BV} {K:SV→St→Prop} (h:CallP S st f args K) (w:dB lb st):∃ r s',K r s'∧dB lb s':=by
 cases h with
 | pure args' X h ha hl hk=>exact ⟨_,_,hk,w⟩
 | ext args' X h ha hl hk=>exact ⟨_,_,hk,w⟩
 | lend args' X h ha hl hf hk=>exact ⟨_,_,hk,w⟩
 | recv id off cs0 cs rest args' X Y h he hb hoff hcs ha hl hr hy hk=>exact ⟨_,_,hk,w.setBox hb _⟩
 | recvEl id sz i e n g cs rest args' X Y h he hb hi hsz hcs ha hl hr hy hk=>exact ⟨_,_,hk,w.setBox hb _⟩
 | inl X bx' nx' h hr hw hk hn=>exact ⟨_,_,hk,hw,Nat.le_trans w.2 hn⟩
 | own args' e sz n g h ha hl hr hk=>exact ⟨_,_,hk,w.newBox _⟩
theorem KZ {lb:Nat} {ev:Operand→SV} {op:Op} {K:SV→St→Prop} (h:cu S st ev op K) (w:dB lb st):∃ r s',K r s'∧dB lb s':=by
 cases op with
 | build t parts =>
  simp only [cu] at h
  split at h
  ·split at h
   ·exact ⟨_,_,h.2,w⟩
   ·exact h.elim
  ·exact h.elim
 | alloc t =>
  simp only [cu] at h
  split at h
  ·exact ⟨_,_,h,w.newBox _⟩
  ·exact h.elim
 | box t x =>
  simp only [cu] at h
  split at h
  ·exact ⟨_,_,h.2,w.newBox _⟩
  ·exact h.elim
 | buildSlice t len parts =>
  simp only [cu] at h
  split at h
  ·split at h
   ·split at h
    ·exact ⟨_,_,h.2,w.newBox _⟩
    ·exact h.elim
   ·exact h.elim
  ·exact h.elim
 | store t p x =>
  simp only [cu] at h
  split at h
  ·split at h
   ·rename_i hb
    exact ⟨_,_,h.2,w.setBox hb _⟩
   ·exact h.elim
  ·split at h
   ·rename_i hb
    exact ⟨_,_,h.2,w.setBox hb _⟩
   ·exact h.elim
  ·exact h.elim
 | makeSlice t l c =>
  simp only [cu] at h
  split at h
  ·split at h
   ·exact ⟨_,_,h.2,w.newBox _⟩
   ·exact h.elim
  ·exact h.elim
 | call c =>
  simp only [cu] at h
  split at h
  ·split at h
   ·split at h
    ·exact ⟨_,_,h.2,w.newBox _⟩
    ·split at h
     ·exact ⟨_,_,h.2,(w.delBox _).newBox _⟩
     ·exact h.elim
    ·exact h.elim
   ·exact h.elim
  ·split at h
   ·split at h
    ·rename_i hb
     exact ⟨_,_,h.2,w.setBox hb _⟩
    ·exact h.elim
   ·exact h.elim
  ·exact wN h w
  ·split at h
   ·exact wN h w
   ·exact h.elim
  ·exact h.elim
 | _=>exact h.elim
theorem DE {lb:Nat} {o:Oper} {K:St→Prop} (h:gM S st o K) (w:dB lb st):∃ s',K s'∧dB lb s':=by
 unfold gM at h
 split at h
 ·exact ⟨_,h.2,w.set _ _⟩
 ·obtain ⟨r,s',hk,hw⟩:=KZ h.2 w
  exact ⟨_,hk,hw.set _ _⟩
theorem pc {lb:Nat} {o:Oper} (h:Ex S ops st o s') (w:dB lb st):dB lb s':=by
 unfold Ex dD at h
 split at h
 ·obtain ⟨s,rfl,hw⟩:=DE h w
  exact hw
 ·split at h
  ·rename_i g hg
   split at h
   ·rw [← h.2.2];exact w.set _ _
   ·rw [← h.2.2];exact w.set _ _
   ·rcases h with h|⟨x,_,_,h⟩
    ·cases g with
     | true =>
      obtain ⟨s,rfl,hw⟩:=DE (h.1 rfl) w
      exact hw
     | false=>rw [← h.2 rfl];exact w.set _ _
    ·rw [← h];exact w.set _ _
  ·exact h.elim
def pR (rcv:Nat→Bool) (o:Oper):Bool:=o.guard.isNone && match o.op with
 | .alloc _=>true
 | .box _ _=>true
 | .buildSlice _ _ _=>true
 | .makeSlice _ _ _=>true
 | .call c=>match c.callee with
  | .value (.func f) => !rcv f && rcv (f+2000000)
  | _=>false
 | _=>false
theorem wh {o:Oper} (ha:pR S.rcv o=true) (h:Ex S ops st o s'):∀ i,i≠st.nx→s'.bx i=st.bx i:=by
 intro i hi
 simp only [pR,Bool.and_eq_true,Option.isNone_iff_eq_none] at ha
 obtain ⟨hg,ha⟩:=ha
 unfold Ex dD at h
 rw [hg] at h
 simp only [gM] at h
 split at ha
 ·rename_i t ho
  rw [ho] at h
  simp only [show ro S st.bx (st.ev S) (.alloc t)=none from rfl,cu] at h
  split at h
  ·rw [← h.2];simp [St.newBox,cR,hi]
  ·exact h.2.elim
 ·rename_i t x ho
  rw [ho] at h
  simp only [show ro S st.bx (st.ev S) (.box t x)=none from rfl,cu] at h
  split at h
  ·rw [← h.2.2];simp [St.newBox,cR,hi]
  ·exact h.2.elim
 ·rename_i t l ps ho
  rw [ho] at h
  simp only [show ro S st.bx (st.ev S) (.buildSlice t l ps)=none from rfl,cu] at h
  split at h
  ·split at h
   ·split at h
    ·rw [← h.2.2];simp [St.newBox,cR,hi]
    ·exact h.2.elim
   ·exact h.2.elim
  ·exact h.2.elim
 ·rename_i t l c ho
  rw [ho] at h
  simp only [show ro S st.bx (st.ev S) (.makeSlice t l c)=none from rfl,cu] at h
  split at h
  ·split at h
   ·rw [← h.2.2];simp [St.newBox,cR,hi]
   ·exact h.2.elim
  ·exact h.2.elim
 ·rename_i c ho
  obtain ⟨cal,⟨al⟩,⟨tl⟩⟩:=c
  simp only at ha
  split at ha
  ·rename_i f
   rw [ho] at h
   simp only [Bool.and_eq_true,Bool.not_eq_true'] at ha
   have hro:ro S st.bx (st.ev S) (.call ⟨.value (.func f),⟨al⟩,⟨tl⟩⟩)=none:=by simp [ro,aP]
   rw [hro] at h
   have h2:=h.2
   unfold cu at h2
   simp only at h2
   cases h2 with
   | pure args' X h ha2 hl hk=>rw [← hk,cR]
   | ext args' X h ha2 hl hk=>rw [← hk,cR]
   | lend args' X h ha2 hl hf hk hp=>rw [← hk,cR]
   | recv id off cs0 cs rest args' X Y h he hb hoff hcs ha2 hl hr hy hk=>rw [ha.1] at hr;cases hr
   | recvEl id sz i e n g cs rest args' X Y h he hb hi hsz hcs ha2 hl hr hy hk=>rw [ha.1] at hr;cases hr
   | inl X bx' nx' h hr hw hk hn=>rw [ha.1] at hr;cases hr
   | own args' e sz n g h ha2 hl hr hk=>rw [← hk,cR];simp [St.newBox,hi]
  ·cases ha
 ·cases ha
def uU (o:Oper):Bool:=o.guard.isNone && match o.op with
 | .load _ _=>true
 | _=>false
def nb (rcv:Nat→Bool) (ops:Array Oper) (x y:Oper):Bool :=
 (match x.dst with|some d => !(bD ops y).contains d|none=>true) && (match y.dst with|some d => !(bD ops x).contains d|none=>true) &&
 (match x.dst,y.dst with|some d,some e=>d != e|_,_=>true) && uU x && pR rcv y
theorem zM {t:TypeId} {b b':Nat→Option Bx} {v:SV} {r:Prop × SV} (h:ct S t b v=some r) (hb:∀ i y,b i=some y→b' i=some y):ct S t b' v=some r:=by
 unfold ct at h ⊢
 split
 ·rename_i id off
  simp only at h
  split at h
  ·rename_i h1 h2;rw [hb _ _ h1,h2];exact h
  ·rename_i h1 h2;rw [hb _ _ h1,h2];exact h
  ·cases h
 ·rename_i id sz i off
  simp only at h
  split at h
  ·rename_i h1 h2;rw [hb _ _ h1,h2];exact h
  ·rename_i h1 h2;rw [hb _ _ h1,h2];exact h
  ·cases h
 ·exact h
 ·simp_all
theorem gm {lb:Nat} {x y:Oper} (hi:nb S.rcv ops x y=true) (w:dB lb st) (h1:Ex S ops st x s1) (h2:Ex S ops s1 y s2):∃ s3,Ex S ops st y s3∧Ex S ops s3 x s2:=by
 simp only [nb,Bool.and_eq_true] at hi
 obtain ⟨⟨⟨⟨hxy,hyx⟩,hdd⟩,hl⟩,ha⟩:=hi
 have hab:=wh ha h2
 simp only [uU,Bool.and_eq_true,Option.isNone_iff_eq_none] at hl
 obtain ⟨hxg,hl⟩:=hl
 split at hl
 case h_2=>cases hl
 rename_i t q hxo
 obtain ⟨v1,b1,n1,e1,k1,p1,z1⟩:=ff h1
 have hc1:sH S.rcv x≤1:=by simp [sH,cF,hxo]
 obtain ⟨rfl,rfl⟩:=k1 hc1
 obtain ⟨v2,b2,n2,e2,k2,p2,z2⟩:=ff h2
 have hs1:s1.bx=st.bx∧s1.nx=st.nx:=by rw [e1];exact ⟨cR,ee⟩
 have ag1:∀ t ∈ bD ops y,s1.fr t=st.fr t:=by
  rw [e1];exact eV (nx':=0) (bx':=st.bx) hxy
 have q2:=p2 st ag1 hs1.1.symm hs1.2.symm
 refine ⟨_,q2, ?_⟩
 have comm:s2=St.set (St.set ⟨st.fr,b2,n2,st.kf⟩ y.dst v2) x.dst v1:=by
  rw [e2,e1]
  simp only [cV,St.mk.injEq,and_true]
  funext s
  by_cases c1:some s=x.dst
  ·by_cases c2:some s=y.dst
   ·rw [← c1,← c2] at hdd
    simp at hdd
   ·rw [if_neg c2,if_pos c1,if_pos c1]
  ·by_cases c2:some s=y.dst
   ·rw [if_pos c2,if_neg c1,if_pos c2]
   ·rw [if_neg c2,if_neg c1,if_neg c1,if_neg c2]
 have hbx:∀ i y',st.bx i=some y'→b2 i=some y':=fun i y' hi=>by
  have hne:i≠s1.nx:=by
   rw [hs1.2]
   intro e
   have:=w.1 i (by omega)
   rw [this] at hi;cases hi
  have:=hab i hne
  rw [e2,cR,hs1.1] at this
  exact this.trans hi
 have ag2:∀ t ∈ bD ops x,(St.set ⟨st.fr,b2,n2,st.kf⟩ y.dst v2).fr t=st.fr t:=eV (nx':=0) (bx':=st.bx) hyx
 have hevq:(St.set ⟨st.fr,b2,n2,st.kf⟩ y.dst v2).ev S q=st.ev S q :=
  (cA (S:=S) (ops:=ops) (o:=x) (fun t ht=>(ag2 t ht).symm) q (by rw [hxo];simp [Op.operands])).symm
 unfold Ex dD at h1 ⊢
 rw [hxg] at h1 ⊢
 simp only [gM,hxo,kZ] at h1 ⊢
 rw [hevq,cR]
 cases hr:ct S t st.bx (st.ev S q).strip with
 | none=>rw [hr] at h1;simp only [rc,cu] at h1;exact h1.2.elim
 | some r =>
  rw [hr] at h1
  rw [zM hr hbx]
  obtain ⟨r1,r2⟩:=r
  simp only [rc] at h1 ⊢
  refine ⟨h1.1, ?_⟩
  rw [comm]
  have hv:∀ d,x.dst=some d→r2=v1:=fun d hd=>by
   have:=congrArg (fun s:St=>s.fr d) (h1.2.trans e1)
   simpa [hd,St.set] using this
  cases hd:x.dst with
  | none=>rfl
  | some d=>rw [hv d hd]
def OK (kl:List (Nat × Nat)) (ops:Array Oper) (mi:Nat) (j i:Nat) (x y:Oper):Bool :=
 match x.op,y.op,x.dst with
 | .load _ (.tmp q), .store _ (.tmp p) vop,some d =>
  x.guard.isNone && y.guard.isNone && y.dst.isNone && d != p && d != q && (match vop with | .tmp e=>e != d|_=>true) && ((Nat.beq (nG kl p) 2 && (Nat.beq (nG kl q) 1 || Nat.beq (nG kl q) 3)) || (Nat.ble 4 (nG kl p) && Nat.ble 4 (nG kl q) && nG kl p != nG kl q)) &&
   (List.range ops.size).all fun k=>Nat.ble k j || (match ops[k]? with
    | some z=>z.dst != some q && (z.dst != some p || (Nat.blt k i && mi.testBit k))
    | none=>true)
 | _,_,_=>false
def FZ (rcv:Nat→Bool) (kl:List (Nat × Nat)) (ops:Array Oper) (x y:Oper):Bool :=
 (match x.dst with|some d => !(bD ops y).contains d|none=>true) && (match y.dst with|some d => !(bD ops x).contains d|none=>true) &&
 (match x.dst,y.dst with|some d,some e=>d != e|_,_=>true) && pR rcv x && (match y.op with
 | .load _ (.tmp q)=>y.guard.isNone && Nat.ble 4 (nG kl q) && (List.range ops.size).all fun k=>match ops[k]? with
  | some z=>z.dst != some q
  | none=>true
 | _=>false)
theorem po {kl : List (Nat × Nat)} {x y : Oper} {t : TypeId} {q id off : Nat} (hi : FZ S.rcv kl ops x y = true) (hyo : y.op = .load t (.tmp q)) (hyg : y.guard = none) (hq : st.fr q = .b (.c (.ptr id off))) (hid : id < st.nx)
  (h1:Ex S ops st x s1) (h2:Ex S ops s1 y s2):∃ s3,Ex S ops st y s3∧Ex S ops s3 x s2:=by
 simp only [FZ,Bool.and_eq_true] at hi
 obtain ⟨⟨⟨⟨hxy,hyx⟩,hdd⟩,ha⟩,_⟩:=hi
 have hab:=wh ha h1
 obtain ⟨v1,b1,n1,e1,k1,p1,z1⟩:=ff h1
 obtain ⟨v2,b2,n2,e2,k2,p2,z2⟩:=ff h2
 have hc2:sH S.rcv y≤1:=by simp [sH,cF,hyo,hyg]
 obtain ⟨rfl,rfl⟩:=k2 hc2
 have hfrq:s1.fr q=st.fr q:=by
  rw [e1]
  refine eV (nx':=0) (bx':=st.bx) hxy q ?_
  simp [bD,hyo,Op.operands]
 have hload:rc (ct S t s1.bx (s1.ev S (.tmp q)).strip) (s1.ev S (.tmp q)).cond=rc (ct S t st.bx (st.ev S (.tmp q)).strip) (st.ev S (.tmp q)).cond:=by
  simp only [St.ev,hfrq,hq,SV.strip,SV.cond,ct,hab id (by omega)]
 have hy:Ex S ops st y (st.set y.dst v2):=by
  unfold Ex dD at h2 ⊢
  rw [hyg] at h2 ⊢
  simp only [gM,hyo,kZ] at h2 ⊢
  rw [hload] at h2
  cases hr:rc (ct S t st.bx (st.ev S (.tmp q)).strip) (st.ev S (.tmp q)).cond with
  | none=>rw [hr] at h2;simp only [cu] at h2;exact h2.2.elim
  | some r =>
   rw [hr] at h2
   refine ⟨h2.1, ?_⟩
   have h3:s1.set y.dst r.2=St.set ⟨s1.fr,s1.bx,s1.nx,s1.kf⟩ y.dst v2:=h2.2.trans e2
   rw [cV,cV] at h3
   simp only [St.mk.injEq,and_true] at h3
   rw [cV,cV]
   simp only [St.mk.injEq,and_true]
   funext s
   have:=congrFun h3 s
   by_cases c1:some s=y.dst
   ·rw [if_pos c1,if_pos c1] at this
    rw [if_pos c1,if_pos c1,this]
   ·rw [if_neg c1,if_neg c1]
 refine ⟨_,hy, ?_⟩
 have ag:∀ t ∈ bD ops x,st.fr t=(st.set y.dst v2).fr t:=fun t ht=>(eV (fr:=st.fr) (kf:=st.kf) (nx':=0) (bx':=st.bx) (bx:=st.bx) (nx:=st.nx) hyx t ht).symm
 have:=p1 (st.set y.dst v2) ag cR ee
 have comm:s2=St.set ⟨(st.set y.dst v2).fr,b1,n1,(st.set y.dst v2).kf⟩ x.dst v1:=by
  rw [e2,e1]
  simp only [cV,St.mk.injEq,and_true]
  funext s
  by_cases c1:some s=x.dst
  ·by_cases c2:some s=y.dst
   ·rw [← c1,← c2] at hdd
    simp at hdd
   ·rw [if_neg c2,if_pos c1,if_pos c1]
  ·by_cases c2:some s=y.dst
   ·rw [if_pos c2,if_neg c1,if_pos c2]
   ·rw [if_neg c2,if_neg c1,if_neg c1,if_neg c2]
 rw [comm]
 exact this
def nr (rcv:Nat→Bool) (ops:Array Oper) (m:Nat→Nat) (kl:List (Nat × Nat)):Bool :=
 (List.range ops.size).all fun i=>match ops[i]? with
  | none=>false
  | some o=>(o.after.all fun e => !Region.binds .any e || Nat.blt e.on i) &&
   (List.range i).all fun j=>match ops[j]? with
    | none=>false
    | some x=>(pa rcv ops x o || nb rcv ops x o || OK kl ops (m i) j i x o || FZ rcv kl ops x o) || ((m i).testBit j)
theorem pY {m : Nat → Nat} {kl : List (Nat × Nat)} {i : Nat} {o : Oper} {l2 : List Nat} (hd : nr S.rcv ops m kl = true) (ho : ops[i]? = some o) (hlt : i < ops.size) : ∀ (l1 : List Nat) {st s' : St}, (l1 ++ i :: l2).Pairwise (· < ·) →
  (∀ k ∈ l1 ++ i :: l2,k<ops.size)→(∀ j ∈ l1,(m i).testBit j=false)→HB S ops (l1.map (fun i=>ops.getD i default) ++ o :: l2.map (fun i=>ops.getD i default)) st s'→fI kl s'→dB (vh kl) st →
  ∃ s,Ex S ops st o s∧HB S ops (l1.map (fun i=>ops.getD i default) ++ l2.map (fun i=>ops.getD i default)) s s'
 | [],_,_,_,_,_,h,_,_=>h
 | j :: l1,st,s',hp,hall,ht,⟨s,h1,h2⟩,hk,hwf=>by
  have hpc:=List.pairwise_cons.1 hp
  obtain ⟨s2,h3,h4⟩:=pY hd ho hlt l1 hpc.2 (fun k hk=>hall k (List.mem_cons_of_mem _ hk)) (fun k hk=>ht k (List.mem_cons_of_mem _ hk)) h2 hk (pc h1 hwf)
  have hji:j<i:=hpc.1 i (List.mem_append_right _ (List.mem_cons_self ..))
  have hjlt:j<ops.size:=hall j (List.mem_cons_self ..)
  have hx:ops[j]?=some (ops.getD j default):=by rw [Array.getD_eq_getD_getElem?,Array.getElem?_eq_getElem hjlt];rfl
  have d1:=List.all_eq_true.1 hd i (List.mem_range.2 hlt)
  rw [ho] at d1
  simp only [Bool.and_eq_true] at d1
  have d2:=List.all_eq_true.1 d1.2 j (List.mem_range.2 hji)
  rw [hx] at d2
  simp only [Bool.or_eq_true,ht j (List.mem_cons_self ..),Bool.false_eq_true,or_false] at d2
  have key:∃ s3,Ex S ops st o s3∧Ex S ops s3 (ops.getD j default) s2:=by
   rcases d2 with ((d2|d2)|d2)|d2
   ·exact pO d2 h1 h3
   ·exact gm d2 hwf h1 h3
   ·unfold OK at d2
    split at d2
    ·rename_i _ t q t' p vop d hxo hyo hxd
     simp only [Bool.and_eq_true,Nat.beq_eq,Nat.ble_eq,Bool.or_eq_true,bne_iff_ne,Option.isNone_iff_eq_none] at d2
     obtain ⟨⟨⟨⟨⟨⟨⟨g1,g2⟩,g3⟩,g4⟩,g5⟩,g6⟩,g7⟩,g9⟩:=d2
     have hw:∀ k,j<k→k<ops.size→(ops.getD k default).dst≠some q∧((ops.getD k default).dst≠some p∨(k<i∧(m i).testBit k=true)):=fun k hk1 hk2=>by
      have:=List.all_eq_true.1 g9 k (List.mem_range.2 hk2)
      rw [show ops[k]?=some (ops.getD k default) by rw [Array.getD_eq_getD_getElem?,Array.getElem?_eq_getElem hk2];rfl] at this
      simp only [Bool.or_eq_true,Nat.ble_eq,Bool.and_eq_true,bne_iff_ne] at this
      rcases this with h|h
      ·omega
      ·refine ⟨h.1,h.2.imp id fun h=>⟨?_,h.2⟩⟩
       have:=h.1
       simp [Nat.blt] at this
       omega
     have hq1:s'.fr q=s.fr q:=vx h2 fun z hz=>by
      rcases List.mem_append.1 hz with hz|hz
      ·obtain ⟨k,hk1,rfl⟩:=List.mem_map.1 hz
       exact (hw k (hpc.1 k (List.mem_append_left _ hk1)) (hall k (List.mem_cons_of_mem _ (List.mem_append_left _ hk1)))).1
      ·rcases List.mem_cons.1 hz with hz|hz
       ·subst hz;rw [g3];simp
       ·obtain ⟨k,hk1,rfl⟩:=List.mem_map.1 hz
        exact (hw k (hpc.1 k (List.mem_append_right _ (List.mem_cons_of_mem _ hk1))) (hall k (List.mem_cons_of_mem _ (List.mem_append_right _ (List.mem_cons_of_mem _ hk1))))).1
     have hp1:s'.fr p=s.fr p:=vx h2 fun z hz=>by
      rcases List.mem_append.1 hz with hz|hz
      ·obtain ⟨k,hk1,rfl⟩:=List.mem_map.1 hz
       rcases (hw k (hpc.1 k (List.mem_append_left _ hk1)) (hall k (List.mem_cons_of_mem _ (List.mem_append_left _ hk1)))).2 with h|h
       ·exact h
       ·rw [ht k (List.mem_cons_of_mem _ hk1)] at h;cases h.2
      ·rcases List.mem_cons.1 hz with hz|hz
       ·subst hz;rw [g3];simp
       ·obtain ⟨k,hk1,rfl⟩:=List.mem_map.1 hz
        rcases (hw k (hpc.1 k (List.mem_append_right _ (List.mem_cons_of_mem _ hk1))) (hall k (List.mem_cons_of_mem _ (List.mem_append_right _ (List.mem_cons_of_mem _ hk1))))).2 with h|h
        ·exact h
        ·have:=(List.pairwise_cons.1 (List.pairwise_append.1 hpc.2).2.1).1 k hk1
         omega
     have hp2:s.fr p=st.fr p:=zR h1 (by rw [hxd];simpa using g4)
     have hq2:s.fr q=st.fr q:=zR h1 (by rw [hxd];simpa using g5)
     have hpk:=ki hk (t:=p) (by omega)
     have hqk:=ki hk (t:=q) (by omega)
     rw [hp1,hp2] at hpk
     rw [hq1,hq2] at hqk
     have g6':vop ≠ .tmp d:=fun e=>by subst e;simp at g6
     rcases g7 with g7|g7
     ·rw [g7.1] at hpk
      exact pC hxo hxd g1 hyo g3 g2 (by simpa using g4) g6' hpk hqk ⟨rfl,g7.2⟩ h1 h3
     ·exact oe hxo hxd g1 hyo g3 g2 (by simpa using g4) g6' hpk hqk ⟨g7.1.1,g7.1.2,g7.2⟩ h1 h3
    ·cases d2
   ·have d3:=d2
    simp only [FZ,Bool.and_eq_true] at d3
    obtain ⟨⟨⟨⟨_,_⟩,_⟩,_⟩,d3⟩:=d3
    split at d3
    ·rename_i t q hyo
     simp only [Bool.and_eq_true,Option.isNone_iff_eq_none,Nat.ble_eq] at d3
     obtain ⟨⟨hyg,hkd⟩,hall2⟩:=d3
     have hz:∀ k,k<ops.size→(ops.getD k default).dst≠some q:=fun k hk2=>by
      have:=List.all_eq_true.1 hall2 k (List.mem_range.2 hk2)
      rw [show ops[k]?=some (ops.getD k default) by rw [Array.getD_eq_getD_getElem?,Array.getElem?_eq_getElem hk2];rfl] at this
      simpa using this
     have hoi:o=ops.getD i default:=by rw [Array.getD_eq_getD_getElem?,ho];rfl
     have hq1:s'.fr q=s.fr q:=vx h2 fun z hz2=>by
      rcases List.mem_append.1 hz2 with hz2|hz2
      ·obtain ⟨k,hk1,rfl⟩:=List.mem_map.1 hz2
       exact hz k (hall k (List.mem_cons_of_mem _ (List.mem_append_left _ hk1)))
      ·rcases List.mem_cons.1 hz2 with hz2|hz2
       ·subst hz2;rw [hoi];exact hz i hlt
       ·obtain ⟨k,hk1,rfl⟩:=List.mem_map.1 hz2
        exact hz k (hall k (List.mem_cons_of_mem _ (List.mem_append_right _ (List.mem_cons_of_mem _ hk1))))
     have hq2:s.fr q=st.fr q:=zR h1 (hz j hjlt)
     have hqk:=ki hk (t:=q) (by omega)
     rw [hq1,hq2] at hqk
     unfold yZ at hqk
     split at hqk
     ·rename_i id off hfr
      have hlb:=Jf (t:=q) (l:=kl)
      exact po d2 hyo hyg hfr (by have:=hwf.2;omega) h1 h3
     ·omega
     ·omega
     ·exact hqk.elim
    ·cases d3
  obtain ⟨s3,h5,h6⟩:=key
  exact ⟨s3,h5,s2,h6,h4⟩
theorem Ho {m : Nat → Nat} {kl : List (Nat × Nat)} (hd : nr S.rcv ops m kl = true) (hm : cg ops m = true) {K : St → Prop} : ∀ (fuel : Nat) (listed : Array Bool) (rest : List Nat) (st s' : St),
  listed.size=ops.size→rest.Pairwise (· < ·)→(∀ i,i ∈ rest↔i<ops.size∧listed.getD i true=false)→eZ ops listed→HB S ops (rest.map fun i=>ops.getD i default) st s'→K s'→fI kl s'→dB (vh kl) st→rest.length≤fuel →
  fN S ops fuel listed st K:=by
 have hed:∀ i o,ops[i]?=some o→∀ e ∈ o.after,Region.binds .any e=true→e.on<i:=fun i o ho e he hb=>by
  have hlt:i<ops.size:=by
   rcases Nat.lt_or_ge i ops.size with h|h
   ·exact h
   ·rw [Array.getElem?_eq_none h] at ho;cases ho
  have:=List.all_eq_true.1 hd i (List.mem_range.2 hlt)
  rw [ho] at this
  simp only [Bool.and_eq_true] at this
  have:=this.1
  obtain ⟨k,hk,rfl⟩:=Array.mem_iff_getElem.1 he
  have:=(Array.all_eq_true.1 this) k hk
  simp only [hb,Bool.not_true,Bool.false_or,Nat.blt] at this
  have:=Nat.le_of_ble_eq_true this
  omega
 have noready:∀ (listed:Array Bool) (rest:List Nat),listed.size=ops.size→rest.Pairwise (· < ·)→(∀ i,i ∈ rest↔i<ops.size∧listed.getD i true=false)→Region.ready .any ops listed=[]→rest=[]:=by
  intro listed rest hs hp hr hno
  cases rest with
  | nil=>rfl
  | cons i r =>
   exfalso
   obtain ⟨hlt,hl⟩:=(hr i).1 (List.mem_cons_self ..)
   have:i ∈ Region.ready .any ops listed:=(bP hs).2 ⟨_,Array.getElem?_eq_getElem hlt,hl,fun e he hb=>by
    have hle:=hed i _ (Array.getElem?_eq_getElem hlt) e he hb
    cases hq:listed.getD e.on false with
    | true=>rfl
    | false =>
     exfalso
     have hq':listed.getD e.on true=false:=by
      have hl2:e.on<listed.size:=by omega
      rw [Array.getD,dif_pos hl2] at hq ⊢
      exact hq
     have hmem:=(hr e.on).2 ⟨by omega,hq'⟩
     rcases List.mem_cons.1 hmem with h|h
     ·omega
     ·have:=(List.pairwise_cons.1 hp).1 _ h;omega⟩
   rw [hno] at this
   cases this
 intro fuel
 induction fuel with
 | zero =>
  intro listed rest st s' hs hp hr hcl hx hk hkl hwf hlen
  have hnil:rest=[]:=List.eq_nil_of_length_eq_zero (by omega)
  subst hnil
  have hst:st=s':=hx
  subst hst
  refine ⟨?_,hk⟩
  rw [List.eq_nil_iff_forall_not_mem]
  intro i hi
  obtain ⟨o,ho,hl,_⟩:=(bP hs).1 hi
  have hlt:i<ops.size:=by
   rcases Nat.lt_or_ge i ops.size with h|h
   ·exact h
   ·rw [Array.getElem?_eq_none h] at ho;cases ho
  exact absurd ((hr i).2 ⟨hlt,hl⟩) (by simp)
 | succ fuel ih =>
  intro listed rest st s' hs hp hr hcl hx hk hkl hwf hlen
  refine ⟨fun hno => ?_,fun i hi => ?_⟩
  ·have:=noready listed rest hs hp hr hno
   subst this
   have hst:st=s':=hx
   rw [hst];exact hk
  ·obtain ⟨o,ho,hl,hdep⟩:=(bP hs).1 hi
   have hlt:i<ops.size:=by
    rcases Nat.lt_or_ge i ops.size with h|h
    ·exact h
    ·rw [Array.getElem?_eq_none h] at ho;cases ho
   have hmem:=(hr i).2 ⟨hlt,hl⟩
   rw [ho]
   obtain ⟨l1,l2,rfl⟩:=List.append_of_mem hmem
   have hpw:=List.pairwise_append.1 hp
   have hoi:ops.getD i default=o:=by rw [Array.getD_eq_getD_getElem?,ho];rfl
   rw [List.map_append,List.map_cons,hoi] at hx
   have hdep':∀ e ∈ o.after,Region.binds .any e=true→gA listed e.on:=fun e he hb=>by
    have:=hdep e he hb
    have h2:=hed i o ho e he hb
    have hl2:e.on<listed.size:=by omega
    unfold gA
    rw [Array.getD,dif_pos hl2] at this ⊢
    exact this
   have hind:∀ j ∈ l1,(m i).testBit j=false:=fun j hj=>by
    have hji:j<i:=hpw.2.2 j hj i (List.mem_cons_self ..)
    obtain ⟨hjlt,hjl⟩:=(hr j).1 (List.mem_append_left _ hj)
    cases h2:(m i).testBit j with
    | false=>rfl
    | true =>
     exfalso
     have h3:=List.all_eq_true.1 hm i (List.mem_range.2 hlt)
     rw [ho] at h3
     have h4:=List.all_eq_true.1 h3 j (List.mem_range.2 hji)
     simp only [h2,Bool.not_true,Bool.false_or] at h4
     obtain ⟨k,hk',hh⟩:=Array.any_eq_true.1 h4
     simp only [Bool.and_eq_true,Bool.or_eq_true,Nat.beq_eq] at hh
     have hin:=hdep' _ (Array.getElem_mem hk') hh.1
     have hle:=hed i o ho _ (Array.getElem_mem hk') hh.1
     have:gA listed j:=by
      rcases hh.2 with q|q
      ·rw [← q];exact hin
      ·exact qI hm hcl hed (fun _ _ _=>trivial) (i+1) _ (by omega) hin (by omega) j (by have:=q.2;simp [Nat.blt] at this;omega) q.1
     unfold gA at this
     rw [this] at hjl
     cases hjl
   have hall:∀ k ∈ l1 ++ i :: l2,k<ops.size:=fun k hk2=>((hr k).1 hk2).1
   obtain ⟨s1,h1,h2⟩:=pY hd ho hlt l1 hp hall hind hx hkl hwf
   refine ja h1 ?_
   have hget:∀ k b,(listed.setIfInBounds i true).getD k b=if k=i then true else listed.getD k b:=fun k b=>by
    simp only [Array.getD_eq_getD_getElem?,Array.getElem?_setIfInBounds]
    by_cases hk:k=i
    ·subst hk;simp [hs,hlt]
    ·rw [if_neg (fun h=>hk h.symm),if_neg hk]
   refine ih _ (l1 ++ l2) s1 s' (by simpa using hs) ?_ (fun k => ?_) (fun k x hx' hin e he hb => ?_) (by rw [List.map_append];exact h2) hk hkl (pc h1 hwf) (by simp at hlen ⊢;omega)
   ·refine List.pairwise_append.2 ⟨hpw.1,(List.pairwise_cons.1 hpw.2.1).2,fun a ha b hb=>hpw.2.2 a ha b (List.mem_cons_of_mem _ hb)⟩
   ·have hk:=hr k
    rw [hget]
    by_cases hki:k=i
    ·subst hki
     simp only [if_true]
     constructor
     ·intro hmm
      exfalso
      rcases List.mem_append.1 hmm with q|q
      ·have:=hpw.2.2 k q k (List.mem_cons_self ..);omega
      ·have:=(List.pairwise_cons.1 hpw.2.1).1 k q;omega
     ·rintro ⟨_,q⟩;cases q
    ·rw [if_neg hki,← hk]
     simp [hki]
   ·unfold gA at hin ⊢
    rw [hget] at hin ⊢
    by_cases hek:e.on=i
    ·rw [if_pos hek]
    ·rw [if_neg hek]
     by_cases hki:k=i
     ·subst hki
      rw [ho] at hx'
      cases hx'
      exact hdep' e he hb
     ·rw [if_neg hki] at hin
      exact hcl k x hx' hin e he hb
theorem xZ {l:List Oper} {m:Nat→Nat} {kl:List (Nat × Nat)} (hd:nr S.rcv l.toArray m kl=true) (hm:cg l.toArray m=true) {K:St→Prop} (hwf:dB (vh kl) st) (h:aK S l.toArray l st fun s=>fI kl s∧K s):fN S l.toArray l.toArray.size (Array.replicate l.toArray.size false) st K:=by
 obtain ⟨s',h1,h2⟩:=qp h
 refine Ho hd hm _ _ (List.range l.length) st s' (by simp) List.pairwise_lt_range (fun i => ?_) (fun i o ho hi => ?_) ?_ h2.2 h2.1 hwf (by simp)
 ·rw [List.mem_range]
  simp only [List.size_toArray,Array.getD_eq_getD_getElem?,Array.getElem?_replicate]
  constructor
  ·intro h;exact ⟨h,by simp [h]⟩
  ·exact fun h=>h.1
 ·exfalso
  have hlt:i<l.toArray.size:=by
   rcases Nat.lt_or_ge i l.toArray.size with h|h
   ·exact h
   ·rw [Array.getElem?_eq_none h] at ho;cases ho
  unfold gA at hi
  simp only [Array.getD_eq_getD_getElem?,Array.getElem?_replicate,if_pos hlt] at hi
  cases hi
 ·have:(List.range l.length).map (fun i=>l.toArray.getD i default)=l:=by
   apply List.ext_getElem
   ·simp
   ·intro i h1 h2;simp [h2]
  rw [this];exact h1
theorem cr {id : Nat} {l : List Oper} {y : Code} {Q : AExit → St → Prop} (kl : List (Nat × Nat)) (hd : nr S.rcv l.toArray (fun i => (Region.before l.toArray).getD i 0) kl = true) (hm : cg l.toArray (fun i => (Region.before l.toArray).getD i 0) = true)
  (hwf:dB (vh kl) st) (h:∀ K:St→Prop,(∀ s,fI kl s→cw S y Q s→K s)→aK S l.toArray l st K):cw S (.seq (.region id l.toArray true) y) Q st:=by
 refine rl ?_
 simp only [cw,if_pos]
 exact xZ hd hm hwf (h _ fun s h1 h2=>⟨h1,h2⟩)
theorem gK {id : Nat} {l : List Oper} {Q : AExit → St → Prop} (kl : List (Nat × Nat)) (hd : nr S.rcv l.toArray (fun i => (Region.before l.toArray).getD i 0) kl = true) (hm : cg l.toArray (fun i => (Region.before l.toArray).getD i 0) = true)
  (hwf:dB (vh kl) st) (h:∀ K:St→Prop,(∀ s,fI kl s→Q .normal s→K s)→aK S l.toArray l st K):cw S (.region id l.toArray true) Q st:=by
 simp only [cw,if_pos]
 exact xZ hd hm hwf (h _ fun s h1 h2=>⟨h1,h2⟩)
theorem ER {c:Operand} {x y z:Code} {t:Bool} {Q:AExit→St→Prop} (s0:St) (hc:st.ev S c = .t t) (h1:t=true→cw S x (fv (Wk fun s=>s=s0) Q) st) (h2:t=false→cw S y (fv (Wk fun s=>s=s0) Q) st) (h:cw S z Q s0):cw S (.seq (.cond c x y) z) Q st :=
 KT (fun s=>s=s0) (jS hc h1 h2) (fun s hs=>hs ▸ h)
theorem jZ {z x:Code} {id:Nat} {Q:AExit→St→Prop} (h:∀ K:St→Prop,(∀ s s',Le s s'→cw S z Q s'→K s)→cw S x (iW id (fv K Q)) st):cw S (.seq (.block id x) z) Q st:=by
 refine cC (S:=S) (.block id x) (Q:=fv (fun st=>Wk (cw S z Q) st∨cw S z Q st) Q) (fun _ _ h=>h) (xd ?_)
 exact h _ fun s s' hl hs => .inl ⟨s',hl,hs⟩
theorem Mj {c i o:Nat}:yZ c (.b (.c (.ptr i o)))=(c=1∨c=4+i):=rfl
theorem KJ {c i s k o:Nat}:yZ c (.b (.c (.pel i s k o)))=(c=2):=rfl
theorem KL {c s o:Nat} {g:Nat→PV}:yZ c (.b (.c (.ipt s g o)))=(c=3):=rfl
theorem JP {s:St}:fI [] s=True:=rfl
theorem HE {s:St} {t c:Nat} {r:List (Nat × Nat)}:fI ((t,c) :: r) s=(yZ c (s.fr t)∧fI r s):=rfl
end
attribute [go_sem] vh Mj KJ KL JP HE
end Go.SL
