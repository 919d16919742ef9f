/- Part of the proof: SlP. -/
import Derived.Test.YtdjmpacladhijaaGreatDoorM1
set_option linter.unusedSimpArgs false
set_option linter.unusedVariables false
namespace Go.SL
open Go
def Ex (S:Env) (ops:Array Oper) (st:St) (o:Oper) (s':St):Prop:=gh S ops st o fun s=>s=s'
section
variable {S:Env} {ops:Array Oper} {st st2 s':St} {ev ev2:Operand→SV} {op:Op} {o:Oper}
theorem GU {f:FuncId} {args:List BV} {K:SV→St→Prop} (h:CallP S st f args K):∃ r s',CallP S st f args (fun r0 s0=>r0=r∧s0=s')∧K r s':=by
 cases h with
 | pure args' X h ha hl hk=>exact ⟨_,_, .pure args' X h ha hl ⟨rfl,rfl⟩,hk⟩
 | lend args' X h ha hl hf hk hp=>exact ⟨_,_, .lend args' X h ha hl hf ⟨rfl,rfl⟩ hp,hk⟩
 | recv id off cs0 cs rest args' X Y h he hb hoff hcs ha hl hr hy hk=>exact ⟨_,_, .recv id off cs0 cs rest args' X Y h he hb hoff hcs ha hl hr hy ⟨rfl,rfl⟩,hk⟩
 | recvEl id sz i e n g cs rest args' X Y h he hb hi hsz hcs ha hl hr hy hk=>exact ⟨_,_, .recvEl id sz i e n g cs rest args' X Y h he hb hi hsz hcs ha hl hr hy ⟨rfl,rfl⟩,hk⟩
 | inl X bx' nx' h hr hw hk hn=>exact ⟨_,_, .inl X bx' nx' h hr hw ⟨rfl,rfl⟩ hn,hk⟩
 | own args' e sz n g h ha hl hr hk=>exact ⟨_,_, .own args' e sz n g h ha hl hr ⟨rfl,rfl⟩,hk⟩
 | ext args' X h ha hl hk=>exact ⟨_,_, .ext args' X h ha hl ⟨rfl,rfl⟩,hk⟩
theorem Ut {K:SV→St→Prop} (h:fp S st ev op K):∃ r s',fp S st ev op (fun r0 s0=>r0=r∧s0=s')∧K r s':=by
 cases op with
 | build t parts =>
  simp only [fp] at *
  grind
 | alloc t =>
  grind [fp]
 | box t x =>
  grind [fp]
 | buildSlice t len parts =>
  simp only [fp] at *
  split at h
  ·grind
  grind
 | store t p x =>
  simp only [fp] at *
  grind
 | makeSlice t l c =>
  simp only [fp] at *
  grind
 | call c =>
  simp only [fp] at *
  split at h
  ·split at h
   ·grind
   grind
  ·grind
  ·exact GU h
  ·grind [GU]
  grind
 | _=>exact h.elim
theorem Sa {K:St→Prop} (h:lO S st o K):∃ s',lO S st o (fun s=>s=s')∧K s':=by grind [lO,fp,Ut,BE]
theorem nC {K:St→Prop} (h:gh S ops st o K):∃ s',Ex S ops st o s'∧K s':=by
 unfold Ex;unfold gh at *
 split at h
 ·exact Sa h
 grind [lO,Sa]
theorem jT {K:St→Prop} (h:Ex S ops st o s') (hk:K s'):gh S ops st o K:=sB (fun s (hs:s=s')=>by grind) h
theorem rU {f : FuncId} {args : List BV} {r : SV} (h : CallP S st f args (fun r0 s0 => r0 = r ∧ s0 = s')) :
  ∃ bx' nx',s'=⟨st.fr,bx',nx',st.kf⟩∧((S.rcv f || S.rcv (f+2000000))=false→bx'=st.bx∧nx'=st.nx)∧∀ st2:St,st2.bx=st.bx→st2.nx=st.nx→CallP S st2 f args (fun r0 s0=>r0=r∧s0=⟨st2.fr,bx',nx',st2.kf⟩):=by
 cases h with
 | pure args' X h ha hl hk =>
  obtain ⟨rfl,rfl⟩:=hk;exact ⟨_,_,rfl,fun _=>⟨rfl,rfl⟩,fun st2 e1 e2 => .pure args' _ h ha hl ⟨rfl,by rw [← e1,← e2]⟩⟩
 | ext args' X h ha hl hk =>
  obtain ⟨rfl,rfl⟩:=hk;exact ⟨_,_,rfl,fun _=>⟨rfl,rfl⟩,fun st2 e1 e2 => .ext args' _ h ha hl ⟨rfl,by rw [← e1,← e2]⟩⟩
 | lend args' X h ha hl hf hk hp =>
  obtain ⟨rfl,rfl⟩:=hk;exact ⟨_,_,rfl,fun _=>⟨rfl,rfl⟩,fun st2 e1 e2 => .lend args' _ h (by grind) hl hf ⟨rfl,by rw [← e1,← e2]⟩ hp⟩
 | recv id off cs0 cs rest args' X Y h he hb hoff hcs ha hl hr hy hk =>
  obtain ⟨rfl,rfl⟩:=hk;exact ⟨_,_,rfl,fun h0=>by grind,fun st2 e1 e2 => .recv id off cs0 cs rest args' _ Y h he (by grind) hoff hcs ha hl hr hy ⟨rfl,by grind [St.setBox]⟩⟩
 | recvEl id sz i e n g cs rest args' X Y h he hb hi hsz hcs ha hl hr hy hk =>
  obtain ⟨rfl,rfl⟩:=hk;exact ⟨_,_,rfl,fun h0=>by grind,fun st2 e1 e2 => .recvEl id sz i e n g cs rest args' _ Y h he (by grind) hi hsz hcs ha hl hr hy ⟨rfl,by grind [St.setBox]⟩⟩
 | inl X bx' nx' h hr hw hk hn =>
  obtain ⟨rfl,rfl⟩:=hk;exact ⟨_,_,rfl,fun h0=>by grind,fun st2 e1 e2 => .inl _ bx' nx' (by grind) hr hw ⟨rfl,rfl⟩ (by omega)⟩
 | own args' e sz n g h ha hl hr hk =>
  obtain ⟨rfl,rfl⟩:=hk;exact ⟨_,_,rfl,fun h0=>by grind,fun st2 e1 e2 => .own args' e sz n g h (by grind) hl hr ⟨by rw [e2],by grind [St.newBox]⟩⟩
theorem OC {f:FuncId} {args:List BV} {r:SV} (hp:S.rcv (f+1000000)=true) (hn:(S.rcv f || S.rcv (f+2000000))=false) (h:CallP S st f args (fun r0 s0=>r0=r∧s0=s')) (st2:St):CallP S st2 f args (fun r0 s0=>r0=r∧s0=st2):=by
 cases h with
 | pure args' X h ha hl hk=>exact .pure args' _ h ha hl ⟨hk.1,rfl⟩
 | ext args' X h ha hl hk=>exact .ext args' _ h ha hl ⟨hk.1,rfl⟩
 | lend args' X h ha hl hf hk hq=>grind
 | recv id off cs0 cs rest args' X Y h he hb hoff hcs ha hl hr hy hk=>grind
 | recvEl id sz i e n g cs rest args' X Y h he hb hi hsz hcs ha hl hr hy hk=>grind
 | inl X bx' nx' h hr hw hk hn2=>grind
 | own args' e sz n g h ha hl hr hk=>grind
theorem oA {pl:Nat→Option (Nat × Nat)}:∀ {ps:List (Nat × Operand)} {cs:List CV},(∀ p ∈ ps,ev p.2=ev2 p.2)→kR pl ev ps cs=kR pl ev2 ps cs
 | [],_,_=>rfl
 | p :: ps,cs,h=>by
  obtain ⟨i,x⟩:=p;have h1:=h (i,x) (List.mem_cons_self ..);simp only at h1;simp only [kR,h1];split
  ·rw [oA fun p hp=>h p (List.mem_cons_of_mem _ hp)]
  ·rfl
theorem Db {r : SV} (h : fp S st ev op (fun r0 s0 => r0 = r ∧ s0 = s')) (he : ∀ x ∈ op.operands.toList, ev x = ev2 x) :
  ∃ bx' nx',s'=⟨st.fr,bx',nx',st.kf⟩∧∀ st2:St,st2.bx=st.bx→st2.nx=st.nx→fp S st2 ev2 op (fun r0 s0=>r0=r∧s0=⟨st2.fr,bx',nx',st2.kf⟩):=by
 cases op with
 | build t parts =>
  have hf:∀ {pl cs},kR pl ev parts.toList cs=kR pl ev2 parts.toList cs:=fun {pl cs}=>oA fun p hp=>he p.2 (by grind [Op.operands]);simp only [fp,hf] at *
  split at h
  ·split at h
   ·obtain ⟨h1,rfl,rfl⟩:=h;exact ⟨_,_,rfl,fun st2 e1 e2=>⟨h1,rfl,by rw [← e1,← e2]⟩⟩
   grind
  grind
 | alloc t =>
  simp only [fp] at *
  grind [St.newBox]
 | box t x =>
  simp only [fp,he x (by simp [Op.operands])] at *
  split at h
  ·grind [St.newBox]
  grind
 | buildSlice t len parts =>
  have hf:∀ {pl cs},kR pl ev parts.toList cs=kR pl ev2 parts.toList cs:=fun {pl cs}=>oA fun p hp=>he p.2 (by grind [Op.operands]);simp only [fp,hf] at *
  split at h
  ·split at h
   ·grind [St.newBox]
   grind
  grind
 | store t p x =>
  simp only [fp,he p (by simp [Op.operands]),he x (by simp [Op.operands])] at *
  split at h
  ·rename_i hb0;split at h
   ·grind [St.setBox]
   grind
  ·grind [St.setBox]
  grind
 | makeSlice t l c =>
  simp only [fp,he l (by simp [Op.operands]),he c (by simp [Op.operands])] at *
  split at h
  ·grind [St.newBoxO]
  grind
 | call c =>
  obtain ⟨cal,⟨al⟩,⟨tl⟩⟩:=c;unfold fp at h;simp only at h;split at h
  ·rename_i x y t t';have h1:=he x (by simp [Op.operands,Call.operands]);have h2:=he y (by simp [Op.operands,Call.operands]);rw [h1,h2] at h;unfold fp;simp only;split at h
   ·rename_i hel hsrc;split at h
    ·grind [St.newBox]
    ·rename_i hi hz hx;split at h
     ·rename_i hb;obtain ⟨hh,rfl,rfl⟩:=h
      exact ⟨_,_,rfl,fun st2 q1 q2=>by
       simp only [q1,q2,hel,hsrc,hi,hz,hx,hb]
       exact ⟨hh,trivial,by simp_all [St.newBox,St.delBox]⟩⟩
     grind
    grind
   grind
  ·rename_i x y t t';have h1:=he x (by simp [Op.operands,Call.operands]);have h2:=he y (by simp [Op.operands,Call.operands]);rw [h1,h2] at h;unfold fp;simp only;split at h
   ·grind [St.setBox]
   grind
  ·have hl:al.map (fun x=>fS (ev x))=al.map (fun x=>fS (ev2 x)):=List.map_congr_left fun x hx=>by rw [he x (by simp [Op.operands,Call.operands,hx])]
   rw [hl] at h;obtain ⟨bx',nx',e,_,hp⟩:=rU h;grind [fp]
  ·rename_i t;have hl:al.map (fun x=>fS (ev x))=al.map (fun x=>fS (ev2 x)):=List.map_congr_left fun x hx=>by rw [he x (by simp [Op.operands,Call.operands,hx])]
   have ht:=he (.tmp t) (by simp [Op.operands,Call.operands]);split at h
   ·rename_i f ps hx;rw [hl] at h;obtain ⟨bx',nx',e,_,hp⟩:=rU h;grind [fp]
   grind
  grind
 | _=>exact h.elim
theorem kL {bx:Nat→Option Bx} (he:∀ x ∈ op.operands.toList,ev x=ev2 x):ro S bx ev op=ro S bx ev2 op:=by
 have hc:bc (op.operands.toList.map ev)=bc (op.operands.toList.map ev2):=by rw [List.map_congr_left he]
 have hcore:bK S bx ev op=bK S bx ev2 op:=by
  cases op with
  | slice t x lo hi m =>
   cases m with
   | none =>
    have h1:=he x (by simp [Op.operands]);cases lo with
    | none=>cases hi with
     | none=>simp_all [bK]
     | some b=>simp_all [Op.operands,bK]
    | some a =>
     have h2:=he a (by simp [Op.operands]);cases hi with
     | none=>simp_all [bK]
     | some b=>simp_all [Op.operands,bK]
   | some _=>rfl
  | call c =>
   obtain ⟨cal,⟨al⟩,⟨tl⟩⟩:=c;unfold bK;simp only;split
   ·rename_i x _;rw [he x (by simp [Op.operands,Call.operands])]
   ·rename_i x y;rw [he x (by simp [Op.operands,Call.operands]),he y (by simp [Op.operands,Call.operands])]
   ·rename_i x y;rw [he x (by simp [Op.operands,Call.operands]),he y (by simp [Op.operands,Call.operands])]
   ·rfl
  | makeFunc fn first cap =>
   have hl:cap.toList.map (fun x=>(ev x).strip)=cap.toList.map (fun x=>(ev2 x).strip):=List.map_congr_left fun x hx=>by grind [Op.operands]
   simp only [bK,hl]
  | load t x=>simp only [bK,he x (by simp [Op.operands])]
  | fieldAddr t x f=>simp only [bK,he x (by simp [Op.operands])]
  | field t x f=>simp only [bK,he x (by simp [Op.operands])]
  | indexAddr t x y=>simp only [bK,he x (by simp [Op.operands]),he y (by simp [Op.operands])]
  | index t x y=>simp only [bK,he x (by simp [Op.operands]),he y (by simp [Op.operands])]
  | extract x _=>simp only [bK,he x (by simp [Op.operands])]
  | binOp _ _ x y _=>simp only [bK,he x (by simp [Op.operands]),he y (by simp [Op.operands])]
  | unOp _ _ x=>simp only [bK,he x (by simp [Op.operands])]
  | convert _ _ x=>simp only [bK,he x (by simp [Op.operands])]
  | nilCheck x=>simp only [bK,he x (by simp [Op.operands])]
  | _=>rfl
 unfold ro;grind [Op.operands]
def fM (rcv:Nat→Bool):Op→Nat
 | .move _ | .assign _ | .pick .. | .fieldAddr .. | .field .. | .indexAddr .. | .index .. | .extract .. | .binOp .. | .unOp .. | .convert .. | .slice .. | .nilCheck _ | .build .. | .makeFunc .. => 0
 | .load .. => 1
 | .call c=>match c.callee with
  | .builtin .len | .builtin .min | .builtin .max=>0
  | .value (.func f)=>if rcv f || rcv (f+2000000) then 2 else if rcv (f+1000000) then 0 else 1
  | _=>2
 | _=>2
def qp (rcv:Nat→Bool) (o:Oper):Nat:=if o.guard.isSome then max 1 (fM rcv o.op) else fM rcv o.op
def cc (ops:Array Oper) (o:Oper):List Nat :=
 (o.op.operands.toList.filterMap fun | .tmp t=>some t|_=>none) ++ (match o.guard with|some (j,_)=>((ops[j]?).bind (·.dst)).toList|none=>[])
theorem fD {st st2:St} (h:∀ t ∈ cc ops o,st.fr t=st2.fr t):∀ x ∈ o.op.operands.toList,st.ev S x=st2.ev S x:=fun x hx=>by
 cases x with
 | tmp t=>exact h t (List.mem_append_left _ (List.mem_filterMap.2 ⟨_,hx,rfl⟩))
 | _=>rfl
theorem a0J {bx bx2:Nat→Option Bx} (h:fM S.rcv op=0):ro S bx ev op=ro S bx2 ev op:=by
 cases op with
 | load=>grind [fM]
 | slice t x lo hi m=>cases m <;> rfl
 | _=>rfl
theorem dO (st:St) (d:Option Nat) (v:SV):st.set d v=⟨fun s=>if some s=d then v else st.fr s,st.bx,st.nx,st.kf⟩:=by
 cases d with
 | none=>simp [St.set]
 | some d=>simp only [St.set,Option.some.injEq]
theorem AW {d : Option Nat} (hd : o.dst = d) (h : lO S st o (fun s => s = s')) :
  ∃ v bx' nx',s'=St.set ⟨st.fr,bx',nx',st.kf⟩ d v∧(fM S.rcv o.op≤1→bx'=st.bx∧nx'=st.nx) ∧
   (∀ st2:St,(∀ t ∈ cc ops o,st.fr t=st2.fr t)→st2.bx=st.bx→st2.nx=st.nx→lO S st2 o (fun s=>s=St.set ⟨st2.fr,bx',nx',st2.kf⟩ d v)) ∧
   (fM S.rcv o.op=0→∀ st2:St,(∀ t ∈ cc ops o,st.fr t=st2.fr t)→lO S st2 o (fun s=>s=St.set st2 d v)):=by
 subst hd;unfold lO at h;split at h
 ·rename_i vc r hro;obtain ⟨hv,rfl⟩:=h;refine ⟨r,st.bx,st.nx,rfl,fun _=>⟨rfl,rfl⟩,fun st2 hn e1 e2 => ?_,fun h0 st2 hn => ?_⟩
  ·unfold lO;rw [e1,← kL (fD hn),hro];exact ⟨hv,by rw [← e1,← e2]⟩
  ·unfold lO;rw [← kL (fD hn),a0J (bx2:=st.bx) h0,hro];grind
 ·rename_i hro;obtain ⟨hc,hM⟩:=h;obtain ⟨r,s0,hM1,rfl⟩:=Ut hM;obtain ⟨bx',nx',rfl, -⟩:=Db hM1 (ev2:=st.ev S) fun _ _=>rfl;have hcond:∀ st2:St,(∀ t ∈ cc ops o,st.fr t=st2.fr t)→bc (o.op.operands.toList.map (st2.ev S)):=fun st2 hn=>by rw [← List.map_congr_left (fD (S:=S) hn)];exact hc
  have hcls:fM S.rcv o.op≤1→bx'=st.bx∧nx'=st.nx:=fun hle=>by
   revert hM1 hle
   generalize o.op=op;intro hM1 hle;cases op with
   | call c =>
    obtain ⟨cal,⟨al⟩,⟨tl⟩⟩:=c;unfold fp at hM1;simp only at hM1;split at hM1
    ·grind [fM]
    ·grind [fM]
    ·obtain ⟨b,n,e,hr,_⟩:=rU hM1;simp only [St.mk.injEq,true_and,and_true] at e;obtain ⟨rfl,rfl⟩:=e;refine hr ?_;simp only [fM] at hle;grind
    ·grind [fM]
    grind
   | build t parts =>
    simp only [fp] at hM1;grind
   | alloc=>grind [fM]
   | box=>grind [fM]
   | buildSlice=>grind [fM]
   | store=>grind [fM]
   | makeSlice=>grind [fM]
   | _=>exact hM1.elim
  refine ⟨r,bx',nx',rfl,hcls,fun st2 hn e1 e2 => ?_,fun h0 st2 hn => ?_⟩
  ·unfold lO;rw [e1,← kL (fD hn),hro];refine ⟨hcond st2 hn, ?_⟩;obtain ⟨b,n,e,hp⟩:=Db hM1 (ev2:=st2.ev S) (fD hn);grind [fp,St.mk.injEq,BE]
  ·unfold lO;rw [← kL (fD hn),a0J (bx2:=st.bx) h0,hro];refine ⟨hcond st2 hn, ?_⟩
   revert hM1 h0 hn
   generalize hoo:o.op=op;intro hM1 h0 hn;cases op with
   | build t parts =>
    have hev:=fD (S:=S) hn;grind [kR,oA,Op.operands,fp]
   | call c =>
    obtain ⟨cal,⟨al⟩,⟨tl⟩⟩:=c;unfold fp at hM1;simp only at hM1;split at hM1
    ·grind [fM]
    ·grind [fM]
    ·simp only [fM] at h0;split at h0
     ·simp at h0
     ·split at h0
      ·rename_i hne hpp;have hev:=fD (S:=S) hn;rw [hoo] at hev;unfold fp;simp only;have hh:=OC hpp (by grind) hM1 st2;rw [List.map_congr_left (g:=fun x=>fS (st2.ev S x)) (fun x hx=>by rw [hev x (by simp [Op.operands,Call.operands,hx])])] at hh;grind [CallP.mono]
      omega
    ·grind [fM]
    grind
   | alloc=>grind [fM]
   | box=>grind [fM]
   | buildSlice=>grind [fM]
   | store=>grind [fM]
   | makeSlice=>grind [fM]
   | _=>exact hM1.elim
theorem fF (h : Ex S ops st o s') :
  ∃ v bx' nx',s'=St.set ⟨st.fr,bx',nx',st.kf⟩ o.dst v∧(qp S.rcv o≤1→bx'=st.bx∧nx'=st.nx) ∧
   (∀ st2:St,(∀ t ∈ cc ops o,st.fr t=st2.fr t)→st2.bx=st.bx→st2.nx=st.nx→Ex S ops st2 o (St.set ⟨st2.fr,bx',nx',st2.kf⟩ o.dst v)) ∧
   (qp S.rcv o=0→∀ st2:St,(∀ t ∈ cc ops o,st.fr t=st2.fr t)→Ex S ops st2 o (St.set st2 o.dst v)):=by
 unfold Ex gh at h;cases hg:o.guard with
 | none =>
  rw [hg] at h;obtain ⟨v,bx',nx',h1,h2,h3,h4⟩:=AW (ops:=ops) rfl h;have hcl:qp S.rcv o=fM S.rcv o.op:=by simp [qp,hg]
  refine ⟨v,bx',nx',h1,by rwa [hcl],fun st2 a b c => ?_,fun h0 st2 a => ?_⟩
  ·grind [Ex,gh]
  grind [Ex,gh]
 | some p =>
  obtain ⟨j,want⟩:=p;rw [hg] at h;simp only at h;have hcl:¬ qp S.rcv o=0:=by simp [qp,hg];try omega
  have hcl1:qp S.rcv o≤1→fM S.rcv o.op≤1:=by simp [qp,hg];try omega
  have hgv:∀ st2:St,(∀ t ∈ cc ops o,st.fr t=st2.fr t)→mz st ((ops[j]?).bind (·.dst)) want=mz st2 ((ops[j]?).bind (·.dst)) want:=fun st2 hn=>by
   unfold mz;split
   ·rename_i d hd;rw [hn d (List.mem_append_right _ (by grind))]
   ·rfl
  split at h
  ·rename_i g hgg;split at h
   ·rename_i vc r hro;obtain ⟨h1,h2,rfl⟩:=h;refine ⟨_,st.bx,st.nx,rfl,fun _=>⟨rfl,rfl⟩,fun st2 hn e1 e2 => ?_,fun h0=>absurd h0 hcl⟩;unfold Ex gh;rw [hg];simp only;rw [← hgv st2 hn,hgg,e1,← kL (fD hn),hro];exact ⟨by grind,h2,by rw [← e1,← e2]⟩
   ·rename_i vc p r hro;obtain ⟨h1,h2,rfl⟩:=h;refine ⟨_,st.bx,st.nx,rfl,fun _=>⟨rfl,rfl⟩,fun st2 hn e1 e2 => ?_,fun h0=>absurd h0 hcl⟩;unfold Ex gh;rw [hg];simp only;rw [← hgv st2 hn,hgg,e1,← kL (fD hn),hro];exact ⟨by grind,h2,by rw [← e1,← e2]⟩
   ·rename_i hne hne2;rcases h with h|⟨x,hlx,h1,rfl⟩
    ·cases g with
     | true =>
      obtain ⟨v,bx',nx',h1,h2,h3,h4⟩:=AW (ops:=ops) rfl (h.1 rfl);refine ⟨v,bx',nx',h1,fun hc=>h2 (hcl1 hc),fun st2 hn e1 e2 => ?_,fun h0=>absurd h0 hcl⟩;unfold Ex gh;rw [hg];simp only;rw [← hgv st2 hn,hgg,e1,← kL (fD hn)];grind
     | false =>
      have h1:=h.2 rfl;subst h1;refine ⟨_,st.bx,st.nx,rfl,fun _=>⟨rfl,rfl⟩,fun st2 hn e1 e2 => ?_,fun h0=>absurd h0 hcl⟩;unfold Ex gh;rw [hg];simp only;rw [← hgv st2 hn,hgg,e1,← kL (fD hn)];split
      ·rename_i g' q;cases q;split
       ·grind
       ·grind
       ·exact .inl ⟨fun q=>by (cases q),fun _=>by rw [← e1,← e2]⟩
      grind
    ·refine ⟨_,st.bx,st.nx,rfl,fun _=>⟨rfl,rfl⟩,fun st2 hn e1 e2 => ?_,fun h0=>absurd h0 hcl⟩;unfold Ex gh;rw [hg];simp only;rw [← hgv st2 hn,hgg,e1,← kL (fD hn)];split
     ·rename_i g' q;cases q;split
      ·grind
      ·grind
      ·refine .inr ⟨x,by grind,fun ht => ?_,by rw [← e1,← e2]⟩;obtain ⟨v,bx',nx',p1,p2,p3,p4⟩:=AW (ops:=ops) rfl (h1 ht);have:=p3 st2 hn e1 e2;rw [dO,dO] at p1;simp only [St.mk.injEq,and_true] at p1;obtain ⟨r1,rfl,rfl⟩:=p1;have e:St.set st2 o.dst (.b x)=St.set ⟨st2.fr,st.bx,st.nx,st2.kf⟩ o.dst v:=by
        rw [dO,dO,e1,e2];simp only [St.mk.injEq,and_true];funext s;by_cases hs:some s=o.dst
        ·have:=congrFun r1 s;grind
        ·grind
       grind
     grind
  grind
def yv (rcv:Nat→Bool) (ops:Array Oper) (x y:Oper):Bool :=
 (match x.dst with|some d => !(cc ops y).contains d|none=>true) && (match y.dst with|some d => !(cc ops x).contains d|none=>true) &&
 (match x.dst,y.dst with|some d,some e=>d != e|_,_=>true) &&
 ((Nat.ble (qp rcv x) 1 && Nat.ble (qp rcv y) 1) || Nat.beq (qp rcv x) 0 || Nat.beq (qp rcv y) 0)
theorem iG {fr kf:Nat→SV} {bx bx':Nat→Option Bx} {nx nx':Nat} {d:Option Nat} {v:SV} {l:List Nat} (h:(match d with|some d => !l.contains d|none=>true)=true):∀ t ∈ l,(St.set ⟨fr,bx,nx,kf⟩ d v).fr t=fr t:=fun t ht=>by grind [dO]
theorem zm {x y:Oper} {s1 s2:St} (hi:yv S.rcv ops x y=true) (h1:Ex S ops st x s1) (h2:Ex S ops s1 y s2):∃ s3,Ex S ops st y s3∧Ex S ops s3 x s2:=by
 simp only [yv,Bool.and_eq_true,Bool.or_eq_true,Nat.ble_eq,Nat.beq_eq] at hi;obtain ⟨⟨⟨hxy,hyx⟩,hdd⟩,hc⟩:=hi;obtain ⟨v1,b1,n1,rfl,k1,p1,z1⟩:=fF h1;obtain ⟨v2,b2,n2,rfl,k2,p2,z2⟩:=fF h2;have ag1:∀ t ∈ cc ops y,(St.set ⟨st.fr,b1,n1,st.kf⟩ x.dst v1).fr t=st.fr t:=iG (nx':=0) (bx':=st.bx) hxy;have comm:∀ b n,St.set ⟨(St.set ⟨st.fr,b1,n1,st.kf⟩ x.dst v1).fr,b,n,st.kf⟩ y.dst v2=St.set ⟨(St.set ⟨st.fr,b1,n1,st.kf⟩ y.dst v2).fr,b,n,st.kf⟩ x.dst v1:=fun b n=>by
  simp only [dO,St.mk.injEq,and_true];grind
 have nn:∀ b n,(∀ t ∈ cc ops x,st.fr t=(St.set ⟨st.fr,b,n,st.kf⟩ y.dst v2).fr t):=fun b n t ht=>(iG (nx':=0) (bx':=st.bx) hyx t ht).symm;have sb:∀ fr b n kf d v,(St.set ⟨fr,b,n,kf⟩ d v).bx=b:=fun fr b n kf d v=>by rw [dO]
 have sk:∀ fr b n kf d v,(St.set ⟨fr,b,n,kf⟩ d v).kf=kf:=fun fr b n kf d v=>by rw [dO]
 have sn:∀ fr b n kf d v,(St.set ⟨fr,b,n,kf⟩ d v).nx=n:=fun fr b n kf d v=>by rw [dO]
 have sf:∀ fr b n kf b' n' kf' d v,(St.set ⟨fr,b,n,kf⟩ d v).fr=(St.set ⟨fr,b',n',kf'⟩ d v).fr:=fun fr b n kf b' n' kf' d v=>by grind [dO]
 rcases hc with (hc|hc)|hc
 ·grind
 ·obtain ⟨rfl,rfl⟩:=k1 (by omega);refine ⟨_,p2 st ag1 (by rw [sb]) (by rw [sn]), ?_⟩;have:=z1 hc (St.set ⟨st.fr,b2,n2,st.kf⟩ y.dst v2) (nn _ _);grind [dO]
 ·have:=z2 hc st ag1;obtain ⟨q1,q2⟩:=k2 (by omega);rw [sb] at q1;rw [sn] at q2;subst q1;subst q2;refine ⟨_,this, ?_⟩;have:=p1 (St.set st y.dst v2) (nn st.bx st.nx) (sb st.fr _ _ _ _ _) (sn st.fr _ _ _ _ _);grind [Ex,St.set]
def LW (S:Env) (ops:Array Oper):List Oper→St→St→Prop
 | [],st,s'=>st=s'
 | o :: r,st,s'=>∃ s,Ex S ops st o s∧LW S ops r s s'
theorem Bu {K:St→Prop}:∀ {l:List Oper} {st:St},bj S ops l st K→∃ s',LW S ops l st s'∧K s'
 | [],st,h=>⟨st,rfl,h⟩
 | o :: r,st,h=>by
  obtain ⟨s,h1,h2⟩:=nC h;obtain ⟨s',h3,h4⟩:=Bu h2;grind [LW,Ex]
theorem DG {o:Oper} {l2:List Oper}:∀ {l1:List Oper} {st s':St},(∀ x ∈ l1,yv S.rcv ops x o=true)→LW S ops (l1 ++ o :: l2) st s'→∃ s,Ex S ops st o s∧LW S ops (l1 ++ l2) s s'
 | [],st,s',_,h=>h
 | x :: l1,st,s',hi,⟨s,h1,h2⟩=>by
  obtain ⟨s2,h3,h4⟩:=DG (fun y hy=>hi y (List.mem_cons_of_mem _ hy)) h2;obtain ⟨s3,h5,h6⟩:=zm (hi x (List.mem_cons_self ..)) h1 h3;grind [Ex,LW]
def BH (rcv:Nat→Bool) (ops:Array Oper) (m:Nat→Nat):Bool :=
 (List.range ops.size).all fun i=>match ops[i]? with
  | none=>false
  | some o=>(o.after.all fun e => !Region.binds .any e || Nat.blt e.on i) &&
   (List.range i).all fun j=>match ops[j]? with
    | none=>false
    | some x=>(yv rcv ops x o && true) || ((m i).testBit j)
def dc (ops:Array Oper) (m:Nat→Nat):Bool :=
 (List.range ops.size).all fun i=>match ops[i]? with
  | none=>false
  | some o=>(List.range i).all fun j => !((m i).testBit j) || o.after.any fun e=>Region.binds .any e && (Nat.beq e.on j || ((m e.on).testBit j && Nat.blt j e.on))
def mw (listed:Array Bool) (i:Nat):Prop:=listed.getD i true=true
def iv (ops:Array Oper) (listed:Array Bool):Prop:=∀ i o,ops[i]?=some o→mw listed i→∀ e ∈ o.after,Region.binds .any e=true→mw listed e.on
theorem de {listed:Array Bool} {i:Nat} (hs:listed.size=ops.size):i ∈ Region.ready .any ops listed↔∃ o,ops[i]?=some o∧listed.getD i true=false∧∀ e ∈ o.after,Region.binds .any e=true→listed.getD e.on false=true:=by
 unfold Region.ready;rw [List.mem_filter,List.mem_range];constructor
 ·rintro ⟨h1,h2⟩;simp only [Bool.and_eq_true,Bool.not_eq_true'] at h2;rw [Array.getElem?_eq_getElem h1] at h2;refine ⟨_,Array.getElem?_eq_getElem h1,h2.1,fun e he hb => ?_⟩;have:=h2.2;simp only [Option.map_some,Option.getD_some,Array.all_eq_true] at this;obtain ⟨k,hk,rfl⟩:=Array.mem_iff_getElem.1 he;grind
 grind
theorem Bm {m : Nat → Nat} {listed : Array Bool} (hm : dc ops m = true) (hcl : iv ops listed) (hed : ∀ i o, ops[i]? = some o → ∀ e ∈ o.after, Region.binds .any e = true → e.on < i) (hsz : ∀ k, mw listed k → k < ops.size → True) :
  ∀ (n i:Nat),i<n→mw listed i→i<ops.size→∀ j,j<i→(m i).testBit j=true→mw listed j:=by
 intro n
 induction n with
 | zero=>omega
 | succ n ih =>
  intro i hn hi hlt j hj hb;have ho:=Array.getElem?_eq_getElem hlt;have:=List.all_eq_true.1 hm i (List.mem_range.2 hlt);rw [ho] at this;have:=List.all_eq_true.1 this j (List.mem_range.2 hj);simp only [hb,Bool.not_true,Bool.false_or] at this;obtain ⟨k,hk,hh⟩:=Array.any_eq_true.1 this;simp only [Bool.and_eq_true,Bool.or_eq_true,Nat.beq_eq] at hh;obtain ⟨hbind,hh⟩:=hh;have hmem:ops[i].after[k] ∈ ops[i].after:=Array.getElem_mem hk;have hin:=hcl i _ ho hi _ hmem hbind;have hle:=hed i _ ho _ hmem hbind;rcases hh with hh|hh
  ·grind
  ·exact ih _ (by omega) hin (by omega) j (by simp_all) hh.1
theorem a3m {m : Nat → Nat} (hd : BH S.rcv ops m = true) (hm : dc ops m = true) {K : St → Prop} : ∀ (fuel : Nat) (listed : Array Bool) (rest : List Nat) (st s' : St),
  listed.size=ops.size→rest.Pairwise (· < ·)→(∀ i,i ∈ rest↔i<ops.size∧listed.getD i true=false)→iv ops listed→LW S ops (rest.map fun i=>ops.getD i default) st s'→K s'→rest.length≤fuel →
  iY S ops fuel listed st K:=by
 have hed:∀ i o,ops[i]?=some o→∀ e ∈ o.after,Region.binds .any e=true→e.on<i:=fun i o ho e he hb=>by
  have hlt:i<ops.size:=by
   rcases Nat.lt_or_ge i ops.size with h|h
   ·exact h
   ·grind
  have:=List.all_eq_true.1 hd i (List.mem_range.2 hlt);rw [ho] at this;simp only [Bool.and_eq_true] at this;have:=this.1;obtain ⟨k,hk,rfl⟩:=Array.mem_iff_getElem.1 he;have:=(Array.all_eq_true.1 this) k hk;simp_all
 have noready:∀ (listed:Array Bool) (rest:List Nat),listed.size=ops.size→rest.Pairwise (· < ·)→(∀ i,i ∈ rest↔i<ops.size∧listed.getD i true=false)→Region.ready .any ops listed=[]→rest=[]:=by
  intro listed rest hs hp hr hno;cases rest with
  | nil=>rfl
  | cons i r =>
   exfalso;obtain ⟨hlt,hl⟩:=(hr i).1 (List.mem_cons_self ..)
   have:i ∈ Region.ready .any ops listed:=(de hs).2 ⟨_,Array.getElem?_eq_getElem hlt,hl,fun e he hb=>by
    have hle:=hed i _ (Array.getElem?_eq_getElem hlt) e he hb;cases hq:listed.getD e.on false with
    | true=>rfl
    | false =>
     exfalso;have hq':listed.getD e.on true=false:=by
      have hl2:e.on<listed.size:=by omega
      rw [Array.getD,dif_pos hl2] at hq ⊢;exact hq
     have hmem:=(hr e.on).2 ⟨by omega,hq'⟩;rcases List.mem_cons.1 hmem with h|h
     ·omega
     ·have:=(List.pairwise_cons.1 hp).1 _ h;omega⟩
   grind
 intro fuel
 induction fuel with
 | zero =>
  intro listed rest st s' hs hp hr hcl hx hk hlen;have hnil:rest=[]:=List.eq_nil_of_length_eq_zero (by omega);subst hnil;have hst:st=s':=hx;subst hst;refine ⟨?_,hk⟩;rw [List.eq_nil_iff_forall_not_mem];grind [de]
 | succ fuel ih =>
  intro listed rest st s' hs hp hr hcl hx hk hlen;refine ⟨fun hno => ?_,fun i hi => ?_⟩
  ·grind [LW]
  ·obtain ⟨o,ho,hl,hdep⟩:=(de hs).1 hi;have hlt:i<ops.size:=by
    rcases Nat.lt_or_ge i ops.size with h|h
    ·exact h
    ·grind
   have hmem:=(hr i).2 ⟨hlt,hl⟩;rw [ho];obtain ⟨l1,l2,rfl⟩:=List.append_of_mem hmem;have hpw:=List.pairwise_append.1 hp;have hoi:ops.getD i default=o:=by rw [Array.getD_eq_getD_getElem?,ho];rfl
   rw [List.map_append,List.map_cons,hoi] at hx;have hdep':∀ e ∈ o.after,Region.binds .any e=true→mw listed e.on:=fun e he hb=>by grind [mw]
   have hind:∀ x ∈ l1.map (fun i=>ops.getD i default),yv S.rcv ops x o=true:=fun x hxm=>by
    obtain ⟨j,hj,rfl⟩:=List.mem_map.1 hxm;have hji:j<i:=hpw.2.2 j hj i (List.mem_cons_self ..);obtain ⟨hjlt,hjl⟩:=(hr j).1 (List.mem_append_left _ hj);have h1:=List.all_eq_true.1 hd i (List.mem_range.2 hlt);rw [ho] at h1;simp only [Bool.and_eq_true] at h1;have h2:=List.all_eq_true.1 h1.2 j (List.mem_range.2 hji);rw [Array.getElem?_eq_getElem hjlt] at h2;simp only [Bool.or_eq_true,Bool.and_true] at h2;rcases h2 with h2|h2
    ·simp_all
    ·exfalso;have h3:=List.all_eq_true.1 hm i (List.mem_range.2 hlt);rw [ho] at h3;have h4:=List.all_eq_true.1 h3 j (List.mem_range.2 hji);simp only [h2,Bool.not_true,Bool.false_or] at h4;obtain ⟨k,hk',hh⟩:=Array.any_eq_true.1 h4;simp only [Bool.and_eq_true,Bool.or_eq_true,Nat.beq_eq] at hh;have hin:=hdep' _ (Array.getElem_mem hk') hh.1;have hle:=hed i o ho _ (Array.getElem_mem hk') hh.1;have:mw listed j:=by
      rcases hh.2 with q|q
      ·grind
      ·exact Bm hm hcl hed (fun _ _ _=>trivial) (i+1) _ (by omega) hin (by omega) j (by have:=q.2;simp [Nat.blt] at this;omega) q.1
     unfold mw at this;grind
   obtain ⟨s1,h1,h2⟩:=DG hind hx;refine jT h1 ?_;have hget:∀ k b,(listed.setIfInBounds i true).getD k b=if k=i then true else listed.getD k b:=fun k b=>by
    simp only [Array.getD_eq_getD_getElem?,Array.getElem?_setIfInBounds];grind
   refine ih _ (l1 ++ l2) s1 s' (by grind) ?_ (fun k => ?_) (fun k x hx' hin e he hb => ?_) (by grind) hk (by grind)
   ·grind
   ·have hk:=hr k;rw [hget];by_cases hki:k=i
    ·subst hki;simp only [if_true];constructor
     ·intro hmm;exfalso;rcases List.mem_append.1 hmm with q|q
      ·grind
      ·have:=(List.pairwise_cons.1 hpw.2.1).1 k q;omega
     grind
    grind
   ·unfold mw at hin ⊢;rw [hget] at hin ⊢;by_cases hek:e.on=i
    ·grind
    ·rw [if_neg hek];by_cases hki:k=i
     ·grind
     ·rw [if_neg hki] at hin;exact hcl k x hx' hin e he hb
theorem VS {l:List Oper} {m:Nat→Nat} (hd:BH S.rcv l.toArray m=true) (hm:dc l.toArray m=true) {K:St→Prop} (h:bj S l.toArray l st K):iY S l.toArray l.toArray.size (Array.replicate l.toArray.size false) st K:=by
 obtain ⟨s',h1,h2⟩:=Bu h;refine a3m hd hm _ _ (List.range l.length) st s' (by simp) List.pairwise_lt_range (fun i => ?_) (fun i o ho hi => ?_) ?_ h2 (by simp)
 ·simp_all
 ·exfalso;have hlt:i<l.toArray.size:=by
   rcases Nat.lt_or_ge i l.toArray.size with h|h
   ·exact h
   ·grind
  unfold mw at hi;simp_all
 ·have:(List.range l.length).map (fun i=>l.toArray.getD i default)=l:=by
   apply List.ext_getElem
   ·simp
   ·simp_all
  grind
theorem MS {id:Nat} {l:List Oper} {Q:AExit→St→Prop} (hd:BH S.rcv l.toArray (fun i=>(Region.before l.toArray).getD i 0)=true) (hm:dc l.toArray (fun i=>(Region.before l.toArray).getD i 0)=true) (h:bj S l.toArray l st (Q .normal)):cw S (.region id l.toArray true) Q st:=by grind [cw,iY,VS]
end
end Go.SL
