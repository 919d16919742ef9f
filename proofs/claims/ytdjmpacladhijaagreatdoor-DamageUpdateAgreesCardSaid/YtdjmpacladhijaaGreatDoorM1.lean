/- Part of the proof: SlJ, SlK, SlL, SlM. -/
import Derived.Test.YtdjmpacladhijaaGreatDoorM0
set_option linter.unusedSimpArgs false
namespace Go.SL
open Go
section
section
variable {S:Env} {E:Ent} {st:St} {ρ:iN} {a:Act} {w:World}
theorem iZ {ρ : iN} {ok : Nat → Prop} {w : World} : ∀ {l l' : List BV}, ju l l' → l.length = l'.length ∧
  ∀ {u:Nat→Value},(∀ j,j<l.length→di ρ ok w (l.getD j .any) (u j))→∀ j,di ρ ok w (l'.getD j .any) (u j)
 | [],[],_=>⟨rfl,fun _ j=>by simp [di,cR,bq]⟩
 | x :: l,y :: l',⟨h1,h2⟩=>by
  obtain ⟨q1,q2⟩:=iZ (ρ:=ρ) (ok:=ok) (w:=w) h2;refine ⟨by simp [q1],fun {u} hu j => ?_⟩;cases j with
  | zero=>exact h1 _ _ _ _ (hu 0 (by simp))
  | succ j=>exact q2 (u:=fun k=>u (k+1)) (fun k hk=>hu (k+1) (by grind)) j
theorem KQ {x:SV} {u:Value} {ok:Nat→Prop} (h:bB ρ ok w x u) (hc:x.cond):di ρ ok w (fS x) u:=by
 cases x with
 | b x=>exact h
 | grd p x=>exact h.1 hc
 | tup vs=>trivial
 | any=>trivial
theorem gO {x:BV} {u:Value} {ok:Nat→Prop} (hl:x.lt 0) (h:di ρ ok w x u):di dd ok w x u :=
 di.mono (fun _ hb=>⟨hb,fun _=>rfl⟩) (fun id h=>absurd h (Nat.not_lt_zero id)) hl h
theorem uV {x:SV} {u:Value} {ok ok':Nat→Prop} (hl:SV.lt 0 x) (hk:∀ b,ok b→ok' b) (h:bB dd ok w x u):bB ρ ok' w x u :=
 bB.mono (fun b hb=>⟨hk b hb,fun _=>rfl⟩) (fun id h=>absurd h (Nat.not_lt_zero id)) hl h
theorem SV.lt_zero {x:SV} (h:SV.lt 0 x) (n:Nat):x.lt n:=SV.lt_mono (Nat.zero_le _) h
theorem Gp {w':World} (g:Gam S E st ρ a w) (b:Nat) (h:RK (cd E st.bx ρ w) w w' b):cd E st.bx ρ w' b:=by
 obtain ⟨h1,h2⟩:=h;refine ⟨h1,fun h3=>(h2 (Nat.lt_of_lt_of_le h3 g.frm.size)).2.1 h3,fun id hid hb => ?_⟩;cases hx:st.bx id with
 | none=>grind
 | some x=>exact (h2 (g.new id x b hx hb).1).2.2 id hid hb
theorem Gam.glOk (g:Gam S E st ρ a w):oP S (cd E st.bx ρ w) w:=g.glb
theorem Tx {f : FuncId} {o : Oper} {args : Array Operand} {ts : Array TypeId} (hf : JE S f) (ho : o.op = .call { callee := .value (.func f), args := args, argTypes := ts }) (a : Act) (w : World) :
  (execOp a.eval o).run S.P w = .ok (.enter f (args.map a.eval)) w:=by
 obtain ⟨fn,h1,h2,h3⟩:=hf
 have h2' : ¬ fn.name = "runtime.NumGoroutine" := by simpa using h2
 have h3':¬ fn.body=none:=fun h=>by grind
 simp [execOp,ho,resolve,Act.eval,Deferred.ofValue,invoke,callFunc,Sem.run_bind,h1,h2',h3']
theorem Ji {args : Array Operand} (g : Gam S E st ρ a w) (hc : ∀ x ∈ args.toList, (st.ev S x).cond) :
  ∀ j,j<(args.toList.map fun x=>fS (st.ev S x)).length→di ρ (cd E st.bx ρ w) w ((args.toList.map fun x=>fS (st.ev S x)).getD j .any) ((args.map a.eval).getD j undef):=by
 intro j hj;have hj':j<args.size:=by simpa using hj
 have e1:(args.toList.map fun x=>fS (st.ev S x)).getD j .any=fS (st.ev S args[j]):=by simp [List.getD_eq_getElem?_getD,hj']
 have e2:(args.map a.eval).getD j undef=a.eval args[j]:=by simp [hj']
 rw [e1,e2];exact KQ (g.ev _).1 (hc _ (by simp))
theorem Dh {x:CV} {u:Value} (g:Gam S E st ρ a w) (h:cR ρ (cd E st.bx ρ w) w x u):cR ρ (· < w.heap.size) w (iV st.bx x) u:=by
 have hk:iM (cd E st.bx ρ w) (· < w.heap.size) w w:=fun b hb=>⟨hb.1,fun _=>rfl⟩
 have hρ:∀ id,ρ id=ρ id:=fun _=>rfl;have gen:cR ρ (· < w.heap.size) w x u:=by
  cases x with
  | p x=>exact bq.mono hk h
  | ptr id off=>exact h
  | pel id sz i off=>exact h
  | own id n=>exact h
  | ipt sz g off=>exact cR.mono (nx:=0) hk (fun _ _=>rfl) trivial h
  | clo f ps=>exact h
  | sub id sz lo n=>exact h
 unfold iV;split
 ·rename_i id n;split
  ·rename_i e sz n' f hb;split
   ·rename_i hn;obtain ⟨A,m,c,hr,h1,h2,h3,hu⟩:=h;obtain ⟨h0,xs,hown,hone,hd⟩:=g.bxs id _ hb;refine ⟨A,c,hu,by omega,fun hpos => ?_⟩;rcases hown.2 with ⟨e1,e2⟩|⟨gb,cap,cur,hv,_,hh,hnc,_,hcs,htk⟩
    ·omega
    ·rw [hr] at hv;simp only [Value.slice.injEq] at hv;obtain ⟨rfl,rfl,rfl⟩:=hv;refine ⟨gb,0,rfl,cm hh,fun i hi j hj => ?_⟩;have hlt:i * sz+j<m * sz:=eE (by omega) hj;have hlt2:i * sz+j<cur.size:=by rw [hcs];exact Nat.lt_of_lt_of_le hlt (Nat.mul_le_mul_right _ hnc)
     have hlx:i * sz+j<xs.length:=by rw [hown.1];exact hlt
     have hxe:xs.getD (i * sz+j) undef=cur.getD (i * sz+j) undef:=by rw [← htk];simp [List.getElem?_take,hlt]
     grind [bq,undef,cr,bq.mono]
   omega
  omega
 omega
theorem AG {x:CV} {u:Value} (g:Gam S E st ρ a w) (h:cR ρ (cd E st.bx ρ w) w x u):cR ρ (· < w.heap.size) w (qD st.bx x) u:=by
 have hk:iM (cd E st.bx ρ w) (· < w.heap.size) w w:=fun b hb=>⟨hb.1,fun _=>rfl⟩
 unfold qD;split
 ·rename_i id off;split
  ·rename_i cs hb;split
   ·rename_i hoff;obtain ⟨b',o',hr,hu⟩:=h;obtain ⟨b,o,cells,t,hv,hh,hs,h1,hd⟩:=g.bxs id _ hb;rw [hv] at hr;simp only [Value.pointer.injEq,Option.some.injEq,Addr.mk.injEq,and_true] at hr;obtain ⟨rfl,rfl⟩:=hr;refine ⟨b,o+off,hu,cm hh,fun j hj=>⟨_,cr hh (by omega), ?_, ?_⟩⟩
    ·rw [Nat.add_assoc];exact h1 _ (by omega)
    ·rw [Nat.add_assoc];exact Fu (Dh g (hd (off+j)))
   ·exact h
  ·exact h
 ·rename_i id sz i off;split
  ·rename_i e s n f hb;split
   ·rename_i hc;obtain ⟨rfl,hi⟩:=hc;obtain ⟨b',m,c,hr,hu⟩:=h;obtain ⟨h0,xs,hown,hone,hd⟩:=g.bxs id _ hb;rcases hown.2 with ⟨e1,e2⟩|⟨gb,cap,cur,hv,_,hh,hnc,_,hcs,htk⟩
    ·omega
    ·rw [hr] at hv;simp only [Value.slice.injEq,Option.some.injEq,Addr.mk.injEq,and_true] at hv;obtain ⟨rfl,rfl,rfl⟩:=hv;refine ⟨b',i * sz,hu,cm hh,fun j hj => ?_⟩;have hlt:i * sz+j<m * sz:=eE hi hj;have hlt2:i * sz+j<cur.size:=by rw [hcs];exact Nat.lt_of_lt_of_le hlt (Nat.mul_le_mul_right _ hnc)
     have hlx:i * sz+j<xs.length:=by rw [hown.1];exact hlt
     have hxe:xs.getD (i * sz+j) undef=cur.getD (i * sz+j) undef:=by rw [← htk];simp [List.getElem?_take,hlt]
     grind [bq,undef,cr,bq.mono]
   ·exact h
  ·exact h
 grind [Dh]
theorem pW {x:BV} {u:Value} (g:Gam S E st ρ a w) (h:di ρ (cd E st.bx ρ w) w x u):di ρ (· < w.heap.size) w (gq st.bx x) u:=by
 cases x with
 | c x=>exact AG g h
 | agg cs =>
  obtain ⟨us,rfl,hs,h1,hd⟩:=h;refine ⟨us,rfl,by simp [hs],h1,fun j => ?_⟩;by_cases hj:j<cs.length
  ·grind [qD,AG]
  ·rw [List.getD_eq_getElem?_getD,List.getElem?_eq_none (by simp;omega)];trivial
theorem DZ {x:CV} {u:Value} {ρ':iN} {ok ok':Nat→Prop} {w w':World} (hf:x.flat) (h:cR ρ ok w x u):cR ρ' ok' w' x u:=by
 cases x with
 | p x=>cases x <;> first|exact h|exact hf.elim
 | _=>exact hf.elim
theorem Du {x:BV} {u:Value} {ρ':iN} {ok ok':Nat→Prop} {w w':World} (hf:x.flat) (h:di ρ ok w x u):di ρ' ok' w' x u:=by
 cases x with
 | c x=>exact DZ hf h
 | agg cs =>
  obtain ⟨us,hu,hs,h1,hd⟩:=h;refine ⟨us,hu,hs,h1,fun j => ?_⟩;by_cases hj:j<cs.length
  ·have hm:cs.getD j .any ∈ cs:=by rw [List.getD_eq_getElem?_getD,List.getElem?_eq_getElem hj];exact List.getElem_mem hj
   exact DZ (hf _ hm) (hd j)
  ·rw [List.getD_eq_getElem?_getD,List.getElem?_eq_none (by omega)];trivial
theorem OH {x:SV} {u:Value} {ρ':iN} {ok ok':Nat→Prop} {w w':World} (hf:x.flat) (h:bB ρ ok w x u):bB ρ' ok' w' x u:=by
 cases x with
 | b x=>exact Du hf h
 | tup vs =>
  obtain ⟨us,hu,hs,hd⟩:=h;refine ⟨us,hu,hs,fun j => ?_⟩;by_cases hj:j<vs.length
  ·have hm:vs.getD j .any ∈ vs:=by rw [List.getD_eq_getElem?_getD,List.getElem?_eq_getElem hj];exact List.getElem_mem hj
   exact Du (hf _ hm) (hd j)
  ·rw [List.getD_eq_getElem?_getD,List.getElem?_eq_none (by omega)];trivial
 | grd p x=>exact hf.elim
 | any=>exact hf.elim
theorem Mp {cs':List PV} (j:Nat):(cs'.map CV.p).getD j .any = .p (cs'.getD j .any):=by grind
theorem He {V:Array Value} {p:Value} (hs:0<V.size) (h0:V.getD 0 undef=p):V = #[p] ++ V.extract 1 V.size:=by
 apply Array.ext
 ·simp;omega
 ·intro i hi1 hi2;cases i with
  | zero =>
   simp_all
  | succ i=>grind
theorem pw {f : FuncId} {o : Oper} {V : Array Value} {next : Act → World → Prop} {Q : Exit → Act → World → Prop} (hr : (execOp a.eval o).run S.P w = .ok (.enter f V) w)
  (h:Calls S.P f V w fun e w'=>∃ v,e = .returned v∧next (a.put o.dst v) w'):o.wp S.P a w next Q:=by
 unfold Oper.wp;rw [hr];exact h.mono fun e w' ⟨v,he,hn⟩=>by grind
theorem yu {f : FuncId} {o : Oper} {V : Array Value} {A : List BV} {K : SV → St → Prop} {Kn : St → Prop} {Q : Exit → Act → World → Prop}
  (hrun:JE S f→(execOp a.eval o).run S.P w = .ok (.enter f V) w) (hrunX:∀ v,(callFunc f V).run S.P w = .ok (.value v) w→(execOp a.eval o).run S.P w = .ok (.value v) w) (hd:∀ k,o.dst=some k→k<E.N)
  (hden:∀ j,j<A.length→di ρ (cd E st.bx ρ w) w (A.getD j .any) (V.getD j undef)) (hsz:V.size=A.length) (g:Gam S E st ρ a w)
  (hK:∀ r st',K r st'→Kn (st'.set o.dst r)) (h:CallP S st f A K):o.wp S.P a w (nL S E Kn) Q:=by
 cases h with
 | pure args' X h ha hl hk =>
  obtain ⟨hab,hspec⟩:=h;obtain ⟨q1,q2⟩:=iZ (ρ:=ρ) (ok:=cd E st.bx ρ w) (w:=w) ha;have hq:=q2 (u:=fun j=>V.getD j undef) hden;refine pw (hrun hab) ((hspec (cd E st.bx ρ w) w V (fun b hb=>hb.1) g.glOk (by omega) (fun j => ?_)).mono fun e w' ⟨v,r,he,hR,hr0,hB,hv⟩ => ?_)
  ·by_cases hj:j<args'.length
   ·grind [gO]
   ·rw [List.getD_eq_getElem?_getD,List.getElem?_eq_none (by omega)];trivial
  ·have g':=g.grow hB;exact ⟨v,he,nL.mk_set g' hd (SV.lt_zero hr0 _) (uV hr0 (Gp g) hv) (hK _ _ (hR ▸ hk))⟩
 | ext args' X h ha hl hk =>
  obtain ⟨hX0,hspec⟩:=h;obtain ⟨q1,q2⟩:=iZ (ρ:=ρ) (ok:=cd E st.bx ρ w) (w:=w) ha;have hq:=q2 (u:=fun j=>V.getD j undef) hden;obtain ⟨v,hrun,hv⟩:=hspec (cd E st.bx ρ w) w V (by omega) fun j=>by
   by_cases hj:j<args'.length
   ·grind [gO]
   ·rw [List.getD_eq_getElem?_getD,List.getElem?_eq_none (by omega)];trivial
  unfold Oper.wp;rw [hrunX v hrun];exact nL.mk_set g hd (SV.lt_zero hX0 _) (uV hX0 (fun _ h=>h) hv) (hK _ _ hk)
 | lend args' X h ha hl hf hk =>
  obtain ⟨hab,hspec⟩:=h;obtain ⟨q1,q2⟩:=iZ (ρ:=ρ) (ok:=(· < w.heap.size)) (w:=w) ha
  have hq:=q2 (u:=fun j=>V.getD j undef) (fun j hj=>by
   grind [gq,pW])
  have hgl:oP S (· < w.heap.size) w:=fun k n f hg=>by
   obtain ⟨h1,h2⟩:=g.glb k n f hg;refine ⟨h1.1,fun j hj => ?_⟩;obtain ⟨x,hx,hx1,hdx⟩:=h2 j hj;exact ⟨x,hx,hx1,bq.mono (fun b hb=>⟨hb.1,fun _=>rfl⟩) hdx⟩
  refine pw (hrun hab) ((hspec (· < w.heap.size) w V (fun b hb=>hb) hgl (by grind) (fun j => ?_)).mono fun e w' ⟨v,r,he,hR,hr0,hB,hv⟩ => ?_)
  ·by_cases hj:j<args'.length
   ·grind [gO]
   ·rw [List.getD_eq_getElem?_getD,List.getElem?_eq_none (by omega)];trivial
  ·have g':=g.grow hB;exact ⟨v,he,nL.mk_set g' hd (SV.lt_zero hr0 _) (OH (hR ▸ hf) hv) (hK _ _ (hR ▸ hk))⟩
 | recv id off cs0 cs rest args' X Y h he hb hoff hcs ha hl hrv hy hk =>
  obtain ⟨hab,hspec⟩:=h;subst he;obtain ⟨b,o',cells,ty,hv,hh,hs,h1,hdb⟩:=g.bxs id _ hb;have h0:=hden 0 (by simp);obtain ⟨b2,o2,hr2,hu0⟩:=h0;rw [hv] at hr2;simp only [Value.pointer.injEq,Option.some.injEq,Addr.mk.injEq,and_true] at hr2;obtain ⟨rfl,rfl⟩:=hr2;obtain ⟨q1,q2⟩:=iZ (ρ:=ρ) (ok:=cd E st.bx ρ w) (w:=w) ha;have hq:=q2 (u:=fun j=>V.getD (j+1) undef) (fun j hj=>hden (j+1) (by grind));have hVs:V = #[.pointer (some ⟨b,o'+off,none⟩)] ++ V.extract 1 V.size:=He (by grind) (by omega);have hcsg:∀ j,j<cs.length→cs0.getD (off+j) .any = .p (cs.getD j .any):=fun j hj=>by
   have:=congrArg (fun l=>l.getD j .any) hcs;grind [Mp,kH]
  refine pw (hrun hab) ?_;rw [hVs]
  refine (hspec (cd E st.bx ρ w) w (V.extract 1 V.size) b (o'+off) cells ty (fun b hb=>hb.1) g.glOk hh (by omega) (fun hok=>hok.2.2 id (by grind) (by rw [hv];rfl))
   (fun j hj=>by rw [Nat.add_assoc];exact h1 _ (by omega)) (fun j => ?_) (by simp at hsz ⊢;omega) (fun j => ?_)).mono fun e w' ⟨v,r,cs',c',he,hR,hr0,hlen,hU,hh',h1',hd',hvr⟩ => ?_
  ·by_cases hj:j<cs.length
   ·have:=hdb (off+j);rw [hcsg j hj,← Nat.add_assoc] at this;exact this
   ·rw [List.getD_eq_getElem?_getD,List.getElem?_eq_none (by omega)];trivial
  ·by_cases hj:j<args'.length
   ·have e:(V.extract 1 V.size).getD j undef=V.getD (j+1) undef:=by
     simp only [bC?,Array.getElem?_extract];rw [Nat.add_comm 1 j];split
     ·rfl
     ·rename_i h;rw [Array.getElem?_eq_none (by omega)]
    rw [e];refine gO (hl _ ?_) (hq j);rw [List.getD_eq_getElem?_getD,List.getElem?_eq_getElem hj];grind
   ·rw [List.getD_eq_getElem?_getD,List.getElem?_eq_none (by omega)];trivial
  ·obtain ⟨c1,c2,ty',u1,u2,u3,u4⟩:=hU.own;rw [hh] at u1;simp only [Option.some.injEq,Obj.cells.injEq,and_true] at u1;obtain ⟨rfl,rfl⟩:=u1;rw [hh'] at u2;simp only [Option.some.injEq,Obj.cells.injEq,and_true] at u2;subst u2;have hpl:(mN cs0 off (cs'.map CV.p)).length=cs0.length:=vu (by simp;omega);have hltp:∀ c ∈ mN cs0 off (cs'.map CV.p),CV.lt st.nx c:=fun c hc=>by
    rcases BR hc with hc|hc
    ·exact (g.wfb id _ hb).2 c hc
    ·obtain ⟨x,_,rfl⟩:=List.mem_map.1 hc;trivial
   have hok':∀ k,(RK (cd E st.bx ρ w) w w' k∧k≠b)→cd E (st.setBox id (.fix (mN cs0 off (cs'.map CV.p)))).bx ρ w' k:=fun k ⟨h2,h3⟩=>by
    obtain ⟨g1,g2,g3⟩:=Gp g k h2;refine ⟨g1,g2,fun i hi => ?_⟩;simp only [St.setBox] at hi;by_cases hie:i=id
    ·grind
    grind
   have g':Gam S E (st.setBox id (.fix (mN cs0 off (cs'.map CV.p)))) ρ a w' :=
    g.setBox hb (by rw [hv];rfl) hU.os hU.tape hU.output hU.size (fun k h2 h3=>hU.block k h2 h3) hltp (.inl ⟨_,_,rfl,rfl,hpl⟩)
     ⟨cells,c',ty,hh,hh',u3,fun o3 cs3 e1 e2 j hj=>by
      rw [hv] at e1;simp only [Value.pointer.injEq,Option.some.injEq,Addr.mk.injEq,true_and,and_true] at e1;simp only [Bx.fix.injEq] at e2;subst e1;subst e2
      exact u4 j (by omega)⟩
     (fun hkeep=>by
      have hget:∀ j,(j<off∨off+cs.length≤j)→c'.getD (o'+j) undef=cells.getD (o'+j) undef:=fun j hj=>by rw [bC?,bC?,u4 _ (by omega)]
      refine ⟨b,o',c',ty,hv,hh',by omega,fun j hj => ?_,fun j => ?_⟩
      ·by_cases hj2:off≤j∧j<off+cs.length
       ·have:=h1' (j - off) (by omega)
        rwa [show o'+off+(j - off)=o'+j by omega] at this
       grind
      ·rw [wS (by simp;omega)];simp only [List.length_map];by_cases hj2:off≤j∧j<off+cs'.length
       ·rw [if_pos hj2,Mp];have:=hd' (j - off);rw [show o'+off+(j - off)=o'+j by omega] at this;exact bq.mono (fun k hkk=>⟨hok' k hkk,fun _=>rfl⟩) this
       ·rw [if_neg hj2,hget j (by omega)]
        exact cR.mono hkeep (fun _ _=>rfl) (CV.lt_getD (g.wfb id _ hb).2 _) (hdb j))
   exact ⟨v,he,nL.mk_set g' hd (SV.lt_zero hr0 _) (uV hr0 hok' hvr) (hK _ _ (by grind))⟩
 | recvEl id sz i e n gg cs rest args' X Y h he hb hi hszl hcs ha hl hrv hy hk =>
  obtain ⟨hab,hspec⟩:=h;subst he;obtain ⟨hs0,xs,hown,hone,hdb⟩:=g.bxs id _ hb;obtain ⟨b2,m2,cp2,hr2,hu0⟩:=hden 0 (by simp);rcases hown.2 with ⟨e1,e2⟩|⟨b,cap,cells,hv,_,hh,hnc,hcm,hcsz,htk⟩
  ·omega
  rw [hv] at hr2;simp only [Value.slice.injEq,Option.some.injEq,Addr.mk.injEq,and_true] at hr2;obtain ⟨rfl,rfl,rfl⟩:=hr2;obtain ⟨q1,q2⟩:=iZ (ρ:=ρ) (ok:=cd E st.bx ρ w) (w:=w) ha;have hq:=q2 (u:=fun j=>V.getD (j+1) undef) (fun j hj=>hden (j+1) (by grind));have hVs:V = #[.pointer (some ⟨b,i * sz,none⟩)] ++ V.extract 1 V.size:=He (by grind) (by omega);have hrow:i * sz+sz≤cells.size:=by rw [hcsz,← Nat.succ_mul];exact Nat.mul_le_mul_right _ (by omega)
  have hxs:∀ k,k<n * sz→xs.getD k undef=cells.getD k undef:=fun k hkk=>by
   rw [← htk];simp [List.getElem?_take,hkk]
  have hxone:∀ k,k<n * sz→(cells.getD k undef).oneCell'=true:=fun k hkk=>by
   rw [← hxs k hkk,List.getD_eq_getElem?_getD,List.getElem?_eq_getElem (by rw [hown.1];exact hkk)];grind
  refine pw (hrun hab) ?_;rw [hVs]
  refine (hspec (cd E st.bx ρ w) w (V.extract 1 V.size) b (i * sz) cells e (fun b hb=>hb.1) g.glOk hh (by omega) (fun hok=>hok.2.2 id (by grind) (by rw [hv];rfl))
   (fun j hj=>hxone _ (eE hi (by omega))) (fun j => ?_) (by simp at hsz ⊢;omega) (fun j => ?_)).mono fun e' w' ⟨v,r,cs',c',he,hR,hr0,hlen,hU,hh',h1',hd',hvr⟩ => ?_
  ·by_cases hj:j<sz
   ·grind [eE]
   ·rw [List.getD_eq_getElem?_getD,List.getElem?_eq_none (by omega)];trivial
  ·by_cases hj:j<args'.length
   ·have e:(V.extract 1 V.size).getD j undef=V.getD (j+1) undef:=by
     simp only [bC?,Array.getElem?_extract];rw [Nat.add_comm 1 j];split
     ·rfl
     ·rename_i h;rw [Array.getElem?_eq_none (by omega)]
    rw [e];refine gO (hl _ ?_) (hq j);rw [List.getD_eq_getElem?_getD,List.getElem?_eq_getElem hj];grind
   ·rw [List.getD_eq_getElem?_getD,List.getElem?_eq_none (by omega)];trivial
  ·obtain ⟨c1,c2,ty',u1,u2,u3,u4⟩:=hU.own;rw [hh] at u1;simp only [Option.some.injEq,Obj.cells.injEq,and_true] at u1;obtain ⟨rfl,rfl⟩:=u1;rw [hh'] at u2;simp only [Option.some.injEq,Obj.cells.injEq,and_true] at u2;subst u2;have hok':∀ k,(RK (cd E st.bx ρ w) w w' k∧k≠b)→cd E (st.setBox id (.arr e sz n fun i' j=>if i'=i then cs'.getD j .any else gg i' j)).bx ρ w' k:=fun k ⟨h2,h3⟩=>by
    obtain ⟨g1,g2,g3⟩:=Gp g k h2;refine ⟨g1,g2,fun k2 hi => ?_⟩;simp only [St.setBox] at hi;by_cases hie:k2=id
    ·grind
    grind
   have hget:∀ k,(k<i * sz∨i * sz+sz≤k)→c'.getD k undef=cells.getD k undef:=fun k hk=>by rw [bC?,bC?,u4 _ (by omega)]
   have hcc:n * sz≤cells.size:=by rw [hcsz];exact Nat.mul_le_mul_right _ hnc
   have htake:∀ k,k<n * sz→(c'.toList.take (n * sz)).getD k undef=c'.getD k undef:=fun k hkk=>by rw [List.getD_eq_getElem?_getD,List.getElem?_take,if_pos hkk,Array.getElem?_toList,bC?]
   have hout:∀ i' j,j<sz→i'≠i→(i' * sz+j<i * sz∨i * sz+sz≤i' * sz+j):=fun i' j hj hne=>by
    rcases Nat.lt_or_ge i' i with h|h
    ·left;have:=Nat.mul_le_mul_right sz (show i'+1≤i from h);grind
    ·right;have:=Nat.mul_le_mul_right sz (show i+1≤i' by omega);grind
   have g':Gam S E (st.setBox id (.arr e sz n fun i' j=>if i'=i then cs'.getD j .any else gg i' j)) ρ a w' :=
    g.setBox hb (by rw [hv];rfl) hU.os hU.tape hU.output hU.size (fun k h2 h3=>hU.block k h2 h3) trivial (.inr ⟨_,_,_,_,_,rfl,rfl⟩)
     ⟨cells,c',e,hh,hh',u3,fun o3 cs3 e1 _=>by grind⟩
     (fun hkeep=>by
      refine ⟨hs0,c'.toList.take (n * sz),⟨by grind, .inr ⟨b,cap,c',hv,Nat.zero_le _,hh',hnc,hcm,by omega,rfl⟩⟩,fun x hx => ?_,fun i' hi' j hj => ?_⟩
      ·obtain ⟨k,hk1,rfl⟩:=List.getElem_of_mem hx;have hk2:k<n * sz:=by simp at hk1;omega
       have e:=htake k hk2;rw [List.getD_eq_getElem?_getD,List.getElem?_eq_getElem hk1] at e;simp only [Option.getD_some] at e;rw [e];by_cases hk3:i * sz≤k∧k<i * sz+sz
       ·have:=h1' (k - i * sz) (by omega)
        rwa [show i * sz+(k - i * sz)=k by omega] at this
       grind
      ·rw [htake _ (eE hi' hj)];dsimp only;by_cases hie:i'=i
       ·subst hie;rw [if_pos rfl];exact bq.mono (fun k hkk=>⟨hok' k hkk,fun _=>rfl⟩) (hd' j)
       grind [bq,eE,bq.mono])
   exact ⟨v,he,nL.mk_set g' hd (SV.lt_zero hr0 _) (uV hr0 hok' hvr) (hK _ _ (by obtain ⟨rfl,rfl⟩:=hR;exact hk))⟩
 | own args' e sz n gg h ha hl hr hk =>
  obtain ⟨hab,hspec⟩:=h;obtain ⟨q1,q2⟩:=iZ (ρ:=ρ) (ok:=(· < w.heap.size)) (w:=w) ha
  have hq:=q2 (u:=fun j=>V.getD j undef) (fun j hj=>by
   grind [gq,pW])
  have hgl:oP S (· < w.heap.size) w:=fun k n f hg=>by
   obtain ⟨h1,h2⟩:=g.glb k n f hg;refine ⟨h1.1,fun j hj => ?_⟩;obtain ⟨x,hx,hx1,hdx⟩:=h2 j hj;exact ⟨x,hx,hx1,bq.mono (fun b hb=>⟨hb.1,fun _=>rfl⟩) hdx⟩
  refine pw (hrun hab) ((hspec (· < w.heap.size) w V (fun b hb=>hb) hgl (by grind) (fun j => ?_)).mono fun ex w' ⟨v,xs,he,hB,h0,hown,hone,hd2⟩ => ?_)
  ·by_cases hj:j<args'.length
   ·grind [gO]
   ·rw [List.getD_eq_getElem?_getD,List.getElem?_eq_none (by omega)];trivial
  ·have hown0:w'.ownsRow 0 e sz v n xs:=⟨hown.1,by
    rcases hown.2 with h|⟨b,cap,cur,e1,e2,e3⟩
    ·grind
    grind⟩
   have hge:∀ b,mW v=some b→w.heap.size≤b:=fun b hb=>by
    rcases hown.2 with ⟨e1,_⟩|⟨b2,cap,cur,e1,e2,_⟩
    ·grind [mW]
    grind [mW]
   have g':=g.newBox hB (.arr e sz n gg) v trivial (fun b hb=>⟨hge b hb,Fp hown0 hb⟩)
    (fun ok' _=>⟨h0,xs,hown0,hone,fun i hi j hj=>bq.mono (fun _ hb=>hb.elim) (hd2 i hi j hj)⟩)
   exact ⟨v,he,nL.mk_set g' hd (tj st _ _) (zs hown0 st ρ _ _) (hK _ _ hk)⟩
 | inl X bx' nx' h hr hw hk hn =>
  obtain ⟨hab,hspec⟩:=h;refine pw (hrun hab) ((hspec E st ρ a w V rfl rfl g hsz fun j => ?_).mono fun e w' ⟨v,ρ',he,hX,hXl,g'⟩=>⟨v,he,nL.mk_set g' hd hXl hX (hK _ _ hk)⟩);by_cases hj:j<A.length
  ·grind
  ·rw [List.getD_eq_getElem?_getD,List.getElem?_eq_none (by omega)];trivial
theorem JR {f : FuncId} {o : Oper} {args : Array Operand} {ts : Array TypeId} {K : SV → St → Prop} {Kn : St → Prop} {Q : Exit → Act → World → Prop}
  (ho:o.op = .call { callee := .value (.func f),args:=args,argTypes:=ts }) (hd:∀ k,o.dst=some k→k<E.N) (hc:∀ x ∈ args.toList,(st.ev S x).cond) (g:Gam S E st ρ a w)
  (hK:∀ r st',K r st'→Kn (st'.set o.dst r)) (h:CallP S st f (args.toList.map fun x=>fS (st.ev S x)) K):o.wp S.P a w (nL S E Kn) Q :=
 yu (fun hab=>Tx hab ho a w) (fun v hv=>by simp [execOp,ho,resolve,Act.eval,Deferred.ofValue,invoke,Sem.run_bind];exact hv) hd (Ji g hc) (by simp) g hK h
theorem VK {x : SV} {f : FuncId} {xs : List BV} {u : Value} {ok : Nat → Prop} (h : tA x = some (f, xs)) (hx : bB ρ ok w x u) :
  ∃ vs:Array Value,u = .func (.func f) #[] vs∧vs.size=xs.length∧∀ j,j<xs.length→di ρ ok w (xs.getD j .any) (vs.getD j undef):=by
 unfold tA at h;split at h <;> try grind
 ·rename_i f' ps;obtain ⟨rfl,rfl⟩:=h;obtain ⟨vs,hu,hs,hc⟩:=hx;refine ⟨vs,hu,by simp [hs],fun j hj => ?_⟩;have hj':j<ps.length:=by simpa using hj
  obtain ⟨b,o,h1,h2⟩:=hc j hj';have e1:(ps.map fun p=>BV.c (.ptr p.1 p.2)).getD j .any=BV.c (.ptr (ps.getD j (0,0)).1 (ps.getD j (0,0)).2):=by simp [List.getD_eq_getElem?_getD,hj']
  rw [e1];exact ⟨b,o,h1,h2⟩
 ·rename_i f' n sz g;obtain ⟨rfl,rfl⟩:=h;obtain ⟨vs,hu,hs,hc⟩:=hx;refine ⟨vs,hu,by simp [hs],fun j hj => ?_⟩;have hj':j<n:=by simpa using hj
  obtain ⟨b,o,h1,h2,h3⟩:=hc j hj';have e1:((List.range n).map fun i=>BV.c (.ipt (sz i) (g i) 0)).getD j .any=BV.c (.ipt (sz j) (g j) 0):=by simp [List.getD_eq_getElem?_getD,hj']
  rw [e1];exact ⟨b,o,h1,h2,h3⟩
 ·rename_i f' a b;split at h
  ·rename_i hab;obtain ⟨rfl,rfl⟩:=hab;simp only [Option.some.injEq,Prod.mk.injEq] at h;obtain ⟨rfl,rfl⟩:=h;exact ⟨#[],hx,rfl,fun j hj=>absurd hj (Nat.not_lt_zero _)⟩
  ·cases h
theorem QM {f : FuncId} {o : Oper} {t : Tmp} {x : SV} {xs : List BV} {args : Array Operand} {ts : Array TypeId} {K : SV → St → Prop} {Kn : St → Prop} {Q : Exit → Act → World → Prop}
  (ho:o.op = .call { callee := .value (.tmp t),args:=args,argTypes:=ts }) (hx:tA x=some (f,xs)) (ht:bB ρ (cd E st.bx ρ w) w x (a.eval (.tmp t))) (hd:∀ k,o.dst=some k→k<E.N)
  (hc:∀ x ∈ args.toList,(st.ev S x).cond) (g:Gam S E st ρ a w) (hK:∀ r st',K r st'→Kn (st'.set o.dst r))
  (h:CallP S st f (args.toList.map (fun x=>fS (st.ev S x)) ++ xs) K):o.wp S.P a w (nL S E Kn) Q:=by
 obtain ⟨vs,hu,hs,hcp⟩:=VK hx ht;have hA:=Ji (args:=args) g hc;refine yu (V:=args.map a.eval ++ vs) (fun hab => ?_) (fun v hv=>by simp [execOp,ho,resolve,hu,Deferred.ofValue,invoke,Sem.run_bind];exact hv) hd (fun j hj => ?_) (by simp [hs]) g hK h
 ·obtain ⟨fn,h1,h2,h3⟩:=hab
  have h2' : ¬ fn.name = "runtime.NumGoroutine" := by simpa using h2
  have h3':¬ fn.body=none:=fun h=>by grind
  simp [execOp,ho,resolve,hu,Deferred.ofValue,invoke,callFunc,Sem.run_bind,h1,h2',h3']
 ·by_cases hj2:j<args.size
  ·have e1:(args.toList.map (fun x=>fS (st.ev S x)) ++ xs).getD j .any=(args.toList.map (fun x=>fS (st.ev S x))).getD j .any:=by rw [List.getD_eq_getElem?_getD,List.getD_eq_getElem?_getD,List.getElem?_append_left (by grind)]
   simp_all
  ·have hj3:j - args.size<xs.length:=by simp at hj;omega
   have e1:(args.toList.map (fun x=>fS (st.ev S x)) ++ xs).getD j .any=xs.getD (j - args.size) .any:=by rw [List.getD_eq_getElem?_getD,List.getD_eq_getElem?_getD,List.getElem?_append_right (by simp;omega)];simp
   simp_all
end
end
section
section
variable {S:Env} {E:Ent} {st:St} {ρ:iN} {a:Act} {w:World} {Q:Exit→Act→World→Prop}
theorem Im {o : Oper} {s : Sem Value} {v : Value} {w' : World} {next : Act → World → Prop} (he : execOp a.eval o = (do pure (Next.value (← s)) : Sem Next)) (hr : s.run S.P w = .ok v w') (hn : next (a.put o.dst v) w') :
  o.wp S.P a w next Q:=by
 unfold Oper.wp;rw [he];simp only [Sem.run_bind,hr,Result.andThen_ok,Sem.run_pure];exact hn
theorem a4R {o : Oper} {s : Sem Unit} {w' : World} {next : Act → World → Prop} (he : execOp a.eval o = (do s; pure Next.skip : Sem Next)) (hr : s.run S.P w = .ok () w') (hn : next (a.put o.dst undef) w') :
  o.wp S.P a w next Q:=by
 unfold Oper.wp;rw [he];simp only [Sem.run_bind,hr,Result.andThen_ok,Sem.run_pure];exact hn
theorem Cb.nxt' {K : SV → St → Prop} {Kn : St → Prop} {d : Option Nat} {v : Value} {w' : World} (hd : ∀ k, d = some k → k < E.N) (hK : ∀ r st', K r st' → Kn (st'.set d r)) (h : Cb S E K a v w') :
  nL S E Kn (a.put d v) w':=by
 obtain ⟨st',ρ',r,g,hr,hl,hk⟩:=h;grind [nL.mk_set]
theorem MU {ρ:iN} {ok:Nat→Prop} {u:Value}:bB ρ ok w .any u:=trivial
theorem Nq {x:SV} {k:IntKind} {n:Int} {ok:Nat→Prop} {u:Value} (h:x = .b (.c (.p (.val (.int k n))))) (hd:bB ρ ok w x u):u = .int k n:=by subst h;exact hd
theorem NF {o : Oper} {K : SV → St → Prop} {Kn : St → Prop} (h : fp S st (st.ev S) o.op K) (hc : ∀ x ∈ o.op.operands, (st.ev S x).cond) (hd : ∀ k, o.dst = some k → k < E.N) (g : Gam S E st ρ a w)
  (hK:∀ r st',K r st'→Kn (st'.set o.dst r)):o.wp S.P a w (nL S E Kn) Q:=by
 have D:∀ x,x ∈ o.op.operands→bB ρ (cd E st.bx ρ w) w (st.ev S x).strip (a.eval x):=fun x hx=>mX (g.ev x).1 (hc x hx);have L:∀ x,(st.ev S x).strip.lt st.nx:=fun x=>vp (g.ev x).2;cases hop:o.op with
 | build t parts =>
  rw [hop] at h;simp only [fp] at h;split at h
  ·rename_i pl z hb hz;split at h
   ·rename_i vc cs hf;obtain ⟨v,hr,hv,hl⟩:=GX hb hz hf h.1 g (fun p hp=>hc p.2 (by grind [Op.operands]));exact Im (by grind [execOp]) hr (nL.mk_set g hd hl hv (hK _ _ h.2))
   grind
  grind
 | alloc t =>
  rw [hop] at h;simp only [fp] at h;split at h
  ·rename_i z hz;obtain ⟨v,w',hr,hm⟩:=Ia hz g h;exact Im (by grind [execOp]) hr (hm.nxt' hd hK)
  grind
 | box t x =>
  rw [hop] at h;simp only [fp] at h;split at h
  ·rename_i v hx;have hdx:=D x (by grind [Op.operands]);have hlx:=L x;rw [hx] at hdx hlx;obtain ⟨y,w',hr,hm⟩:=PQ (t:=t) h.1 hdx hlx g h.2;exact Im (by grind [execOp]) hr (hm.nxt' hd hK)
  grind
 | buildSlice t len parts =>
  rw [hop] at h;simp only [fp] at h;split at h
  ·rename_i e s ag he;split at h
   ·rename_i z hz;split at h
    ·rename_i vc cs hf;obtain ⟨⟨h1,h2,h3,h4,h5⟩,hk⟩:=h;obtain ⟨y,w',hr,hm⟩:=wK he hz hf h1 h2 h3 h4 h5 g (fun p hp=>hc p.2 (by grind [Op.operands])) hk;exact Im (by grind [execOp]) hr (hm.nxt' hd hK)
    grind
   grind
  grind
 | store t p x =>
  rw [hop] at h;simp only [fp] at h;have hdp:=D p (by grind [Op.operands]);have hdx:=D x (by grind [Op.operands]);have hlx:=L x;split at h
  ·rename_i id off v sz ag hp hx ht;split at h
   ·rename_i cs hb;obtain ⟨⟨h1,h2,h3⟩,hk⟩:=h;rw [hp] at hdp;rw [hx] at hdx hlx;obtain ⟨w',hr,g',hk'⟩:=Bp ht hb h1 h2 h3 hdp hdx hlx g hk;exact a4R (by grind [execOp]) hr (nL.mk_set (r := .any) g' hd trivial MU (hK _ _ hk'))
   grind
  ·rename_i id s i off v sz ag hp hx ht;split at h
   ·rename_i e s' n f hb;obtain ⟨⟨rfl,h1,h2,h3,h4,h5⟩,hk⟩:=h;rw [hp] at hdp;rw [hx] at hdx hlx;obtain ⟨w',hr,g',hk'⟩:=BB ht hb h1 h3 h2 h4 hdp hdx g hk;exact a4R (by grind [execOp]) hr (nL.mk_set (r := .any) g' hd trivial MU (hK _ _ hk'))
   grind
  grind
 | makeSlice t l c =>
  rw [hop] at h;simp only [fp] at h;split at h
  ·rename_i kl l' kc c' e s ag hl hcc he;split at h
   ·rename_i z i hz hi;obtain ⟨⟨h1,h2,h3,h4,h5,h6⟩,hk⟩:=h;obtain ⟨y,w',hr,hm⟩:=yR (kl:=kl) (kc:=kc) he hz hi h1 h2 h3 h4 h5 h6 g hk;have e1:=Nq hl (D l (by grind [Op.operands]));have e2:=Nq hcc (D c (by grind [Op.operands]));exact Im (by grind [execOp]) hr (hm.nxt' hd hK)
   grind
  grind
 | call c =>
  obtain ⟨callee,args,ts⟩:=c;rw [hop] at h;simp only [fp] at h;split at h
  ·rename_i x y t t' h2 h3;have ha:args = #[x,y]:=by rw [← Array.toArray_toList (xs:=args),h2]
   have ht:ts = #[t,t']:=by rw [← Array.toArray_toList (xs:=ts),h3]
   subst ha;subst ht;have hdx:=D x (by rw [hop];simp [Op.operands,Call.operands]);have hdy:=D y (by rw [hop];simp [Op.operands,Call.operands]);split at h
   ·rename_i e s ag vc sz m gg he hsrc;split at h
    ·rename_i i z hi hz hx;obtain ⟨⟨h1,rfl,h3,h4,h5,h6,h7⟩,hk⟩:=h;rw [hx] at hdx;have ex:a.eval x = .slice none 0 0:=hdx;obtain ⟨v,w',hr,hm⟩:=yV (ty:=o.type) he hz hi hsrc h1 h3 h4 h5 h6 h7 g hdy hk;exact Im (s:=Builtin.append_ #[t,t] o.type #[.slice none 0 0,a.eval y]) (by simp_all [execOp,resolve,invoke,builtin]) hr (hm.nxt' hd hK)
    ·rename_i i z id n hi hz hx;split at h
     ·rename_i e' s' n' f hb;obtain ⟨⟨h1,rfl,rfl,rfl,hnn,h3,h4,h5,h6,h7⟩,hk⟩:=h;rw [hx] at hdx;obtain ⟨v,w',hr,hm⟩:=yU (ty:=o.type) he hz hi hsrc h1 h3 h4 h5 h6 h7 g hdy hb hnn hdx hk;exact Im (s:=Builtin.append_ #[t,t] o.type #[a.eval x,a.eval y]) (by simp [execOp,hop,resolve,invoke,builtin]) hr (hm.nxt' hd hK)
     grind
    grind
   grind
  ·rename_i x y t t' h2 h3;have ha:args = #[x,y]:=by rw [← Array.toArray_toList (xs:=args),h2]
   have ht:ts = #[t,t']:=by rw [← Array.toArray_toList (xs:=ts),h3]
   subst ha;subst ht;have hdx:=D x (by rw [hop];simp [Op.operands,Call.operands]);have hdy:=D y (by rw [hop];simp [Op.operands,Call.operands]);split at h
   ·rename_i e s ag id s1 lo n sz m gg he hx hy;split at h
    ·rename_i e' s2 n' f hb;obtain ⟨⟨rfl,rfl,rfl,h1,h2',h3'⟩,hk⟩:=h;rw [hx] at hdx;rw [hy] at hdy;obtain ⟨v,w',hr,hm⟩:=Lk (t':=t') (ty:=o.type) he hb h1 h2' h3' hdx hdy g hk;exact Im (s:=Builtin.copy_ #[t,t'] o.type #[a.eval x,a.eval y]) (by simp [execOp,hop,resolve,invoke,builtin]) hr (hm.nxt' hd hK)
    grind
   grind
  ·rename_i f _ _ _;exact JR (ts:=ts) hop hd (fun x hx=>hc x (by rw [hop];simp [Op.operands,Call.operands];grind)) g hK h
  ·rename_i t;split at h
   ·rename_i f xs hx;have hcal:=hc (.tmp t) (by rw [hop];simp [Op.operands,Call.operands]);have hdx:=mX (g.ev (.tmp t)).1 hcal;exact QM (ts:=ts) hop hx hdx hd (fun x hx=>hc x (by rw [hop];simp [Op.operands,Call.operands];grind)) g hK h
   grind
  grind
 | _=>rw [hop] at h;exact h.elim
theorem xm {o:Oper} {K:St→Prop} (h:lO S st o K) (hd:∀ k,o.dst=some k→k<E.N) (g:Gam S E st ρ a w):o.wp S.P a w (nL S E K) Q:=by
 unfold lO at h;split at h
 ·grind [nL,AF,Be,nL.mk_set]
 ·exact NF h.2 (fun x hx=>sF h.1 (List.mem_map.2 ⟨x,by grind,rfl⟩)) hd g (fun _ _ hk=>hk)
theorem FC {d : Option Nat} {want t : Bool} (h : mz st d want = some t) (g : Gam S E st ρ a w) (ops : Array Oper) (j : Nat) (hj : (ops[j]?).bind (·.dst) = d) :
  (yielded ops a.tmps j == some want)=t:=by
 unfold mz at h;split at h
 ·rename_i k;have hs:=g.slt k;have key:∀ b,a.tmps.getD k undef = .bool b→yielded ops a.tmps j=some b:=fun b hb=>by
   unfold yielded;rw [hj];have hlt:k<a.tmps.size:=by
    rcases Nat.lt_or_ge k a.tmps.size with h'|h'
    ·exact h'
    ·grind [undef,bC?]
   simp_all
  split at h
  ·rename_i b hf;rw [hf] at hs;simp only [Option.some.injEq] at h;subst h;rw [key b hs];rfl
  ·rename_i p b hf;rw [hf] at hs;simp only [Option.some.injEq] at h;subst h;cases p with
   | true=>rw [key b (hs.1 rfl)];rfl
   | false =>
    have hu:=hs.2 rfl;have:yielded ops a.tmps j=none:=by
     unfold yielded;rw [hj];simp only [Option.bind_some];cases hk:a.tmps[k]? with
     | none=>rfl
     | some v =>
      simp_all [undef,bC?]
    grind
  grind
 grind
theorem Xr {d:Option Nat} {x:BV} (g:Gam S E (st.set d (.b x)) ρ a w):Gam S E (st.set d (.grd true x)) ρ a w:=by
 cases d with
 | none=>exact g
 | some k =>
  refine ⟨g.dfr,g.sz,g.frm,fun s => ?_,g.wfb,g.bxs,g.new,g.inj,g.rx0,fun s => ?_,g.glb,g.kept⟩
  ·have:=g.wfs s;grind [SV.lt,St.set]
  ·have:=g.slt s;simp only [St.set] at this ⊢;grind [bB,cd,undef,di]
theorem NY {ops : Array Oper} {o : Oper} {K : St → Prop} (h : gh S ops st o K) (hd : ∀ k, o.dst = some k → k < E.N) (g : Gam S E st ρ a w) :
  if Region.wanted o (yielded ops a.tmps) then o.wp S.P a w (nL S E K) Q else nL S E K (a.put o.dst undef) w:=by
 unfold gh at h;split at h
 ·grind [Region.wanted,xm]
 ·rename_i j want hg;split at h
  ·rename_i t ht;have hy:=FC ht g ops j rfl;have hw:Region.wanted o (yielded ops a.tmps)=t:=by simp only [Region.wanted,hg];exact hy
   split at h
   ·rename_i vc r hr;obtain ⟨hlr,hvc,hk⟩:=h;cases t with
    | true =>
     rw [if_pos hw];obtain ⟨v,hrun,hv,hl⟩:=AF hr (hvc rfl) g;exact Be hrun (nL.mk_set (r := .grd true r) g hd hlr ⟨fun _=>hv,fun h=>by cases h⟩ hk)
    | false =>
     rw [if_neg (by grind)];exact nL.mk_set (r := .grd false r) g hd hlr ⟨fun h=>(by cases h),fun _=>rfl⟩ hk
   ·rename_i vc p r hr;obtain ⟨hlr,hvc,hk⟩:=h;cases t with
    | true =>
     grind [nL,AF,Be,nL.mk_set]
    | false =>
     rw [if_neg (by grind)];exact nL.mk_set (r := .grd false r) g hd hlr ⟨fun h=>(by cases h),fun _=>rfl⟩ hk
   ·rcases h with h|⟨x,hlx,h1,hk⟩
    ·cases t with
     | true=>grind [xm,lO]
     | false =>
      rw [if_neg (by grind)];exact nL.mk_set (r := .any) g hd trivial trivial (h.2 rfl)
    ·cases t with
     | true =>
      rw [if_pos hw];refine Oper.wp_mono (fun a' w' hn => ?_) (xm (h1 rfl) hd g);obtain ⟨st',ρ',g',rfl⟩:=hn;exact ⟨_,ρ',Xr g',hk⟩
     | false =>
      rw [if_neg (by grind)];exact nL.mk_set (r := .grd false x) g hd hlx ⟨fun h=>(by cases h),fun _=>rfl⟩ hk
  grind
def DP (N:Nat) (o:Oper):Bool:=match o.dst with
 | some d=>decide (d<N)
 | none=>true
theorem KL {N:Nat} {o:Oper} (h:DP N o=true):∀ k,o.dst=some k→k<N:=by
 intro k hk;unfold DP at h;grind
theorem Mu {ops : Array Oper} {i : Nat} {o : Oper} {K : St → Prop} {K' : Act → World → Prop} (hi : ops[i]? = some o) (h : gh S ops st o K) (hd : DP E.N o = true) (g : Gam S E st ρ a w)
  (hK:∀ a w,nL S E K a w→K' a w):wpOp S.P ops Q i K' a w:=by
 unfold wpOp;simp only [hi];have:=NY (Q:=Q) h (KL hd) g;grind [Oper.wp,Oper.wp_mono]
theorem tT {ops : Array Oper} {K : St → Prop} (hN : ops.toList.all (DP E.N) = true) (hQ : ∀ a w, nL S E K a w → Q .normal a w) : ∀ (l : List Oper) (k : Nat), (∀ j, l[j]? = ops[k + j]?) → ∀ {st : St} {ρ : iN} {a : Act} {w : World},
  bj S ops l st K→Gam S E st ρ a w→wpOps S.P ops Q (List.range' k l.length) a w
 | [],k,_,st,ρ,a,w,h,g=>by simp only [List.length_nil,List.range'_zero,wpOps];exact hQ _ _ ⟨st,ρ,g,h⟩
 | o :: l,k,hl,st,ρ,a,w,h,g=>by
  have h0:ops[k]?=some o:=by simpa using (hl 0).symm
  have hmem:o ∈ ops.toList:=by
   have:=Array.mem_of_getElem? h0;simpa using this
  rw [List.length_cons,List.range'_succ,wpOps_cons];exact Mu h0 h (List.all_eq_true.1 hN o hmem) g fun a w ⟨st',ρ',g',hk⟩ =>
   tT hN hQ l (k+1) (fun j=>by have:=hl (j+1);grind) hk g'
def iY (S:Env) (ops:Array Oper):Nat→Array Bool→St→(St→Prop)→Prop
 | 0,listed,st,K=>Region.ready .any ops listed=[]∧K st
 | fuel + 1, listed, st, K => (Region.ready .any ops listed = [] → K st) ∧
   ∀ i ∈ Region.ready .any ops listed,match ops[i]? with
    | some o=>gh S ops st o fun st'=>iY S ops fuel (listed.setIfInBounds i true) st' K
    | none=>iY S ops fuel (listed.setIfInBounds i true) st K
theorem qX {ops : Array Oper} {K : St → Prop} (hN : ops.toList.all (DP E.N) = true) (hQ : ∀ a w, nL S E K a w → Q .normal a w) : ∀ (fuel : Nat) (listed : Array Bool) {st : St} {ρ : iN} {a : Act} {w : World},
  iY S ops fuel listed st K→Gam S E st ρ a w→wpAny S.P .any ops Q fuel listed a w
 | 0,listed,st,ρ,a,w,h,g=>⟨h.1,hQ _ _ ⟨st,ρ,g,h.2⟩⟩
 | fuel+1,listed,st,ρ,a,w,h,g=>by
  refine ⟨fun hr=>hQ _ _ ⟨st,ρ,g,h.1 hr⟩,fun i hi => ?_⟩;have:=h.2 i hi;cases ho:ops[i]? with
  | none =>
   rw [ho] at this;unfold wpOp;simp only [ho];exact qX hN hQ fuel _ this g
  | some o =>
   rw [ho] at this;have hmem:o ∈ ops.toList:=by
    have:=Array.mem_of_getElem? ho;simpa using this
   exact Mu ho this (List.all_eq_true.1 hN o hmem) g fun a w ⟨st',ρ',g',hk⟩=>qX hN hQ fuel _ hk g'
def uw (r:Nat→Option Nat) (ρ:iN):iN:=fun i=>match r i with
 | some k=>ρ k
 | none => .slice none 0 0
def Gt (r:Nat→Option Nat) (bx bx':Nat→Option Bx):CV→CV→Prop
 | _, .p .any=>True
 | .p x, .p y=>x=y∨PV.le x y
 | .p x, .own id' n'=>x = .val (.slice none 0 0)∧n'=0∧r id'=none
 | .ptr id off, .ptr id' off'=>r id'=some id∧off=off'
 | .clo f ps, .clo f' ps'=>f=f'∧ps.map (·.2)=ps'.map (·.2)∧ps'.map (fun p=>r p.1)=ps.map (fun p=>some p.1)
 | .pel id sz i off, .pel id' sz' i' off'=>r id'=some id∧sz=sz'∧i=i'∧off=off'
 | .sub id sz lo n, .sub id' sz' lo' n'=>r id'=some id∧sz=sz'∧lo=lo'∧n=n'
 | .own id n, .own id' n'=>r id'=some id∧n=n'
 | .own id n, .p (.lst sz n' f')=>∃ e m f,bx id=some (.arr e sz m f)∧n=n'∧n≤m∧(∀ i,i<n→∀ j,j<sz→PV.le (f i j) (f' i j))∧∀ id',bx' id'≠none→r id'≠some id
 | .ipt sz g off, .ipt sz' g' off'=>sz=sz'∧off=off'∧(g=g'∨∀ j,j<sz→PV.le (g j) (g' j))
 | _,_=>False
def LP (r:Nat→Option Nat) (bx bx':Nat→Option Bx):List CV→List CV→Prop
 | [],[]=>True
 | x :: l,y :: l'=>Gt r bx bx' x y∧LP r bx bx' l l'
 | _,_=>False
def leB (r:Nat→Option Nat) (bx bx':Nat→Option Bx):BV→BV→Prop
 | _, .c (.p .any)=>True
 | .c x, .c y=>Gt r bx bx' x y
 | .agg l, .agg l'=>LP r bx bx' l l'
 | _,_=>False
def Ck (r:Nat→Option Nat) (bx bx':Nat→Option Bx):SV→SV→Prop
 | _, .any=>True
 | .b x, .b y=>leB r bx bx' x y
 | x,y=>x=y∧∃ n,x.lt n∧∀ id,id<n→r id=some id
def QY (r:Nat→Option Nat) (bx bx':Nat→Option Bx):Bx→Bx→Prop
 | .fix l, .fix l'=>LP r bx bx' l l'
 | .arr e sz n f, .arr e' sz' n' f'=>e=e'∧sz=sz'∧n=n'∧(f=f'∨∀ i,i<n→∀ j,j<sz→PV.le (f i j) (f' i j))
 | _,_=>False
def iE (r:Nat→Option Nat) (bx bx':Nat→Option Bx) (i:Nat) (x:Bx):Prop :=
 match r i with
 | some k=>∃ y,bx k=some y∧QY r bx bx' y x
 | none=>∃ e s f,x = .arr e s 0 f∧0<s
structure Le (st st':St):Prop where
 ex:∃ r:Nat→Option Nat,r 0=some 0∧(0<st.nx→0<st'.nx)∧(∀ i j k,st'.bx i≠none→st'.bx j≠none→r i=some k→r j=some k→i=j) ∧
  (∀ s,Ck r st.bx st'.bx (st.fr s) (st'.fr s))∧(∀ i x,st'.bx i=some x→iE r st.bx st'.bx i x)∧(∀ s,Ck r st.bx st'.bx (st.kf s) (st'.kf s))
 wfs:∀ s,(st'.fr s).lt st'.nx
 wfb:∀ id b,st'.bx id=some b→id<st'.nx∧b.lt st'.nx
 wfk:∀ s,(st'.kf s).lt st'.nx
theorem gF {r:Nat→Option Nat} {ρ:iN} {i k:Nat} (h:r i=some k):uw r ρ i=ρ k:=by simp [uw,h]
theorem nB {r:Nat→Option Nat} {ρ:iN} {i:Nat} (h:r i=none):uw r ρ i = .slice none 0 0:=by simp [uw,h]
theorem Nc {r : Nat → Option Nat} {st st' : St} (g : Gam S E st ρ a w) (hsub : ∀ i k, st'.bx i ≠ none → r i = some k → st.bx k ≠ none) (hk : iM (cd E st.bx ρ w) (cd E st'.bx (uw r ρ) w) w w) {x y : CV} {u : Value} (h : Gt r st.bx st'.bx x y)
  (hx:cR ρ (cd E st.bx ρ w) w x u):cR (uw r ρ) (cd E st'.bx (uw r ρ) w) w y u:=by
 unfold Gt at h;split at h
 ·trivial
 ·rcases h with rfl|h
  ·exact bq.mono hk hx
  ·exact bq.mono hk (h _ _ _ hx)
 ·obtain ⟨rfl,rfl,hr⟩:=h;have hu:u = .slice none 0 0:=hx;exact ⟨none,0,0,nB hr,Nat.le_refl _,Nat.le_refl _,fun h=>absurd h (Nat.lt_irrefl 0),hu⟩
 ·grind [cR,uw,gF]
 ·rename_i f ps f' ps';obtain ⟨rfl,h2,h1⟩:=h;obtain ⟨vs,hu,hs,hc⟩:=hx;have hl:ps.length=ps'.length:=by have:=congrArg List.length h2;simpa using this
  refine ⟨vs,hu,hs.trans hl,fun j hj => ?_⟩;obtain ⟨b,o,e1,e2⟩:=hc j (by omega);have q1:r (ps'.getD j (0,0)).1=some (ps.getD j (0,0)).1:=by
   have:=congrArg (fun l=>l[j]?) h1;simpa [List.getD_eq_getElem?_getD,hj,hl ▸ hj] using this
  have q2:(ps'.getD j (0,0)).2=(ps.getD j (0,0)).2:=by
   have:=congrArg (fun l=>l[j]?) h2;have:=this.symm;simpa [List.getD_eq_getElem?_getD,hj,hl ▸ hj] using this
  grind [uw,gF]
 ·grind [cR,uw,gF]
 ·grind [cR,uw,gF]
 ·grind [cR,uw,gF]
 ·rename_i id n sz n' f';obtain ⟨e,m,f,hb,rfl,hnm,hle,hid⟩:=h;obtain ⟨A,m',c,hr,h1,h2,h3,hu⟩:=hx;obtain ⟨h0,xs,hown,hone,hd⟩:=g.bxs id _ hb;refine ⟨A,c,hu,by omega,fun hpos => ?_⟩;rcases hown.2 with ⟨e1,e2⟩|⟨gb,cap,cur,hv,_,hh,hnc,_,hcs,htk⟩
  ·omega
  ·rw [hr] at hv;simp only [Value.slice.injEq] at hv;obtain ⟨rfl,rfl,rfl⟩:=hv;have hgb:mW (ρ id)=some gb:=by rw [hr];rfl
   refine ⟨gb,0,rfl,⟨cm hh,fun hlt => ?_,fun i hi hbi => ?_⟩,fun i hi j hj => ?_⟩
   ·rcases (g.new id _ gb hb hgb).2 with h|⟨_,_,_,h,_⟩
    ·omega
    ·cases h
   ·cases hri:r i with
    | none=>grind [mW,uw,nB]
    | some k =>
     rw [gF hri] at hbi;exact hid i hi (by rw [hri,g.inj k id gb (hsub i k hi hri) (by grind) hbi hgb])
   ·have hlt:i * sz+j<m' * sz:=eE (by omega) hj;have hlt2:i * sz+j<cur.size:=by rw [hcs];exact Nat.lt_of_lt_of_le hlt (Nat.mul_le_mul_right _ hnc)
    have hlx:i * sz+j<xs.length:=by rw [hown.1];exact hlt
    have hxe:xs.getD (i * sz+j) undef=cur.getD (i * sz+j) undef:=by rw [← htk];simp [List.getElem?_take,hlt]
    refine ⟨cur.getD (i * sz+j) undef,by grind [cr], ?_, ?_⟩
    ·grind
    ·rw [← hxe];exact bq.mono hk (hle i hi j hj _ _ _ (hd i (by omega) j hj))
 ·rename_i sz gg off sz' gg' off';obtain ⟨rfl,rfl,hg⟩:=h;obtain ⟨b,o,hu,hok,hc⟩:=hx;refine ⟨b,o,hu,(hk b hok).1,fun j hj => ?_⟩;obtain ⟨x,hx,h1,hd⟩:=hc j hj;refine ⟨x,hx,h1,bq.mono hk ?_⟩;grind [PV.le,bq,cd]
 grind
theorem zh {r : Nat → Option Nat} {st st' : St} (g : Gam S E st ρ a w) (hsub : ∀ i k, st'.bx i ≠ none → r i = some k → st.bx k ≠ none) (hk : iM (cd E st.bx ρ w) (cd E st'.bx (uw r ρ) w) w w) :
  ∀ {l l':List CV},LP r st.bx st'.bx l l'→l.length=l'.length∧∀ {u:Nat→Value},(∀ j,cR ρ (cd E st.bx ρ w) w (l.getD j .any) (u j)) →
   ∀ j,cR (uw r ρ) (cd E st'.bx (uw r ρ) w) w (l'.getD j .any) (u j)
 | [],[],_=>⟨rfl,fun _ j=>by simp [cR,bq]⟩
 | x :: l,y :: l',⟨h1,h2⟩=>by
  obtain ⟨q1,q2⟩:=zh g hsub hk h2;refine ⟨by simp [q1],fun {u} hu j => ?_⟩;cases j with
  | zero=>grind [Nc]
  | succ j=>exact q2 (u:=fun k=>u (k+1)) (fun k=>hu (k+1)) j
theorem YE {r : Nat → Option Nat} {st st' : St} (g : Gam S E st ρ a w) (hsub : ∀ i k, st'.bx i ≠ none → r i = some k → st.bx k ≠ none) (hk : iM (cd E st.bx ρ w) (cd E st'.bx (uw r ρ) w) w w) {x y : BV} {u : Value}
  (h:leB r st.bx st'.bx x y) (hx:di ρ (cd E st.bx ρ w) w x u):di (uw r ρ) (cd E st'.bx (uw r ρ) w) w y u:=by
 unfold leB at h;split at h
 ·trivial
 ·exact Nc g hsub hk h hx
 ·obtain ⟨us,hu,hs,h1,hd⟩:=hx;obtain ⟨q1,q2⟩:=zh g hsub hk h;exact ⟨us,hu,by omega,h1,q2 hd⟩
 grind
theorem MK {r : Nat → Option Nat} {st st' : St} (g : Gam S E st ρ a w) (hsub : ∀ i k, st'.bx i ≠ none → r i = some k → st.bx k ≠ none) (hk : iM (cd E st.bx ρ w) (cd E st'.bx (uw r ρ) w) w w) {x y : SV} {u : Value}
  (h:Ck r st.bx st'.bx x y) (hx:bB ρ (cd E st.bx ρ w) w x u):bB (uw r ρ) (cd E st'.bx (uw r ρ) w) w y u:=by
 unfold Ck at h;grind [leB,bB,uw,YE,bB.mono,gF]
theorem a3M {st':St} (h:Le st st') (g:Gam S E st ρ a w):∃ ρ',Gam S E st' ρ' a w:=by
 obtain ⟨⟨r,hr0,hnx,hinj,hs,hb,hkf⟩,hwfs,hwfb,hwfk⟩:=h;have hsub:∀ i k,st'.bx i≠none→r i=some k→st.bx k≠none:=fun i k hi hr=>by
  cases hx:st'.bx i with
  | none=>grind
  | some x =>
   grind [iE]
 have hk:iM (cd E st.bx ρ w) (cd E st'.bx (uw r ρ) w) w w:=fun b ⟨h1,h2,h3⟩=>⟨⟨h1,h2,fun i hi=>by
  grind [mW,uw,nB,gF]⟩,fun _=>rfl⟩
 refine ⟨uw r ρ,g.dfr,g.sz,g.frm,hwfs,hwfb,fun i x hx => ?_,fun i x b hx hbl => ?_,fun i j b h1 h2 h3 h4 => ?_,fun b o l hrx => ?_,
  fun s=>MK g hsub hk (hs s) (g.slt s),fun gg n f hg => ?_,fun s=>⟨hwfk s,MK g hsub hk (hkf s) (g.kept s).2⟩⟩
 ·have hbi:=hb i x hx;unfold iE at hbi;cases hri:r i with
  | none =>
   rw [hri] at hbi;obtain ⟨e,s,f,rfl,hs0⟩:=hbi;rw [nB hri];exact ⟨hs0,[],⟨by simp, .inl ⟨rfl,rfl⟩⟩,by simp,fun i hi=>absurd hi (Nat.not_lt_zero _)⟩
  | some k =>
   rw [hri] at hbi;obtain ⟨y,hy,hle⟩:=hbi;have hd:=g.bxs k y hy;rw [gF hri];cases y with
   | fix l =>
    cases x with
    | fix l' =>
     obtain ⟨b,o,cells,t,hv,hh,hsz,h1,hdd⟩:=hd;obtain ⟨q1,q2⟩:=zh g hsub hk hle;exact ⟨b,o,cells,t,hv,hh,by omega,fun j hj=>h1 j (by omega),q2 hdd⟩
    | arr=>exact hle.elim
   | arr e sz n f =>
    cases x with
    | fix l'=>exact hle.elim
    | arr e' sz' n' f' =>
     obtain ⟨rfl,rfl,rfl,hf⟩:=hle;obtain ⟨h0,xs,hown,h1,hdd⟩:=hd;refine ⟨h0,xs,hown,h1,fun i' hi' j hj=>bq.mono hk ?_⟩;grind [PV.le,bq,cd,undef]
 ·have hbi:=hb i x hx;unfold iE at hbi;cases hri:r i with
  | none=>grind [mW,uw,nB]
  | some k =>
   rw [hri] at hbi;rw [gF hri] at hbl;obtain ⟨y,hy,hle⟩:=hbi;obtain ⟨h1,h2⟩:=g.new k y b hy hbl;refine ⟨h1, ?_⟩;rcases h2 with h2|⟨o,cs,e1,e2,e3⟩
   ·omega
   ·subst e2;cases x with
    | fix l' =>
     have:=(zh g hsub hk hle).1;grind [uw,gF]
    | arr=>exact hle.elim
 ·cases hri:r i with
  | none=>grind [mW,uw,nB]
  | some k =>
   cases hrj:r j with
   | none=>grind [mW,uw,nB]
   | some k' =>
    rw [gF hri] at h3;rw [gF hrj] at h4;have:=g.inj k k' b (hsub i k h1 hri) (hsub j k' h2 hrj) h3 h4;grind
 ·obtain ⟨h1,h2⟩:=g.rx0 b o l hrx;grind [uw,gF]
 ·obtain ⟨h1,h2⟩:=g.glb gg n f hg;refine ⟨(hk gg h1).1,fun j hj => ?_⟩;grind [bq,bq.mono]
def Wk (K:St→Prop) (st:St):Prop:=∃ st',Le st st'∧K st'
theorem Wk.nxt {K:St→Prop} (h:Wk K st) (g:Gam S E st ρ a w):nL S E K a w:=by
 obtain ⟨st',hle,hk⟩:=h;obtain ⟨ρ',g'⟩:=a3M hle g;exact ⟨st',ρ',g',hk⟩
inductive AExit where
 | normal
 | exit (id:Nat)
 | ret
def ku (n:St→Prop) (Q:AExit→St→Prop):AExit→St→Prop
 | .normal,st=>n st
 | e,st=>Q e st
def oQ (id:Nat) (Q:AExit→St→Prop):AExit→St→Prop
 | .exit id',st=>if id'=id then Q .normal st else Q (.exit id') st
 | e,st=>Q e st
def cw (S:Env):Code→(AExit→St→Prop)→St→Prop
 | .skip,Q,st=>Q .normal st
 | .region _ ops draw,Q,st=>if draw=true then iY S ops ops.size (Array.replicate ops.size false) st (Q .normal) else bj S ops ops.toList st (Q .normal)
 | .seq x y,Q,st=>cw S x (ku (fun st=>Wk (cw S y Q) st∨cw S y Q st) Q) st
 | .cond c x y,Q,st=>match st.ev S c with
  | .b (.c (.p (.val (.bool t))))=>(t=true→cw S x Q st)∧(t=false→cw S y Q st)
  | _=>False
 | .block id c,Q,st=>cw S c (oQ id Q) st
 | .loop c,Q,st=>∃ (I:Nat→St→Prop) (n:Nat),Wk (I n) st∧∀ n st,I n st→cw S c (ku (fun st'=>Wk (fun st2=>∃ n',n'<n∧I n' st2) st') Q) st
 | .exit id,Q,st=>Q (.exit id) st
 | .label _,Q,st=>Q .normal st
 | .ret,Q,st=>Q .ret st
 | _,_,_=>False
def cX (N:Nat):Code→Bool
 | .region _ ops _=>ops.toList.all (DP N)
 | .seq x y=>cX N x && cX N y
 | .cond _ x y=>cX N x && cX N y
 | .block _ c=>cX N c
 | .loop c=>cX N c
 | _=>true
def JQ (S:Env) (E:Ent) (Q:AExit→St→Prop):Exit→Act→World→Prop
 | .normal,a,w=>nL S E (Q .normal) a w
 | .exit id,a,w=>nL S E (Q (.exit id)) a w
 | .ret,a,w=>nL S E (Q .ret) a w
 | _,_,_=>False
theorem Gam.drew (g:Gam S E st ρ a w):Gam S E st ρ a { w with drawn:=w.drawn+1 }:=g.grow ⟨rfl,rfl,rfl,Nat.le_refl _,fun _ _=>rfl⟩
theorem fB (hm:S.P.follows .mixedOrders=true):∀ (c:Code) {Q:AExit→St→Prop} {st:St} {ρ:iN} {a:Act} {w:World},cX E.N c=true→cw S c Q st→Gam S E st ρ a w→c.wp S.P (JQ S E Q) a w
 | .skip,Q,st,ρ,a,w,_,h,g=>wp_skip ⟨st,ρ,g,h⟩
 | .label _,Q,st,ρ,a,w,_,h,g=>wp_label ⟨st,ρ,g,h⟩
 | .exit id,Q,st,ρ,a,w,_,h,g=>wp_exit ⟨st,ρ,g,h⟩
 | .ret,Q,st,ρ,a,w,_,h,g=>wp_ret ⟨st,ρ,g,h⟩
 | .region id ops draw,Q,st,ρ,a,w,hN,h,g=>by
  simp only [cw] at h;simp only [cX] at hN;cases draw with
  | true =>
   rw [if_pos rfl] at h;exact wp_region_any hm (qX hN (fun _ _ h=>h) _ _ h g.drew)
  | false =>
   rw [if_neg (by simp)] at h;refine wp_region ?_;have:=tT (Q:=JQ S E Q) hN (fun _ _ h=>h) ops.toList 0 (fun j=>by simp) h g;rw [List.range_eq_range'];omega
 | .seq x y,Q,st,ρ,a,w,hN,h,g=>by
  simp only [cX,Bool.and_eq_true] at hN;refine wp_seq (wp_mono (fB hm x hN.1 h g) fun e a w hq => ?_);cases e with
  | normal =>
   obtain ⟨st',ρ',g',hk⟩:=hq;rcases hk with hk|hk
   ·obtain ⟨st2,ρ2,g2,hk2⟩:=Wk.nxt hk g';exact fB hm y hN.2 hk2 g2
   ·exact fB hm y hN.2 hk g'
  | _=>exact hq
 | .cond c x y,Q,st,ρ,a,w,hN,h,g=>by
  simp only [cX,Bool.and_eq_true] at hN;simp only [cw] at h;split at h
  ·rename_i t ht;have hd:=(g.ev c).1;rw [ht] at hd;have hc:a.eval c = .bool t:=hd;cases t with
   | true=>exact wp_cond_true hc (fB hm x hN.1 (h.1 rfl) g)
   | false=>exact wp_cond_false hc (fB hm y hN.2 (h.2 rfl) g)
  grind
 | .block id c,Q,st,ρ,a,w,hN,h,g=>by
  refine wp_block (wp_mono (fB hm c hN h g) fun e a w hq => ?_);cases e with
  | exit id' =>
   obtain ⟨st',ρ',g',hk⟩:=hq;simp only [oQ] at hk;simp only [Exit.inBlock];split
   ·rename_i he;rw [if_pos he] at hk;exact ⟨st',ρ',g',hk⟩
   ·rename_i he;rw [if_neg he] at hk;exact ⟨st',ρ',g',hk⟩
  | _=>exact hq
 | .loop c,Q,st,ρ,a,w,hN,h,g=>by
  obtain ⟨I,n0,h0,hr⟩:=h;have key:∀ k n st ρ a w,n<k→I n st→Gam S E st ρ a w→Code.rounds S.P c (JQ S E Q) k a w:=by
   intro k
   induction k with
   | zero=>omega
   | succ k ih =>
    intro n st ρ a w hlt hI g;rw [rounds_succ];refine wp_mono (fB hm c hN (hr n st hI) g) fun e a w hq => ?_;cases e with
    | normal =>
     obtain ⟨st',ρ',g',hk⟩:=hq;obtain ⟨st2,ρ2,g2,n',hlt',hk1⟩:=Wk.nxt hk g';exact ih n' st2 ρ2 a w (by omega) hk1 g2
    | _=>exact hq
  obtain ⟨st2,ρ2,g2,h2⟩:=Wk.nxt h0 g;exact wp_loop_rounds (n0+1) (key _ n0 st2 ρ2 a w (Nat.lt_succ_self _) h2 g2)
 | .rangeFunc ..,Q,st,ρ,a,w,_,h,g=>h.elim
 | .scope _,Q,st,ρ,a,w,_,h,g=>h.elim
 | .goto _,Q,st,ρ,a,w,_,h,g=>h.elim
 | .refuse _,Q,st,ρ,a,w,_,h,g=>h.elim
end
end
section
section
variable {S:Env}
def ma:List (Nat × SV)→Nat→SV
 | [],_ => .any
 | (k,v) :: r,s=>if s=k then v else ma r s
def iP:List (Nat × Bx)→Nat→Option Bx
 | [],_=>none
 | (k,x) :: r,i=>if i=k then some x else iP r i
def mB:List BV→Nat→Nat→SV
 | [],_,_ => .any
 | x :: r,k,s=>if s=k then .b x else mB r (k+1) s
def zy (args:List BV):St := { fr:=mB args 0,bx:=fun _=>none,nx:=0 }
def st1 (cs:List PV) (args:List BV):St :=
 { fr:=fun s=>if s=0 then .b (.c (.ptr 0 0)) else mB args 1 s,bx:=fun i=>if i=0 then some (.fix (cs.map CV.p)) else none,nx:=1 }
def Wa (S:Env) (st:St):ResultVar→Option (Prop × BV)
 | .tmp t=>match st.fr t with
  | .b x=>some (True,LO st.bx x)
  | _=>none
 | .cell p t=>match fw S t st.bx (st.fr p) with
  | some (vc, .b x)=>some (vc,LO st.bx x)
  | _=>none
def wP (S:Env) (st:St):List ResultVar→Option (Prop × List BV)
 | []=>some (True,[])
 | r :: l=>match Wa S st r,wP S st l with
  | some (p,x),some (q,xs)=>some (p∧q,x :: xs)
  | _,_=>none
def FG (S:Env) (rs:List ResultVar) (R:SV→Prop) (st:St):Prop :=
 match wP S st rs with
 | some (p,[x])=>p∧x.lt 0∧R (.b x)
 | some (p,xs)=>p∧(∀ x ∈ xs,BV.lt 0 x)∧R (.tup xs)
 | none=>False
def YV (S:Env) (rs:List ResultVar) (R:SV→Prop):AExit→St→Prop
 | .ret,st=>FG S rs R st
 | .normal,st=>FG S rs R st
 | _,_=>False
def UF (S:Env) (rs:List ResultVar) (R:SV→List PV→Prop) (st:St):Prop :=
 ∃ ps:List PV,st.bx 0=some (.fix (ps.map CV.p))∧FG S rs (fun r=>R r ps) st
def a4G (S:Env) (rs:List ResultVar) (R:SV→List PV→Prop):AExit→St→Prop
 | .ret,st=>UF S rs R st
 | .normal,st=>UF S rs R st
 | _,_=>False
variable {E:Ent} {st:St} {ρ:iN} {a:Act} {w:World}
theorem sG {x : CV} {u : Value} {ok : Nat → Prop} (g : Gam S E st ρ a w) (hok : ∀ b, cd E st.bx ρ w b → ok b) (hnew : ∀ b, b < w.heap.size → E.w0.heap.size ≤ b → ok b)
  (h:cR ρ (cd E st.bx ρ w) w x u):cR ρ ok w (iV st.bx x) u:=by
 have hk:iM (cd E st.bx ρ w) ok w w:=fun b hb=>⟨hok b hb,fun _=>rfl⟩
 have gen:cR ρ ok w x u:=by
  cases x with
  | p x=>exact bq.mono hk h
  | ptr id off=>exact h
  | pel id sz i off=>exact h
  | own id n=>exact h
  | ipt sz g off=>exact cR.mono (nx:=0) hk (fun _ _=>rfl) trivial h
  | clo f ps=>exact h
  | sub id sz lo n=>exact h
 unfold iV;split
 ·rename_i id n;split
  ·rename_i e sz n' f hb;split
   ·rename_i hn;obtain ⟨A,m,c,hr,h1,h2,h3,hu⟩:=h;obtain ⟨h0,xs,hown,hone,hd⟩:=g.bxs id _ hb;refine ⟨A,c,hu,by omega,fun hpos => ?_⟩;rcases hown.2 with ⟨e1,e2⟩|⟨gb,cap,cur,hv,_,hh,hnc,_,hcs,htk⟩
    ·omega
    ·rw [hr] at hv;simp only [Value.slice.injEq] at hv;obtain ⟨rfl,rfl,rfl⟩:=hv;have hgb:mW (ρ id)=some gb:=by rw [hr];rfl
     have hge:E.w0.heap.size≤gb:=by
      rcases (g.new id _ gb hb hgb).2 with h|⟨_,_,_,h,_⟩
      ·exact h
      ·cases h
     refine ⟨gb,0,rfl,hnew gb (cm hh) hge,fun i hi j hj => ?_⟩;have hlt:i * sz+j<m * sz:=eE (by omega) hj;have hlt2:i * sz+j<cur.size:=by rw [hcs];exact Nat.lt_of_lt_of_le hlt (Nat.mul_le_mul_right _ hnc)
     have hlx:i * sz+j<xs.length:=by rw [hown.1];exact hlt
     have hxe:xs.getD (i * sz+j) undef=cur.getD (i * sz+j) undef:=by rw [← htk];simp [List.getElem?_take,hlt]
     grind [bq,undef,cr,bq.mono]
   omega
  omega
 omega
theorem Dx {x : BV} {u : Value} {ok : Nat → Prop} (g : Gam S E st ρ a w) (hok : ∀ b, cd E st.bx ρ w b → ok b) (hnew : ∀ b, b < w.heap.size → E.w0.heap.size ≤ b → ok b)
  (h:di ρ (cd E st.bx ρ w) w x u):di ρ ok w (LO st.bx x) u:=by
 cases x with
 | c x=>exact sG g hok hnew h
 | agg cs =>
  obtain ⟨us,rfl,hs,h1,hd⟩:=h;refine ⟨us,rfl,by simp [hs],h1,fun j => ?_⟩;by_cases hj:j<cs.length
  ·grind [iV,sG]
  ·rw [List.getD_eq_getElem?_getD,List.getElem?_eq_none (by simp;omega)];trivial
def tG (tmps:Array Value):ResultVar→Sem Value
 | .tmp t=>pure (tmps.getD t undef)
 | .cell a t=>do loadVar t (← asAddr (tmps.getD a undef))
def xx (P:Program) (tmps:Array Value) (w:World) (r:ResultVar) (v:Value):Prop:=(tG tmps r).run P w = .ok v w
theorem Sv {r : ResultVar} {p : Prop} {x : BV} {ok : Nat → Prop} (h : Wa S st r = some (p, x)) (hp : p) (g : Gam S E st ρ a w) (hok : ∀ b, cd E st.bx ρ w b → ok b)
  (hnew:∀ b,b<w.heap.size→E.w0.heap.size≤b→ok b):∃ v,xx S.P a.tmps w r v∧di ρ ok w x v:=by
 unfold Wa at h;split at h
 ·rename_i t;have hs:=g.slt t;split at h
  ·rename_i y hy;rw [hy] at hs;simp only [Option.some.injEq,Prod.mk.injEq] at h;obtain ⟨_,rfl⟩:=h;exact ⟨_,rfl,Dx g hok hnew hs⟩
  grind
 ·rename_i q t;split at h
  ·rename_i vc y hl;simp only [Option.some.injEq,Prod.mk.injEq] at h;obtain ⟨rfl,rfl⟩:=h;obtain ⟨v,hr,hv,_⟩:=AM hl hp g (g.slt q);refine ⟨v, ?_,Dx g hok hnew hv⟩;unfold xx tG;simp only [Instr.loadAt,Sem.run_bind] at hr ⊢;cases hq:a.tmps.getD q undef <;> simp only [hq,Instr.sureAddr,run_stuck,Result.andThen_halt,reduceCtorEq] at hr
   rename_i ad;cases ad with
   | none=>simp_all
   | some ad=>grind [asAddr]
  grind
theorem ub {ok : Nat → Prop} (g : Gam S E st ρ a w) (hok : ∀ b, cd E st.bx ρ w b → ok b) (hnew : ∀ b, b < w.heap.size → E.w0.heap.size ≤ b → ok b) : ∀ {rs : List ResultVar} {p : Prop} {xs : List BV},
  wP S st rs=some (p,xs)→p→∃ vs:List Value,(rs.mapM (tG a.tmps)).run S.P w = .ok vs w∧vs.length=xs.length∧∀ j,di ρ ok w (xs.getD j .any) (vs.getD j undef)
 | [],p,xs,h,_=>by
  simp only [wP,Option.some.injEq,Prod.mk.injEq] at h;obtain ⟨_,rfl⟩:=h;exact ⟨[],by simp,rfl,fun j=>by simp [di,cR,bq]⟩
 | r :: rs,p,xs,h,hp=>by
  simp only [wP] at h;split at h
  ·rename_i p1 x1 p2 xs2 h1 h2;simp only [Option.some.injEq,Prod.mk.injEq] at h;obtain ⟨rfl,rfl⟩:=h;obtain ⟨v,hv,hd⟩:=Sv h1 hp.1 g hok hnew;obtain ⟨vs,hvs,hl,hds⟩:=ub g hok hnew h2 hp.2;refine ⟨v :: vs, ?_,by simp [hl],fun j => ?_⟩
   ·unfold xx at hv;simp_all
   ·cases j with
    | zero=>exact hd
    | succ j=>exact hds j
  grind
theorem lR {fn : Func} {vs : List Value} (h : (fn.results.toList.mapM (tG a.tmps)).run S.P w = .ok vs w) :
  (results fn a.tmps).run S.P w = .ok (match vs with|[v]=>v|_ => .tuple vs.toArray) w:=by
 have e : results fn a.tmps = (do
   let vs ← fn.results.mapM (tG a.tmps)
   pure (if h:vs.size=1 then vs[0] else .tuple vs)):=by
  unfold results;congr 2
 rw [e,Sem.run_bind,Array.mapM_eq_mapM_toList];simp only [Sem.run_map,h,Result.andThen_ok,Sem.run_pure]
 match vs with
 | []=>rfl
 | [v]=>rfl
 | _ :: _ :: _=>rfl
theorem Yz {rs : List ResultVar} {R : SV → Prop} {fn : Func} {ok : Nat → Prop} (hrs : fn.results.toList = rs) (h : FG S rs R st) (g : Gam S E st ρ a w) (hok : ∀ b, cd E st.bx ρ w b → ok b)
  (hnew:∀ b,b<w.heap.size→E.w0.heap.size≤b→ok b):∃ v r,(results fn a.tmps).run S.P w = .ok v w∧R r∧SV.lt 0 r∧bB dd ok w r v:=by
 unfold FG at h;have dn:∀ {x:BV} {u:Value},x.lt 0→di ρ ok w x u→di dd ok w x u:=fun hl hd=>gO hl hd;split at h
 ·rename_i p x hr;obtain ⟨hp,hl,hR⟩:=h;obtain ⟨vs,hvs,hlen,hd⟩:=ub g hok hnew hr hp
  match vs,hlen with
  | [v],_=>exact ⟨v, .b x,lR (by rw [hrs];exact hvs),hR,hl,dn hl (hd 0)⟩
 ·rename_i p xs hne hr;obtain ⟨hp,hl,hR⟩:=h;obtain ⟨vs,hvs,hlen,hd⟩:=ub g hok hnew hr hp;refine ⟨.tuple vs.toArray, .tup xs, ?_,hR,hl,vs.toArray,rfl,by omega,fun j => ?_⟩
  ·rw [lR (by rw [hrs];exact hvs)]
   match vs,hlen with
   | [],_=>rfl
   | [v],hlen =>
    match xs,hlen with
    | [x],_=>grind
   | _ :: _ :: _,_=>rfl
  ·by_cases hj:j<xs.length
   ·have e:vs.toArray.getD j undef=vs.getD j undef:=by simp [List.getD_eq_getElem?_getD]
    grind
   ·rw [List.getD_eq_getElem?_getD,List.getElem?_eq_none (by omega)];trivial
 grind
theorem cN:∀ (args:List BV) (k s:Nat),mB args k s=if k≤s∧s<k+args.length then .b (args.getD (s - k) .any) else .any
 | [],k,s=>by
  rw [if_neg (by grind)];rfl
 | x :: r,k,s=>by
  simp only [mB,List.length_cons];by_cases h:s=k
  ·grind
  ·rw [if_neg h,cN r (k+1) s];grind
theorem VG {f : FuncId} {fn : Func} {c : Code} {rs : List ResultVar} {args : List BV} {R : SV → Prop} (hf : S.P.funcs[f]? = some fn) (hb : fn.body = some c) (hrs : fn.results.toList = rs) (hname : (fn.name == "runtime.NumGoroutine") = false)
  (hm:S.P.follows .mixedOrders=true) (hN:cX fn.ntmps c=true) (hlen:args.length≤fn.ntmps) (hl:∀ x ∈ args,BV.lt 0 x) (h:cw S c (YV S rs R) (zy args)):aB S f args R:=by
 subst hrs;refine ⟨⟨fn,hf,hname,by grind⟩,fun ok w vs hok hgl hsz hden => ?_⟩;refine calls_of_wp hf hb ?_
 let E:Ent := { w0:=w,ok0:=ok,rx:=none,N:=fn.ntmps }
 have hokA:∀ b,ok b→cd E (fun _=>none) dd w b:=fun b hb=>⟨hok b hb,fun _=>hb,fun _ h=>absurd rfl h⟩
 have hk:iM ok (cd E (fun _=>none) dd w) w w:=fun b hb=>⟨hokA b hb,fun _=>rfl⟩
 have g:Gam S E (zy args) dd { tmps:=vs ++ Array.replicate (fn.ntmps - vs.size) undef,defers:=[] } w:=by
  refine ⟨⟨rfl,Nat.zero_le _,fun _ _ h=>(by cases h)⟩,by grind,⟨rfl,rfl,rfl,Nat.le_refl _,fun _ _ _=>rfl,fun _ _ _ h=>(by cases h)⟩,fun s => ?_,fun _ _ h=>(by cases h),fun _ _ h=>(by cases h),fun _ _ _ h=>(by cases h),fun _ _ _ h=>absurd rfl h,
   fun _ _ _ h=>(by cases h),fun s => ?_,fun gg n f hg => ?_,fun s=>⟨trivial,trivial⟩⟩
  ·simp only [zy,cN];split
   ·rename_i hs;refine hl _ ?_;grind
   ·trivial
  ·simp only [zy,cN];split
   ·rename_i hs;have e:(vs ++ Array.replicate (fn.ntmps - vs.size) undef).getD s undef=vs.getD s undef:=by
     have:s<vs.size:=by omega
     simp [this];rw [Array.getElem?_append_left this];simp [this]
    rw [e];exact di.mono (nx:=0) hk (fun _ _=>rfl) (hl _ (by grind)) (hden (s - 0))
   ·trivial
  ·obtain ⟨h1,h2⟩:=hgl gg n f hg;refine ⟨hokA gg h1,fun j hj => ?_⟩;obtain ⟨x,hx,h3,hd⟩:=h2 j hj;exact ⟨x,hx,h3,bq.mono hk hd⟩
 have fin : ∀ {a' : Act} {w' : World}, nL S E (FG S fn.results.toList R) a' w' → a'.defers = [] ∧ ∃ v, (results fn a'.tmps).run S.P w' = .ok v w' ∧
   ∃ v2 r,Ending.returned v = .returned v2∧R r∧SV.lt 0 r∧RowKit.Below w.heap.size w w'∧bB dd (RK ok w w') w' r v2:=fun {a' w'} ⟨st',ρ',g',hq⟩=>by
  obtain ⟨v,r,h1,h2,h3,h4⟩:=Yz (ok:=RK ok w w') rfl hq g' (fun b hb=>⟨hb.1,hb.2.1⟩) (fun b h1 h2=>⟨h1,fun h3=>by grind⟩);exact ⟨g'.dfr.1,v,h1,v,r,rfl,h2,h3,⟨g'.frm.os,g'.frm.tape,g'.frm.output,g'.frm.size,fun k hk=>g'.frm.block k hk (fun _ _ h=>by cases h)⟩,h4⟩
 refine wp_mono (fB hm c hN h g) fun e a' w' hq => ?_;cases e with
 | normal=>exact fin hq
 | ret=>exact fin hq
 | exit id=>obtain ⟨_,_,_,h⟩:=hq;exact h.elim
 | _=>exact hq.elim
end
end
section
section
variable {S:Env}
theorem CallP.mono {st:St} {f:FuncId} {args:List BV} {K K':SV→St→Prop} (hK:∀ r s,K r s→K' r s) (h:CallP S st f args K):CallP S st f args K':=by
 cases h with
 | pure args' X h ha hl hk=>exact .pure args' X h ha hl (hK _ _ hk)
 | lend args' X h ha hl hf hk hp=>exact .lend args' X h ha hl hf (hK _ _ hk) hp
 | recv id off cs0 cs rest args' X Y h he hb hoff hcs ha hl hr hy hk=>exact .recv id off cs0 cs rest args' X Y h he hb hoff hcs ha hl hr hy (hK _ _ hk)
 | recvEl id sz i e n g cs rest args' X Y h he hb hi hsz hcs ha hl hr hy hk=>exact .recvEl id sz i e n g cs rest args' X Y h he hb hi hsz hcs ha hl hr hy (hK _ _ hk)
 | inl X bx' nx' h hr hw hk hn=>exact .inl X bx' nx' h hr hw (hK _ _ hk) hn
 | own args' e sz n g h ha hl hr hk=>exact .own args' e sz n g h ha hl hr (hK _ _ hk)
 | ext args' X h ha hl hk=>exact .ext args' X h ha hl (hK _ _ hk)
theorem BE {st:St} {ev:Operand→SV} {op:Op} {K K':SV→St→Prop} (hK:∀ r s,K r s→K' r s) (h:fp S st ev op K):fp S st ev op K':=by
 cases op with
 | build t parts =>
  grind [fp]
 | alloc t =>
  grind [fp]
 | box t x =>
  grind [fp]
 | buildSlice t len parts =>
  simp only [fp] at *
  split at h
  ·grind
  omega
 | store t p x =>
  grind [fp]
 | makeSlice t l c =>
  grind [fp]
 | call c =>
  simp only [fp] at *
  split at h
  ·split at h
   ·grind
   omega
  ·grind
  ·exact h.mono hK
  ·grind [CallP.mono]
  omega
 | _=>exact h
theorem IK {st:St} {o:Oper} {K K':St→Prop} (hK:∀ s,K s→K' s) (h:lO S st o K):lO S st o K':=by grind [lO,fp,BE]
theorem sB {ops:Array Oper} {st:St} {o:Oper} {K K':St→Prop} (hK:∀ s,K s→K' s) (h:gh S ops st o K):gh S ops st o K':=by
 unfold gh at *
 split at h
 ·exact IK hK h
 ·split at h
  ·grind [lO,IK]
  omega
theorem CX {ops:Array Oper} {K K':St→Prop} (hK:∀ s,K s→K' s):∀ {l:List Oper} {st:St},bj S ops l st K→bj S ops l st K'
 | [],_,h=>hK _ h
 | _ :: _,_,h=>sB (fun _ hk=>CX hK hk) h
theorem wX {ops:Array Oper} {K K':St→Prop} (hK:∀ s,K s→K' s):∀ {n:Nat} {listed:Array Bool} {st:St},iY S ops n listed st K→iY S ops n listed st K'
 | 0,_,_,h=>⟨h.1,hK _ h.2⟩
 | n+1,listed,st,h=>by
  refine ⟨fun hr=>hK _ (h.1 hr),fun i hi => ?_⟩;have:=h.2 i hi;split at this
  ·exact sB (fun _ hk=>wX hK hk) this
  ·exact wX hK this
theorem Wk.mono {K K':St→Prop} {st:St} (hK:∀ s,K s→K' s) (h:Wk K st):Wk K' st:=let ⟨s,hl,hk⟩:=h; ⟨s,hl,hK _ hk⟩
theorem pS {n n':St→Prop} {Q Q':AExit→St→Prop} (hn:∀ s,n s→n' s) (hq:∀ e s,Q e s→Q' e s):∀ e s,ku n Q e s→ku n' Q' e s
 | .normal,s,h=>hn s h
 | .exit _,s,h=>hq _ s h
 | .ret,s,h=>hq _ s h
theorem fJ:∀ (c:Code) {Q Q':AExit→St→Prop} {st:St},(∀ e s,Q e s→Q' e s)→cw S c Q st→cw S c Q' st
 | .skip,_,_,_,hq,h=>hq _ _ h
 | .label _,_,_,_,hq,h=>hq _ _ h
 | .exit _,_,_,_,hq,h=>hq _ _ h
 | .ret,_,_,_,hq,h=>hq _ _ h
 | .region _ ops draw,_,_,_,hq,h=>by grind [cw,iY,bj,CX,wX]
 | .seq x y,_,_,_,hq,h=>fJ x (pS (fun _ hs=>hs.imp (Wk.mono fun _=>fJ y hq) (fJ y hq)) hq) h
 | .cond c x y,_,_,_,hq,h=>by
  simp only [cw] at *
  split at h
  ·exact ⟨fun ht=>fJ x hq (h.1 ht),fun ht=>fJ y hq (h.2 ht)⟩
  omega
 | .block id c, _, _, _, hq, h => fJ c (fun e s hs => by
   cases e with
   | exit id' =>
    grind [oQ]
   | _=>exact hq _ _ hs) h
 | .loop c,_,_,_,hq,h=>by
  obtain ⟨I,n,h0,hr⟩:=h;exact ⟨I,n,h0,fun n s hI=>fJ c (pS (fun _ hs=>hs) hq) (hr n s hI)⟩
 | .rangeFunc ..,_,_,_,_,h=>h
 | .scope _,_,_,_,_,h=>h
 | .goto _,_,_,_,_,h=>h
 | .refuse _,_,_,_,_,h=>h
variable {st:St} {Q:AExit→St→Prop}
theorem zB {x y:Code} (h:cw S x (ku (cw S y Q) Q) st):cw S (.seq x y) Q st:=fJ x (pS (fun _ hs => .inr hs) (fun _ _ h=>h)) h
theorem Se {x y:Code} (M:St→Prop) (h:cw S x (ku (Wk M) Q) st) (h2:∀ s,M s→cw S y Q s):cw S (.seq x y) Q st :=
 fJ x (pS (fun _ hs => .inl (hs.mono h2)) (fun _ _ h=>h)) h
theorem MN (h:Q .normal st):cw S .skip Q st:=h
theorem ss (h:Q .ret st):cw S .ret Q st:=h
theorem Yg {id:Nat} (h:Q (.exit id) st):cw S (.exit id) Q st:=h
theorem wj {id:Nat} {c:Code} (h:cw S c (oQ id Q) st):cw S (.block id c) Q st:=h
theorem xv {id:Nat} {l:List Oper} (h:bj S l.toArray l st (Q .normal)):cw S (.region id l.toArray false) Q st:=by grind [cw]
theorem qG {c:Operand} {x y:Code} {t:Bool} (hc:st.ev S c = .t t) (h1:t=true→cw S x Q st) (h2:t=false→cw S y Q st):cw S (.cond c x y) Q st:=by grind [cw]
theorem aK {X : Type} {c : Code} (F : X → St) (I : X → Prop) (m : X → Nat) (x0 : X) (h0 : I x0) (hle : Le st (F x0))
  (hr:∀ x,I x→cw S c (ku (Wk fun s=>∃ x',s=F x'∧I x'∧m x'<m x) Q) (F x)):cw S (.loop c) Q st:=by
 refine ⟨fun n s=>∃ x,s=F x∧I x∧m x=n,m x0,⟨F x0,hle,x0,rfl,h0,rfl⟩,fun n s hs => ?_⟩;grind
end
end
end Go.SL
