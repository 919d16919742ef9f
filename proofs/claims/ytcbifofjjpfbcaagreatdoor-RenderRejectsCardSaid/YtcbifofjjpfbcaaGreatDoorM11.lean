/- Part of the proof: F17, FM, FL, FO, D4, T5, D3. -/
import Derived.Test.YtcbifofjjpfbcaaGreatDoorM10
set_option linter.unusedSimpArgs false
set_option linter.unusedVariables false
set_option maxHeartbeats 4000000
set_option maxRecDepth 16000
namespace Go.Proofs.YtcbifofjjpfbcaaGreatDoor
open Go Go.SL
open Go.RowKit (wrap64)
def dT (l:List Op) (o:Op):List Op:=if o.kind=2 then l ++ [o] else if o.kind=3 then l.dropLast else l
def gI (b:Int) (n:Nat):Nat→List Op→List Op→Int × Int
 | i,[],l=>if 0<l.length then (18,i) else (0,0)
 | i,o :: r,l=>if gA b n o l=0 then gI b n (i+1) r (dT l o) else (gA b n o l,i)
def kt (s:Script):Int × Int:=if bL s=0 then gI s.bits s.images.length 0 s.ops [] else (bL s,0)
theorem mU {b : Int} {n : Nat} {ops : List Op} {i : Nat} {l : List Op} (hi : i < ops.length) : gI b n i (ops.drop i) l =
  if gA b n (ops.getD i default) l=0 then gI b n (i+1) (ops.drop (i+1)) (dT l (ops.getD i default)) else (gA b n (ops.getD i default) l,(i:Int)):=by
 rw [List.drop_eq_getElem_cons hi,List.getD_eq_getElem?_getD,List.getElem?_eq_getElem hi];rfl
theorem sx {s:Script} (h:bL s=0):s.images.length≤64∧s.ops.length≤4096:=by
 unfold bL at h;split at h
 ·cases h
 split at h
 ·cases h
 split at h
 ·cases h
 split at h
 ·cases h
 split at h
 ·cases h
 ·omega
theorem zr {l:List Op} {g:Nat→Nat→PV} (hg:∀ k,k<l.length→∀ j,j<12→g k j=bK fZ l k j):BV.le (.c (.p (.lst 12 l.length g))) (.c (.p (yU l))) :=
 oG (gX hg)
theorem yw {l : List Op} {o : Op} {g f : Nat → Nat → PV} (hg : ∀ k, k < l.length → ∀ j, j < 12 → g k j = bK fZ l k j) (hf : ∀ j, j < 12 → f 0 j = (fZ o).getD j .any) :
  ∀ i,i<(l ++ [o]).length→∀ j,j<12→PV.le (gY l.length g f i j) (bK fZ (l ++ [o]) i j):=fun i hi j hj=>by
 rw [List.length_append] at hi;have:=cL (enc:=fZ) (xs:=l) (x:=o) (s:=12) (g:=f) hf i hi j hj;unfold gY at this ⊢;by_cases h:i<l.length
 ·rw [if_pos h] at this ⊢;rw [hg i h j hj];exact this
 ·rw [if_neg h] at this ⊢;exact this
theorem BO {l:List Op} {g:Nat→Nat→PV} (hg:∀ k,k<l.length→∀ j,j<12→g k j=bK fZ l k j):∀ k,k<l.dropLast.length→∀ j,j<12→g k j=bK fZ l.dropLast k j:=fun k hk j hj=>by
 rw [List.length_dropLast] at hk;rw [hg k (by omega) j hj];have e:l.dropLast.getD k default=l.getD k default:=by rw [List.getD_eq_getElem?_getD,List.getD_eq_getElem?_getD,List.getElem?_dropLast,if_pos hk]
 unfold bK;rw [e]
theorem yP {b:Int} {n:Nat} {o:Op} {l:List Op} (h:gA b n o l=0) (hk:o.kind=3):0<l.length:=by
 unfold gA at h;rw [if_neg (by omega)] at h;split at h
 ·cases h
 split at h
 ·cases h
 ·omega
theorem yX (s:Script) (hs:ScriptLen s):aA Sg 70 [ag (aF s)] (fun x=>x = .tup [I (kt s).1,I (kt s).2]):=by
 have hf:=wO s hs;obtain ⟨h1,h2,h3⟩:=id hs;refine aD Tryz.func70 [.tmp 2, .tmp 3] ?_
 repeat' (first|refine ax ?_|refine an (fun K hK => ?_)|refine aa (hf) ?_|(refine aK (fun hb => ?_) (fun hb => ?_) <;> try exact aE)|(refine aq hK ?_;try clear hK K))
 ·rw [kt,if_neg hb]
 have hfo:=sx hb;rw [kt,if_pos hb];clear hf
 refine aH (X:=Nat × List Op × Nat × (Nat→Nat→PV)) (fun x=>aT [(1, .b (.c (.ptr 0 0))),(5, .b (.c (.own 1 x.2.1.length))),(15, .b (.c (.p (yU s.ops)))),(16, .b (I s.ops.length)),(17, .b (I x.1))]
  [(0, .fix ((aF s).map CV.p)),(1, .arr 74 12 x.2.2.1 x.2.2.2)] 2) (fun x=>x.1≤s.ops.length∧x.2.1.length≤x.1∧x.2.1.length≤x.2.2.1∧(∀ k,k<x.2.1.length→∀ j,j<12→x.2.2.2 k j=bK fZ x.2.1 k j) ∧
   gI s.bits s.images.length x.1 (s.ops.drop x.1) x.2.1=gI s.bits s.images.length 0 s.ops []) (fun x=>s.ops.length - x.1) (0,[],0,fun _ _ => .any) ?_ ?_ ?_
 ·exact ⟨by omega,Nat.le_refl _,Nat.le_refl _,fun k hk=>by simp at hk,rfl⟩
 ·refine au [(1,none)] ?_ ?_;and_intros;all_goals try exact aj
 ·rintro ⟨i,l,m,g⟩ ⟨hi,hl,hm,hg,hgo⟩;dsimp only at hi hl hm hg hgo ⊢;have hv:=Lw s i l hs (by omega);have he:i<s.ops.length→iv s i l=gA s.bits s.images.length (s.ops.getD i default) l:=fun h=>by rw [iv,if_neg (by omega),Int.toNat_natCast]
  have hpop:i<s.ops.length→iv s i l=0→(s.ops.getD (i:Int).toNat default).kind=3→0<l.length:=fun h1 h2 h3=>by
   rw [he h1] at h2;exact yP h2 h3
  repeat' (first|refine ax ?_|refine an (fun K hK => ?_)|(refine aK (fun hb => ?_) (fun hb => ?_) <;> try exact aE)|(refine aq hK ?_;try clear hK K))
  ·refine gF ?_ ?_ bG ?_ (hv);try simp (maxSteps:=999999)(disch:=omega) only [go_sem]
   try (refine hK _ ?_;clear hK K)
   ·repeat' (first|refine aC ?_|((first|apply bn|apply ba);(case hf=>rfl);(case hc=>exact bM);all_goals try (intro hb;try simp only [gL] at hb))|exact aG|(refine aK (fun hb => ?_) (fun hb => ?_) <;> try exact aE))
    ·rw [he (by omega)] at hb ⊢;rw [← hgo,mU (by omega),if_neg hb]
    ·have hn:∀ l',dT l (s.ops.getD i default)=l'→gI s.bits s.images.length (i+1) (s.ops.drop (i+1)) l'=gI s.bits s.images.length 0 s.ops []:=by
      rintro l' rfl;have q:=mU (b:=s.bits) (n:=s.images.length) (l:=l) (show i<s.ops.length by omega);rw [if_pos (by rw [← he (by omega)];exact hb)] at q;rw [← q,hgo]
     rw [ae];simp only [Int.toNat_natCast] at hpop ⊢;by_cases hk2:(s.ops.getD i default).kind=2
     ·have e2:((s.ops.getD i default).kind == 2)=true:=by rw [hk2];rfl
      simp only [e2,St.ite_t];refine ak (i+1,l ++ [s.ops.getD i default],l.length+1,bK fZ (l ++ [s.ops.getD i default])) ?_ ⟨by omega,by simp;omega,by simp,fun _ _ _ _=>rfl,hn _ (by rw [dT,if_pos hk2])⟩ (by dsimp only;omega);refine au [(1,some 4)] ?_ ?_;and_intros;all_goals try exact aj
      ·simp
      ·refine .inr fun a ha j hj=>yw hg (fun j hj => ?_) a (by simpa using ha) j hj;have hivl:j=0∨j=1∨j=2∨j=3∨j=4∨j=5∨j=6∨j=7∨j=8∨j=9∨j=10∨j=11:=by omega
       rcases hivl with rfl|rfl|rfl|rfl|rfl|rfl|rfl|rfl|rfl|rfl|rfl|rfl <;> rfl
     ·have e2:((s.ops.getD i default).kind == 2)=false:=by simpa using hk2
      simp only [e2,St.ite_f];by_cases hk3:(s.ops.getD i default).kind=3
      ·have e3:((s.ops.getD i default).kind == 3)=true:=by rw [hk3];rfl
       simp only [e3,St.ite_t];have hp:=hpop (by omega) hb hk3;refine ak (i+1,l.dropLast,m,g) ?_ ⟨by omega,by rw [List.length_dropLast];dsimp only;omega,by rw [List.length_dropLast];dsimp only;omega,BO hg,hn _ (by rw [dT,if_neg hk2,if_pos hk3])⟩ (by dsimp only;omega);refine au [(1,some 1)] ?_ ?_;and_intros;all_goals try exact aj
       rw [List.length_dropLast];omega
      ·have e3:((s.ops.getD i default).kind == 3)=false:=by simpa using hk3
       simp only [e3,St.ite_f];refine ak (i+1,l,m,g) ?_ ⟨by omega,by dsimp only;omega,hm,hg,hn _ (by rw [dT,if_neg hk2,if_neg hk3])⟩ (by dsimp only;omega);refine au [(1,some 1)] ?_ ?_;and_intros;all_goals try exact aj
   ·simp (maxSteps:=1000000) (disch:=omega) only [go_sem,fA,fN];rw [if_pos hm];exact ⟨mD,mD,zr hg⟩
   ·trivial
  ·have hi2:i=s.ops.length:=by omega
   (try rw [kt,if_pos (by assumption)]);rw [← hgo,hi2,List.drop_length,gI,if_pos (by omega)]
  ·have hi2:i=s.ops.length:=by omega
   (try rw [kt,if_pos (by assumption)]);rw [← hgo,hi2,List.drop_length,gI,if_neg (by omega)]
theorem mc (s:Script) (hs:ScriptLen s):aA Sg 65 [ag (aF s)] (fun x=>x = .tup [I (kt s).1,I (kt s).2]):=by
 have hf:=mh s hs;obtain ⟨h1,h2,h3⟩:=id hs;refine aD Tryz.func65 [.tmp 2, .tmp 3] ?_
 repeat' (first|refine ax ?_|refine an (fun K hK => ?_)|refine aa (hf) ?_|(refine aK (fun hb => ?_) (fun hb => ?_) <;> try exact aE)|(refine aq hK ?_;try clear hK K))
 ·rw [kt,if_neg hb]
 have hfo:=sx hb;rw [kt,if_pos hb];clear hf
 refine aH (X:=Nat × List Op × Nat × (Nat→Nat→PV)) (fun x=>aT [(1, .b (.c (.ptr 0 0))),(5, .b (.c (.own 1 x.2.1.length))),(6, .b (I x.1))]
  [(0, .fix ((aF s).map CV.p)),(1, .arr 74 12 x.2.2.1 x.2.2.2)] 2) (fun x=>x.1≤s.ops.length∧x.2.1.length≤x.1∧x.2.1.length≤x.2.2.1∧(∀ k,k<x.2.1.length→∀ j,j<12→x.2.2.2 k j=bK fZ x.2.1 k j) ∧
   gI s.bits s.images.length x.1 (s.ops.drop x.1) x.2.1=gI s.bits s.images.length 0 s.ops []) (fun x=>s.ops.length - x.1) (0,[],0,fun _ _ => .any) ?_ ?_ ?_
 ·exact ⟨by omega,Nat.le_refl _,Nat.le_refl _,fun k hk=>by simp at hk,rfl⟩
 ·refine au [(1,none)] ?_ ?_;and_intros;all_goals try exact aj
 ·rintro ⟨i,l,m,g⟩ ⟨hi,hl,hm,hg,hgo⟩;dsimp only at hi hl hm hg hgo ⊢;have hv:=Av s i l hs (by omega);have he:i<s.ops.length→iv s i l=gA s.bits s.images.length (s.ops.getD i default) l:=fun h=>by rw [iv,if_neg (by omega),Int.toNat_natCast]
  have hpop:i<s.ops.length→iv s i l=0→(s.ops.getD (i:Int).toNat default).kind=3→0<l.length:=fun h1 h2 h3=>by
   rw [he h1] at h2;exact yP h2 h3
  repeat' (first|refine ax ?_|refine an (fun K hK => ?_)|(refine aK (fun hb => ?_) (fun hb => ?_) <;> try exact aE)|(refine aq hK ?_;try clear hK K))
  ·refine gF ?_ ?_ bG ?_ (hv);try simp (maxSteps:=999999)(disch:=omega) only [go_sem]
   try (refine hK _ ?_;clear hK K)
   ·repeat' (first|refine aC ?_|((first|apply bn|apply ba);(case hf=>rfl);(case hc=>exact bM);all_goals try (intro hb;try simp only [gL] at hb))|exact aG|(refine aK (fun hb => ?_) (fun hb => ?_) <;> try exact aE))
    ·rw [he (by omega)] at hb ⊢;rw [← hgo,mU (by omega),if_neg hb]
    ·have hn:∀ l',dT l (s.ops.getD i default)=l'→gI s.bits s.images.length (i+1) (s.ops.drop (i+1)) l'=gI s.bits s.images.length 0 s.ops []:=by
      rintro l' rfl;have q:=mU (b:=s.bits) (n:=s.images.length) (l:=l) (show i<s.ops.length by omega);rw [if_pos (by rw [← he (by omega)];exact hb)] at q;rw [← q,hgo]
     rw [ae];simp only [Int.toNat_natCast] at hpop ⊢;by_cases hk2:(s.ops.getD i default).kind=2
     ·have e2:((s.ops.getD i default).kind == 2)=true:=by rw [hk2];rfl
      simp only [e2,St.ite_t];refine ak (i+1,l ++ [s.ops.getD i default],l.length+1,bK fZ (l ++ [s.ops.getD i default])) ?_ ⟨by omega,by simp;omega,by simp,fun _ _ _ _=>rfl,hn _ (by rw [dT,if_pos hk2])⟩ (by dsimp only;omega);refine au [(1,some 3)] ?_ ?_;and_intros;all_goals try exact aj
      ·simp
      ·refine .inr fun a ha j hj=>yw hg (fun j hj => ?_) a (by simpa using ha) j hj;have hivl:j=0∨j=1∨j=2∨j=3∨j=4∨j=5∨j=6∨j=7∨j=8∨j=9∨j=10∨j=11:=by omega
       rcases hivl with rfl|rfl|rfl|rfl|rfl|rfl|rfl|rfl|rfl|rfl|rfl|rfl <;> rfl
     ·have e2:((s.ops.getD i default).kind == 2)=false:=by simpa using hk2
      simp only [e2,St.ite_f];by_cases hk3:(s.ops.getD i default).kind=3
      ·have e3:((s.ops.getD i default).kind == 3)=true:=by rw [hk3];rfl
       simp only [e3,St.ite_t];have hp:=hpop (by omega) hb hk3;refine ak (i+1,l.dropLast,m,g) ?_ ⟨by omega,by rw [List.length_dropLast];dsimp only;omega,by rw [List.length_dropLast];dsimp only;omega,BO hg,hn _ (by rw [dT,if_neg hk2,if_pos hk3])⟩ (by dsimp only;omega);refine au [(1,some 1)] ?_ ?_;and_intros;all_goals try exact aj
       rw [List.length_dropLast];omega
      ·have e3:((s.ops.getD i default).kind == 3)=false:=by simpa using hk3
       simp only [e3,St.ite_f];refine ak (i+1,l,m,g) ?_ ⟨by omega,by dsimp only;omega,hm,hg,hn _ (by rw [dT,if_neg hk2,if_neg hk3])⟩ (by dsimp only;omega);refine au [(1,some 1)] ?_ ?_;and_intros;all_goals try exact aj
   ·simp (maxSteps:=1000000) (disch:=omega) only [go_sem,fA,fN];rw [if_pos hm];exact ⟨mD,mD,zr hg⟩
   ·trivial
  ·have hi2:i=s.ops.length:=by omega
   (try rw [kt,if_pos (by assumption)]);rw [← hgo,hi2,List.drop_length,gI,if_pos (by omega)]
  ·have hi2:i=s.ops.length:=by omega
   (try rw [kt,if_pos (by assumption)]);rw [← hgo,hi2,List.drop_length,gI,if_neg (by omega)]
def fE:Op:=⟨3,0,0,0,0,0,0,0,0,0,false,false⟩
def ar (s:Scene):Rect:=⟨s.x % 13 - 6,s.y % 13 - 6,s.x % 13 - 6+(1+s.w % 5),s.y % 13 - 6+(1+s.h % 4)⟩
def cd (s:Scene):Int:=1+s.tileW % (1+s.w % 5)
def cc (s:Scene):Int:=1+s.tileH % (1+s.h % 4)
def aX (s:Scene):List Image:=(s.pics.take 4).map fun p=>jd p (ar s) (cl s.bits)
def aO (s:Scene):List Image:=if (aX s).length=0 then [kr (1+s.w % 5) (1+s.h % 4) ⟨cl s.bits,0,0,cl s.bits,cl s.bits⟩] else aX s
def ke (n:Int) (c:Rect) (m:Int) (st:List Op × List Op) (r:Raw):List Op × List Op :=
 if r.kind % 8=0∧0<st.2.length then (st.1 ++ [fE],st.2.dropLast)
 else (st.1 ++ [oo r (decide (r.kind % 8<3)) n c.x0 c.y0 (hZ st.2) m],if r.kind % 8<3 then st.2 ++ [oo r (decide (r.kind % 8<3)) n c.x0 c.y0 (hZ st.2) m] else st.2)
def qK (s:Scene):List Op × List Op:=(s.ops.take 9).foldl (ke (aO s).length (ar s) (cl s.bits)) ([],[])
def ay (s:Scene):Script :=
 { bits:=if cl s.bits>255 then 16 else 8,canvas:=ar s,tileW:=cd s,tileH:=cc s,order:=nZ s.order (bj (ar s) (cd s) (cc s) * bY (ar s) (cd s) (cc s)),images:=aO s,ops:=(qK s).1 ++ List.replicate (qK s).2.length fE }
structure SceneOk (s:Scene):Prop where
 bits:i64 s.bits
 x:i64 s.x
 y:i64 s.y
 w:i64 s.w
 h:i64 s.h
 tileW:i64 s.tileW
 tileH:i64 s.tileH
 order:s.order.length≤4611686018427387904
 pics:s.pics.length≤4611686018427387904
 ops:s.ops.length≤4611686018427387904
 pic:∀ i,i<s.pics.length→PicOk (s.pics.getD i default)
 op:∀ i,i<s.ops.length→RawOk (s.ops.getD i default)
theorem cJ (s:Scene):Small (ar s):=by
 unfold ar;exact ⟨by dsimp only;omega,by dsimp only;omega,by dsimp only;omega,by dsimp only;omega,⟨by dsimp only;omega,by dsimp only;omega⟩,⟨by dsimp only;omega,by dsimp only;omega⟩⟩
theorem nw (n:Int):cl n=255∨cl n=65535:=by unfold cl;split <;> omega
theorem zw {l:List Int} {i j:Nat} {hi:i<l.length} {hj:j<l.length} (h:l.Nodup):l[i]=l[j]↔i=j:=by
 refine ⟨fun e => ?_,fun e=>by grind⟩;have hp:=List.pairwise_iff_getElem.1 h;grind
theorem sP {l:List Int}:∀ (k i:Nat) (rest:List Int),rest.length=k→rest.Nodup→(jq l k i rest).length=k∧(jq l k i rest).Nodup∧∀ v ∈ jq l k i rest,v ∈ rest
 | 0,i,rest,_,_=>⟨rfl,List.nodup_nil,fun v hv=>by grind [jq]⟩
 | k+1,i,rest,hl,hn=>by
  have h1:=Int.emod_nonneg (DQ l i) (show (rest.length:Int)≠0 by omega);have h2:=Int.emod_lt_of_pos (DQ l i) (show (0:Int)<rest.length by omega);have h3:(DQ l i % rest.length).toNat<rest.length:=by omega
  obtain ⟨a,b,c⟩:=sP (l:=l) k (i+1) (rest.eraseIdx (DQ l i % rest.length).toNat) (by grind) (List.Pairwise.sublist (List.eraseIdx_sublist ..) hn);have hg:rest.getD (DQ l i % rest.length).toNat 0=rest[(DQ l i % rest.length).toNat]:=by rw [List.getD_eq_getElem?_getD,List.getElem?_eq_getElem h3];rfl
  refine ⟨by grind [jq], ?_,fun v hv => ?_⟩
  ·simp only [jq];refine List.nodup_cons.2 ⟨fun hm => ?_,b⟩;have:=c _ hm;rw [List.mem_eraseIdx_iff_getElem] at this;grind [zw]
  ·simp only [jq] at hv;rcases List.mem_cons.1 hv with rfl|hv
   ·grind
   ·exact List.mem_of_mem_eraseIdx (c v hv)
theorem kV (n:Nat):(lr n).Nodup:=by
 unfold lr;refine List.Pairwise.map _ (fun a b h => ?_) List.nodup_range;omega
theorem Kl {x:List Int} {n:Int} {i:Nat} (hi:i<x.length) (hn:x.Nodup) (hm:∀ v ∈ x,0≤v∧v<n):kH x n i=true:=by
 have hg:x.getD i 0=x[i]:=by rw [List.getD_eq_getElem?_getD,List.getElem?_eq_getElem hi];rfl
 rw [kH,hg,decide_eq_true (hm _ (List.getElem_mem hi)),Bool.true_and,Bool.not_eq_true',List.contains_eq_mem,decide_eq_false_iff_not];intro h;obtain ⟨j,hj,he⟩:=List.getElem_of_mem h;grind [zw]
theorem Mx {l:List Int} {n:Int} (h0:0≤n) (h1:n≤64):eP (nZ l n) n=true:=by
 have hk:∀ x:List Int,x.length=n.toNat→x.Nodup→(∀ v ∈ x,v ∈ lr n.toNat)→(List.range n.toNat).all (kH x n)=true:=fun x hl hn hm=>by grind [kH,Kl,lr]
 unfold nZ;split
 ·rw [eP,decide_eq_true ⟨h0,by omega, .inl rfl⟩,Bool.true_and];grind [dC,iU,kV]
 ·rename_i hc;obtain ⟨a,b,c⟩:=sP (l:=l) n.toNat 0 (lr n.toNat) (iU _) (kV _);grind [eP,jq,lr,dC,iU,kV]
theorem lM {c:Rect} (h:Small c):aP c=false:=by
 obtain ⟨h1,h2,h3,h4,h5,h6⟩:=h;unfold aP mf;grind
theorem CX (s:Scene):cD (ar s) (cd s) (cc s)=true:=by
 rw [cD,lM (cJ s)];unfold cd cc ar;simp only [Bool.not_false,Bool.true_and,decide_eq_true_eq];have hw0:1≤1+s.w % 5∧1+s.w % 5≤5:=by omega
 have hh0:1≤1+s.h % 4∧1+s.h % 4≤4:=by omega
 have bw:=Int.emod_nonneg s.tileW (show 1+s.w % 5≠0 by omega);have bw2:=Int.emod_lt_of_pos s.tileW (show 0<1+s.w % 5 by omega);have bh:=Int.emod_nonneg s.tileH (show 1+s.h % 4≠0 by omega);have bh2:=Int.emod_lt_of_pos s.tileH (show 0<1+s.h % 4 by omega);omega
theorem BT (s:Scene):0≤bj (ar s) (cd s) (cc s) * bY (ar s) (cd s) (cc s)∧bj (ar s) (cd s) (cc s) * bY (ar s) (cd s) (cc s)≤64:=by
 refine ⟨(iz _ _ _).2, ?_⟩;have ht:=CX s;rw [bj,bY,if_pos ht,if_pos ht];obtain ⟨h1,h2,h3,h4,h5,h6⟩:=cJ s;simp only [cD,Bool.and_eq_true,decide_eq_true_eq] at ht;obtain ⟨_,t1,t2,t3,t4⟩:=ht;have b1:0≤((ar s).x1 - (ar s).x0 - 1) / cd s:=Int.ediv_nonneg (by omega) (by omega);have b2:((ar s).x1 - (ar s).x0 - 1) / cd s≤(ar s).x1 - (ar s).x0 - 1:=Int.ediv_le_self _ (by omega);have c1:0≤((ar s).y1 - (ar s).y0 - 1) / cc s:=Int.ediv_nonneg (by omega) (by omega);have c2:((ar s).y1 - (ar s).y0 - 1) / cc s≤(ar s).y1 - (ar s).y0 - 1:=Int.ediv_le_self _ (by omega);have:(((ar s).x1 - (ar s).x0 - 1) / cd s+1) * (((ar s).y1 - (ar s).y0 - 1) / cc s+1)≤5 * 4:=Int.mul_le_mul (by omega) (by omega) (by omega) (by omega);omega
theorem qt (s:Scene):1≤(aO s).length∧(aO s).length≤4:=by grind [aO,aX,jd]
theorem Nr {s:Scene} {t:Script} (hb:t.bits=(ay s).bits) (hc:t.canvas=ar s) (hw:t.tileW=cd s) (hh:t.tileH=cc s) (ho:t.order=(ay s).order) (hi:t.images.length≤64) (hp:t.ops.length≤4096):bL t=0:=by
 have hm:=nw s.bits;have hsm:=cJ s;have he:=lM hsm;have ht:=CX s;have hl:=BT s;obtain ⟨h1,h2,h3,h4,h5,h6⟩:=hsm;have ha:((ar s).x1 - (ar s).x0) * ((ar s).y1 - (ar s).y0)≤5 * 4:=Int.mul_le_mul (by omega) (by omega) (by omega) (by omega);have hw2:cj 1048576 [(ar s).x0,(ar s).y0]=true:=by simp [cj];omega
 rw [bL,hb,hc,hw,hh,ho,ht,hw2,he,kU,he];grind [ay,nZ,Mx]
theorem Ao (s:Scene):bg (ay s).bits=cl s.bits:=by grind [cl,nw,bg,ay]
def lh (b:Int) (n:Nat):List Op→List Op→Prop
 | [],_=>True
 | o :: r,l=>gA b n o l=0∧lh b n r (dT l o)
def cI (ops l:List Op):List Op:=ops.foldl dT l
theorem iW {b:Int} {n:Nat}:∀ {a c l:List Op},lh b n (a ++ c) l↔lh b n a l∧lh b n c (cI a l)
 | [],c,l=>by simp [lh,cI]
 | o :: r,c,l=>by
  simp only [List.cons_append,lh,iW (a:=r),and_assoc];rfl
theorem fI {a c l:List Op}:cI (a ++ c) l=cI c (cI a l):=List.foldl_append
theorem xo {b:Int} {n:Nat}:∀ {ops l:List Op} {i:Nat},lh b n ops l→cI ops l=[]→gI b n i ops l=(0,0)
 | [],l,i,_,h2=>by grind [lh,cI,gI]
 | o :: r,l,i,h1,h2=>by
  rw [gI,if_pos h1.1];exact xo h1.2 h2
theorem Hd {b:Int} {n:Nat}:∀ (k:Nat) (l:List Op),l.length=k→lh b n (List.replicate k fE) l∧cI (List.replicate k fE) l=[]
 | 0,l,hl=>⟨trivial,List.eq_nil_of_length_eq_zero hl⟩
 | k+1,l,hl=>by
  rw [List.replicate_succ];have hp:=Hd (b:=b) (n:=n) k l.dropLast (by grind);have hn:dT l fE=l.dropLast:=rfl;refine ⟨⟨?_,by grind⟩, ?_⟩
  ·rw [gA,if_neg (by decide),if_neg (by decide),if_neg (fun q=>by omega)];rfl
  grind [cI,fE,dT]
structure OpTame (m:Int) (o:Op):Prop where
 x : -30≤o.x∧o.x≤30
 y : -30≤o.y∧o.y≤30
 op:0≤o.opacity∧o.opacity≤m
 mx : -30≤o.maskX∧o.maskX≤30
 my : -30≤o.maskY∧o.maskY≤30
theorem SM {s : Scene} {r : Raw} {l : List Op} (hl : l.length ≤ 9) :
  gA (ay s).bits (aO s).length (oo r (decide (r.kind % 8<3)) (aO s).length (ar s).x0 (ar s).y0 (hZ l) (cl s.bits)) l=0 ∧
  OpTame (cl s.bits) (oo r (decide (r.kind % 8<3)) (aO s).length (ar s).x0 (ar s).y0 (hZ l) (cl s.bits)):=by
 have hi:=qt s;have hm:=nw s.bits;obtain ⟨h1,h2,h3,h4,h5,h6⟩:=cJ s;have q1:=gK r.x (ar s).x0;have q2:=gK r.y (ar s).y0;have q3:=gK r.maskX (ar s).x0;have q4:=gK r.maskY (ar s).y0;have q5:=fO (r.opacity.tdiv 2) (cl s.bits) (by omega);have q6:=Int.emod_nonneg (r.mask.tdiv 4) (show ((aO s).length:Int)≠0 by omega);have q7:=Int.emod_lt_of_pos (r.mask.tdiv 4) (show (0:Int)<(aO s).length by omega);have q8:=Int.emod_nonneg r.image (show ((aO s).length:Int)≠0 by omega);have q9:=Int.emod_lt_of_pos r.image (show (0:Int)<(aO s).length by omega);generalize hc:hZ l=free;have hmx:=Ao s;constructor
 ·rw [gA,hmx];by_cases hp:r.kind % 8<3
  ·rw [decide_eq_true hp];rw [if_neg (by simp [oo]),if_neg ?qa,if_neg (by simp [oo]),if_neg (by simp [oo]),if_neg ?qb,if_neg ?qc,if_neg ?qd,if_neg ?qe,if_neg ?qf,if_neg ?qg,if_neg (by omega)]
   case qa =>
    simp only [oo,gi];by_cases hk:r.mask % 4=0
    ·simp [hk];omega
    ·simp [hk]
   case qb =>
    simp only [oo];by_cases hk:r.mask % 4=0
    ·simp [hk];omega
    ·simp [hk]
   case qc =>
    simp only [oo,cj];by_cases hk:r.mask % 4=0
    ·simp [hk];omega
    ·simp [hk]
   case qd =>
    simp only [oo];split <;> omega
   case qe =>
    simp only [oo,ji];split <;> simp <;> omega
   case qf =>
    simp only [oo,ji];split <;> simp <;> omega
   case qg =>
    simp only [oo,hc];intro q;rw [q.2] at q;simp at q
  ·rw [decide_eq_false hp];rw [if_neg (by simp [oo]),if_neg ?qa,if_neg (by simp [oo]),if_neg (by simp [oo]),if_neg ?qb,if_neg ?qc,if_neg ?qd,if_neg ?qe,if_neg ?qf,if_neg ?qg,if_neg (by simp [oo])]
   case qa =>
    simp only [oo,gi];by_cases hk:r.mask % 4=0
    ·simp [hk];omega
    ·simp [hk]
   case qb =>
    simp only [oo];by_cases hk:r.mask % 4=0
    ·simp [hk];omega
    ·simp [hk];omega
   case qc =>
    simp only [oo,cj];by_cases hk:r.mask % 4=0
    ·simp [hk];omega
    ·simp [hk];omega
   case qd =>
    simp only [oo];split <;> omega
   case qe =>
    simp only [oo,ji];split <;> simp <;> omega
   case qf =>
    simp only [oo,ji];split <;> simp <;> omega
   case qg =>
    simp only [oo,hc];intro q;rw [q.2] at q;simp at q
 ·refine ⟨?_, ?_, ?_, ?_, ?_⟩ <;> simp only [oo] <;> (repeat' split) <;> omega
structure GInv (s:Scene) (k:Nat) (st:List Op × List Op):Prop where
 ok:lh (ay s).bits (aO s).length st.1 []
 op:cI st.1 []=st.2
 l1:st.1.length≤k
 l2:st.2.length≤k
 tame:∀ o ∈ st.1,OpTame (cl s.bits) o
theorem FT {m:Int} (h:0≤m):OpTame m fE:=⟨by decide,by decide,⟨by decide,h⟩,by decide,by decide⟩
theorem Hx {s:Scene} {k:Nat} {st:List Op × List Op} {r:Raw} (h:GInv s k st) (hk:k≤9):GInv s (k+1) (ke (aO s).length (ar s) (cl s.bits) st r):=by
 obtain ⟨h1,h2,h3,h4,h5⟩:=h;have hm:=nw s.bits;unfold ke;split
 ·rename_i hc;refine ⟨iW.2 ⟨h1, ?_,trivial⟩, ?_,by simp;omega,by grind,fun o ho => ?_⟩
  ·rw [h2,gA,if_neg (by decide),if_neg (by decide),if_neg (fun q=>by omega)];rfl
  ·rw [fI,h2];rfl
  grind [FT]
 ·have hg:=SM (s:=s) (r:=r) (l:=st.2) (by omega);refine ⟨iW.2 ⟨h1,by grind,trivial⟩, ?_,by simp;omega, ?_,fun o ho => ?_⟩
  ·simp_all [cI,oo,fI,dT]
  ·grind
  grind
theorem zi {s:Scene}:∀ (l:List Raw) (k:Nat) (st:List Op × List Op),GInv s k st→k+l.length≤9→GInv s (k+l.length) (l.foldl (ke (aO s).length (ar s) (cl s.bits)) st)
 | [],k,st,h,_=>h
 | r :: l,k,st,h,hk=>by
  rw [List.length_cons] at hk ⊢;have:=zi l (k+1) _ (Hx (r:=r) h (by omega)) (by omega);grind
theorem MK (s:Scene):GInv s 9 (qK s):=by
 have h:=zi (s:=s) (s.ops.take 9) 0 ([],[]) ⟨trivial,rfl,Nat.le_refl _,Nat.le_refl _,fun o ho=>by simp at ho⟩ (by grind);have hl:0+(s.ops.take 9).length≤9:=by rw [List.length_take];omega
 exact ⟨h.1,h.2,Nat.le_trans h.3 hl,Nat.le_trans h.4 hl,h.5⟩
structure GGood (s:Scene) (ops:List Op):Prop where
 ok:lh (ay s).bits (aO s).length ops []
 op:cI ops []=[]
 len:ops.length≤18
 tame:∀ o ∈ ops,OpTame (cl s.bits) o
theorem sm (s:Scene):GGood s (ay s).ops:=by
 obtain ⟨h1,h2,h3,h4,h5⟩:=MK s;have hm:=nw s.bits;have hp:=Hd (b:=(ay s).bits) (n:=(aO s).length) (qK s).2.length (qK s).2 rfl;refine ⟨iW.2 ⟨h1,by grind⟩, ?_, ?_,fun o ho => ?_⟩
 ·show cI ((qK s).1 ++ _) []=[]
  rw [fI,h2];grind
 ·grind [ay,qK,fE]
 ·rcases List.mem_append.1 ho with ho|ho
  ·grind
  grind [FT]
theorem ee {b : Int} {n : Nat} {o : Op} {l : List Op} : gA b n o l = 0 ↔ (1 ≤ o.kind ∧ o.kind ≤ 3) ∧ gi o = true ∧ (o.kind = 3 → 0 < l.length) ∧
  (o.kind≠3→¬ (o.kind=1∧(o.image<0∨n≤o.image)∨o.mask<0∨n<o.mask)∧cj 1048576 [o.x,o.y,o.maskX,o.maskY]=true∧o.opacity≤bg b∧ji o.operator=true∧ji o.mode=true∧(o.operator≠4→hZ l=true)∧(o.kind=2→l.length<64)):=by
 unfold gA;by_cases h1:¬ (1≤o.kind∧o.kind≤3)
 ·rw [if_pos h1];exact ⟨fun h=>by omega,fun h=>absurd h.1 h1⟩
 rw [if_neg h1];rw [Decidable.not_not] at h1;by_cases h2:gi o=false
 ·rw [if_pos h2];exact ⟨fun h=>by omega,fun h=>by rw [h2] at h;simp at h⟩
 rw [if_neg h2];rw [Bool.not_eq_false] at h2;by_cases h3:o.kind=3
 ·by_cases h4:l.length=0
  ·rw [if_pos ⟨h3,h4⟩];exact ⟨fun h=>by omega,fun h=>by have:=h.2.2.1 h3;omega⟩
  ·rw [if_neg (fun q=>h4 q.2),if_pos h3];exact ⟨fun _=>⟨h1,h2,fun _=>by omega,fun q=>absurd h3 q⟩,fun _=>rfl⟩
 rw [if_neg (fun q=>h3 q.1),if_neg h3];by_cases h5:o.kind=1∧(o.image<0∨n≤o.image)∨o.mask<0∨n<o.mask
 ·rw [if_pos h5];exact ⟨fun h=>by omega,fun h=>absurd h5 (h.2.2.2 h3).1⟩
 rw [if_neg h5];by_cases h6:cj 1048576 [o.x,o.y,o.maskX,o.maskY]=false
 ·rw [if_pos h6];exact ⟨fun h=>by omega,fun h=>by have:=(h.2.2.2 h3).2.1;rw [h6] at this;cases this⟩
 rw [if_neg h6];rw [Bool.not_eq_false] at h6;by_cases h7:bg b<o.opacity
 ·rw [if_pos h7];exact ⟨fun h=>by omega,fun h=>by have:=(h.2.2.2 h3).2.2.1;omega⟩
 rw [if_neg h7];by_cases h8:ji o.operator=false
 ·rw [if_pos h8];exact ⟨fun h=>by omega,fun h=>by have:=(h.2.2.2 h3).2.2.2.1;rw [h8] at this;cases this⟩
 rw [if_neg h8];rw [Bool.not_eq_false] at h8;by_cases h9:ji o.mode=false
 ·rw [if_pos h9];exact ⟨fun h=>by omega,fun h=>by have:=(h.2.2.2 h3).2.2.2.2.1;rw [h9] at this;cases this⟩
 rw [if_neg h9];rw [Bool.not_eq_false] at h9;by_cases h10:o.operator≠4∧hZ l=false
 ·rw [if_pos h10];exact ⟨fun h=>by omega,fun h=>by have:=(h.2.2.2 h3).2.2.2.2.2.1 h10.1;rw [h10.2] at this;cases this⟩
 rw [if_neg h10];by_cases h11:o.kind=2∧64≤l.length
 ·rw [if_pos h11];exact ⟨fun h=>by omega,fun h=>by have:=(h.2.2.2 h3).2.2.2.2.2.2 h11.1;omega⟩
 rw [if_neg h11]
 exact ⟨fun _=>⟨h1,h2,fun q=>absurd q h3,fun _=>⟨h5,h6,by omega,h8,h9,fun q=>by
  cases hc:hZ l with
  | true=>rfl
  | false=>exact absurd ⟨q,hc⟩ h10,fun q=>by
   rcases Nat.lt_or_ge l.length 64 with h|h
   ·exact h
   ·exact absurd ⟨q,h⟩ h11⟩⟩,fun _=>rfl⟩
theorem FC (s:Scene):(ay s).order.length≤64:=by
 have ht:=BT s;show (nZ s.order _).length≤64;unfold nZ;split
 ·exact Nat.zero_le _
 ·rw [(sP (l:=s.order) _ 0 _ (iU _) (kV _)).1];omega
theorem XR (s:Scene) {t:Script} (ho:t.order=(ay s).order) (hi:t.images.length≤64) (hp:t.ops.length≤4096):ScriptLen t :=
 ⟨by rw [ho];exact Nat.le_trans (FC s) (by decide),by omega,by omega⟩
theorem tB (s:Scene):(ay s).images.length≤64:=by
 have:=qt s;show (aO s).length≤64;omega
theorem CS (s:Scene):(ay s).ops.length≤18:=(sm s).len
theorem ua (s:Scene):ScriptLen (ay s):=XR s rfl (tB s) (Nat.le_trans (CS s) (by decide))
theorem xI {b:Int} {n:Nat}:∀ {ops l:List Op} {i:Nat},(gI b n i ops l).1=0→lh b n ops l∧cI ops l=[]
 | [],l,i,h=>by
  refine ⟨trivial, ?_⟩;rw [gI] at h;split at h
  ·cases h
  ·exact (List.eq_nil_of_length_eq_zero (by omega):l=[])
 | o :: r,l,i,h=>by
  rw [gI] at h;split at h
  ·rename_i h0;obtain ⟨h1,h2⟩:=xI h;exact ⟨⟨h0,h1⟩,h2⟩
  ·rename_i h0;exact absurd h h0
theorem Ng {b:Int} {n:Nat} {ops:List Op} (h:lh b n ops []) {i:Nat} (hi:i<ops.length):gA b n (aB ops i) (cI (ops.take i) [])=0:=by
 have e:ops=ops.take i ++ ops.drop i:=(List.take_append_drop i ops).symm;rw [e,iW,List.drop_eq_getElem_cons hi] at h;have:aB ops i=ops[i]:=by rw [aB,List.getD_eq_getElem?_getD,List.getElem?_eq_getElem hi];rfl
 rw [this];exact h.2.1
theorem mR {ops:List Op}:∀ (i:Nat),i≤ops.length→cI (ops.take i) []=(bZ ops i).reverse.map (aB ops)
 | 0,_=>rfl
 | i+1,hi=>by
  have ih:=mR (ops:=ops) i (by omega);have e:aB ops i=ops[i]:=by rw [aB,List.getD_eq_getElem?_getD,List.getElem?_eq_getElem (by omega)];rfl
  rw [List.take_add_one,List.getElem?_eq_getElem (by omega),fI,ih];show dT _ ops[i]=_;rw [← e,dT,bZ];split
  ·rw [List.reverse_cons,List.map_append];rfl
  split
  ·rw [← List.map_dropLast,List.dropLast_reverse]
  ·rfl
structure VOps (s:Script):Prop where
 wf:Wf s.ops
 ok:∀ i,i<s.ops.length→gA s.bits s.images.length (aB s.ops i) ((bZ s.ops i).reverse.map (aB s.ops))=0
 imgs:s.images.length≤64
 cnt:s.ops.length≤4096
 frame:bL s=0
theorem Gq {s:Script} (h:(kt s).1=0):VOps s:=by
 rw [kt] at h;split at h
 ·rename_i hf;obtain ⟨h1,h2⟩:=xI h;have hl:=sx hf;have ok:∀ i,i<s.ops.length→gA s.bits s.images.length (aB s.ops i) ((bZ s.ops i).reverse.map (aB s.ops))=0:=fun i hi=>by rw [← mR i (by omega)];exact Ng h1 hi
  refine ⟨⟨fun i hi => ?_,fun i hi hk he => ?_, ?_⟩,ok,hl.1,hl.2,hf⟩
  ·have:=(ee.1 (ok i hi)).1;omega
  ·have:=(ee.1 (ok i hi)).2.2.1 hk;rw [he] at this;simp at this
  ·have:=mR (ops:=s.ops) s.ops.length (Nat.le_refl _);rw [List.take_length,h2] at this;have:=congrArg List.length this;simp at this;exact List.eq_nil_of_length_eq_zero this.symm
 ·rename_i hf;exact absurd h hf
structure Lv where
 op:Op
 acc:Acc
 back:Pixel
 deriving DecidableEq,Inhabited
def jx:Op:=⟨2,0,0,0,0,0,0,0,0,0,true,false⟩
def base:Lv:=⟨jx,sy,bQ⟩
def aM (m:Int) (o:Op) (p:Pixel) (k:Int):Pixel:=bF (bF p (if o.mask=0 then m else k) m) o.opacity m
def oF (m:Int) (o:Op) (s:Pixel) (t:Lv):Lv := { t with acc:=cT t.op.knockout o.operator o.mode m s t.acc t.back }
def ma (o:Op) (t:Lv):Lv:=⟨o,oU (eA o.isolated t.op.knockout t.acc t.back),eA o.isolated t.op.knockout t.acc t.back⟩
def jG (m:Int) (z:Op→Pixel × Int) (st:List Lv) (o:Op):List Lv :=
 match st with
 | []=>[]
 | t :: r =>
  if o.kind=1 then oF m o (aM m o (z o).1 (z o).2) t :: r
  else if o.kind=2 then ma o t :: t :: r
  else match r with
   | []=>[t]
   | u :: r=>oF m t.op (aM m t.op (bI t.acc t.back m) (z t.op).2) u :: r
def mJ (m:Int) (z:Op→Pixel × Int) (ops:List Op) (st:List Lv):List Lv:=ops.foldl (jG m z) st
theorem pB {m:Int} {z:Op→Pixel × Int} {a b:List Op} {st:List Lv}:mJ m z (a ++ b) st=mJ m z b (mJ m z a st):=List.foldl_append
theorem kQ {m:Int} {z:Op→Pixel × Int} {o:Op} {b:List Op} {st:List Lv}:mJ m z (o :: b) st=mJ m z b (jG m z st o):=rfl
def Zx (m:Int) (st:List Lv):Pixel:=match st with
 | []=>bQ
 | t :: _=>bI t.acc t.back m
structure SmpV (m:Int) (z:Op→Pixel × Int):Prop where
 p:∀ o,PixV (z o).1 m
 k0:∀ o,0≤(z o).2
 km:∀ o,(z o).2≤m
structure LvV (m:Int) (t:Lv):Prop where
 v:AccV t.acc t.back m
 iso:t.op.isolated=true→t.back=bQ∧t.acc.own=t.acc.a
theorem Ve {m:Int} (hm:Full m):LvV m base:=⟨SQ hm,fun _=>⟨rfl,rfl⟩⟩
theorem oI {m:Int} {o:Op} {p:Pixel} {k:Int} (hm:Full m) (hp:PixV p m) (hk:0≤k) (hkm:k≤m) (ho:0≤o.opacity) (hom:o.opacity≤m):PixV (aM m o p k) m:=by
 refine mX hm (mX hm hp ?_ ?_) ho hom
 ·have:=hm.pos;split <;> omega
 ·split <;> omega
theorem GX {m:Int} {o:Op} {s:Pixel} {t:Lv} (hm:Full m) (hs:PixV s m) (ht:LvV m t) (hop:o.operator=4∨t.op.isolated=true∧t.op.knockout=false):LvV m (oF m o s t):=by
 refine ⟨UV hm hs ht.v ?_,fun hi => ?_⟩
 ·rcases hop with h|⟨h1,h2⟩
  ·exact .inl h
  ·exact .inr ⟨h2,(ht.iso h1).2⟩
 ·obtain ⟨h1,h2⟩:=ht.iso hi;exact ⟨h1,La (by rw [h1];rfl) h2⟩
theorem Ni {m:Int} {o:Op} {t:Lv} (hm:Full m) (ht:LvV m t):LvV m (ma o t):=by
 obtain ⟨h1,h2⟩:=Pu (i:=o.isolated) (k:=t.op.knockout) hm ht.v;refine ⟨Rr h1 h2,fun hi => ?_⟩;have hi:o.isolated=true:=hi;show eA o.isolated t.op.knockout t.acc t.back=bQ∧0=(eA o.isolated t.op.knockout t.acc t.back).a;rw [eA,if_pos hi];exact ⟨rfl,rfl⟩
structure OpFit (m:Int) (t:Op) (o:Op):Prop where
 op0:0≤o.opacity
 opm:o.opacity≤m
 ctx:o.operator=4∨t.isolated=true∧t.knockout=false
def IJ (m:Int):List Lv→Prop
 | []=>False
 | [t]=>LvV m t∧t.op=jx
 | t :: u :: r=>LvV m t∧OpFit m u.op t.op∧IJ m (u :: r)
theorem IJ.head {m:Int} {t:Lv} {r:List Lv} (h:IJ m (t :: r)):LvV m t:=by
 cases r with
 | nil=>exact h.1
 | cons=>exact h.1
theorem IJ.repl {m:Int} {t t':Lv} {r:List Lv} (h:IJ m (t :: r)) (h1:LvV m t') (h2:t'.op=t.op):IJ m (t' :: r):=by
 cases r with
 | nil=>exact ⟨h1,h2.trans h.2⟩
 | cons u r=>exact ⟨h1,by rw [h2];exact h.2.1,h.2.2⟩
def Nf (m:Int) (st:List Lv) (o:Op):Prop :=
 match st with
 | []=>False
 | t :: r=>(o.kind=1∨o.kind=2→OpFit m t.op o)∧(o.kind=3→r≠[])
theorem Io {m:Int} {z:Op→Pixel × Int} {st:List Lv} {o:Op} (hm:Full m) (hz:SmpV m z) (hs:IJ m st) (hk:o.kind=1∨o.kind=2∨o.kind=3) (hn:Nf m st o):IJ m (jG m z st o):=by
 cases st with
 | nil=>exact hs.elim
 | cons t r =>
  obtain ⟨n1,n2⟩:=hn;unfold jG;dsimp only;split
  ·rename_i h;have hf:=n1 (.inl h);exact hs.repl (GX hm (oI hm (hz.p o) (hz.k0 o) (hz.km o) hf.op0 hf.opm) hs.head hf.ctx) rfl
  split
  ·rename_i h1 h;exact ⟨Ni hm hs.head,n1 (.inr h),hs⟩
  ·rename_i h1 h2;cases r with
   | nil=>exact absurd rfl (n2 (by omega))
   | cons u r =>
    obtain ⟨s1,s2,s3⟩:=hs;exact s3.repl (GX hm (oI hm (mN hm s1.v) (hz.k0 _) (hz.km _) s2.op0 s2.opm) s3.head s2.ctx) rfl
theorem MH {m : Int} {z : Op → Pixel × Int} {t : Lv} {r : List Lv} {o : Op} :
  (jG m z (t :: r) o).map Lv.op=if o.kind=1 then (t :: r).map Lv.op else if o.kind=2 then o :: (t :: r).map Lv.op else if r=[] then [t.op] else r.map Lv.op:=by
 unfold jG;dsimp only;split
 ·rfl
 split
 ·rfl
 ·cases r with
  | nil=>rfl
  | cons u r=>rfl
theorem KT {f:Nat→Op} {p:Nat} {q:List Nat}:hZ ((p :: q).reverse.map f)=true↔(f p).isolated=true∧(f p).knockout=false:=by
 have e:((p :: q).reverse.map f).getD (((p :: q).reverse.map f).length - 1) default=f p:=by simp [List.getD_eq_getElem?_getD]
 rw [hZ,e];simp
def jP (m:Int) (z:Op→Pixel × Int) (ops:List Op) (i:Nat):List Lv:=mJ m z (ops.take i) [base]
theorem tn {ops:List Op} {i:Nat} (hi:i<ops.length):ops.take (i+1)=ops.take i ++ [aB ops i]:=by rw [List.take_add_one,List.getElem?_eq_getElem hi,aB,List.getD_eq_getElem?_getD,List.getElem?_eq_getElem hi];rfl
theorem oZ {m:Int} {z:Op→Pixel × Int} {ops:List Op} {i:Nat} (hi:i<ops.length):jP m z ops (i+1)=jG m z (jP m z ops i) (aB ops i):=by
 unfold jP;rw [tn hi,pB];rfl
theorem GP {m:Int} {s:Script} {t:Lv} {r:List Lv} (V:VOps s) (hmx:bg s.bits=m) (ho:∀ o ∈ s.ops,0≤o.opacity) {i:Nat} (hi:i<s.ops.length) (h2:(t :: r).map Lv.op=(bZ s.ops i).map (aB s.ops) ++ [jx]):Nf m (t :: r) (aB s.ops i):=by
 have he:=ee.1 (V.ok i hi);have hop:0≤(aB s.ops i).opacity:=ho _ (by rw [aB,List.getD_eq_getElem?_getD,List.getElem?_eq_getElem (by omega)];exact List.getElem_mem _);refine ⟨fun q => ?_,fun q => ?_⟩
 ·obtain ⟨_,_,_,g⟩:=he;obtain ⟨_,_,g3,_,_,g6,_⟩:=g (by omega);refine ⟨hop,by omega, ?_⟩;by_cases h4:(aB s.ops i).operator=4
  ·exact .inl h4
  ·have hc:=g6 h4;cases hs:bZ s.ops i with
   | nil =>
    rw [hs] at h2;have:t.op=jx:=(List.cons.inj h2).1;rw [this];exact .inr ⟨rfl,rfl⟩
   | cons p q =>
    rw [hs] at h2 hc;have e:t.op=aB s.ops p:=(List.cons.inj h2).1;rw [KT] at hc;rw [e];exact .inr hc
 ·rintro rfl;cases hs:bZ s.ops i with
  | nil=>exact V.wf.pops i (by omega) q hs
  | cons p q =>
   rw [hs] at h2;have:=congrArg List.length h2;simp at this
def ng (ops:List Op) (i j:Nat):List Op:=(ops.take j).drop i
theorem Kw {ops:List Op} {i j:Nat} (h1:i≤j) (h2:j<ops.length):ng ops i (j+1)=ng ops i j ++ [aB ops j]:=by
 unfold ng;rw [tn h2,List.drop_append_of_le_length (by rw [List.length_take];omega)]
theorem JY {m : Int} {z : Op → Pixel × Int} {s : Script} (hm : Full m) (hz : SmpV m z) (V : VOps s) (hmx : bg s.bits = m) (ho : ∀ o ∈ s.ops, 0 ≤ o.opacity) {i : Nat} {st : List Lv}
  (h1:IJ m st) (h2:st.map Lv.op=(bZ s.ops i).map (aB s.ops) ++ [jx]):∀ d,i+d≤s.ops.length→IJ m (mJ m z (ng s.ops i (i+d)) st)∧(mJ m z (ng s.ops i (i+d)) st).map Lv.op=(bZ s.ops (i+d)).map (aB s.ops) ++ [jx]
 | 0,_=>by
  have e:ng s.ops i (i+0)=[]:=by
   unfold ng;rw [List.drop_eq_nil_of_le];rw [List.length_take];omega
  rw [e];exact ⟨h1,h2⟩
 | d+1,hi=>by
  obtain ⟨h1,h2⟩:=JY hm hz V hmx ho h1 h2 d (by omega);rw [show i+(d+1)=(i+d)+1 by omega,Kw (by omega) (by omega),pB];generalize mJ m z (ng s.ops i (i+d)) st=st at *
  show IJ m (jG m z st _)∧_;have hk:=V.wf.kinds (i+d) (by omega);cases st with
  | nil=>exact h1.elim
  | cons t r =>
   have hn:=GP V hmx ho (show i+d<s.ops.length by omega) h2;refine ⟨Io hm hz h1 hk hn, ?_⟩;show (jG m z (t :: r) _).map Lv.op=_;rw [MH];rcases hk with k|k|k
   ·rw [if_pos k,dM k];exact h2
   ·rw [if_neg (by omega),if_pos k,dR k];exact congrArg (List.cons _) h2
   ·rw [if_neg (by omega),if_neg (by omega),if_neg (hn.2 k),fy k];cases hs:bZ s.ops (i+d) with
    | nil=>exact absurd hs (V.wf.pops (i+d) (by omega) k)
    | cons p q =>
     rw [hs] at h2;exact (List.cons.inj h2).2
theorem Vz {m : Int} {z : Op → Pixel × Int} {s : Script} (hm : Full m) (hz : SmpV m z) (V : VOps s) (hmx : bg s.bits = m) (ho : ∀ o ∈ s.ops, 0 ≤ o.opacity) (i : Nat) (hi : i ≤ s.ops.length) :
  IJ m (jP m z s.ops i)∧(jP m z s.ops i).map Lv.op=(bZ s.ops i).map (aB s.ops) ++ [jx]:=by
 have:=JY hm hz V hmx ho (i:=0) (st:=[base]) ⟨Ve hm,rfl⟩ rfl i (by omega);rw [Nat.zero_add] at this;exact this
section
theorem BY (a b:Int):(if b>a then b else a)=max a b:=by split <;> omega
theorem Bs (a b:Int):(if b<a then b else a)=min a b:=by split <;> omega
attribute [local go_sem] BY Bs
theorem nz (r q:Rect):aA Sg 82 [ag (aQ r),ag (aQ q)] (fun x=>x = .b (ag (aQ (fF r q)))):=by
 refine aD Tryz.func82 [.cell 4 28] ?_
 repeat' (first|refine ax ?_|refine an (fun K hK => ?_)|refine aa (cG _) ?_|refine aw (fun hg=>cG _) ?_|refine aa (tK ⟨max r.x0 q.x0,max r.y0 q.y0,min r.x1 q.x1,min r.y1 q.y1⟩) ?_|(refine aK (fun hb => ?_) (fun hb => ?_) <;> try exact aE)|(refine aq hK ?_;try clear hK K))
 ·rw [fF,if_pos hb];rfl
 ·rw [fF,if_neg (by rw [hb.1,hb.2];simp)];rfl
theorem dQ (r q:Rect):aA Sg 80 [ag (aQ r),ag (aQ q)] (fun x=>x = .b (ag (aQ (fF r q)))):=by
 refine aD Tryz.func80 [.cell 4 28] ?_
 repeat' (first|refine ax ?_|refine an (fun K hK => ?_)|refine aa (bl _) ?_|refine aw (fun hg=>bl _) ?_|refine aa (pO ⟨max r.x0 q.x0,max r.y0 q.y0,min r.x1 q.x1,min r.y1 q.y1⟩) ?_|(refine aK (fun hb => ?_) (fun hb => ?_) <;> try exact aE)|(refine aq hK ?_;try clear hK K))
 ·rw [fF,if_pos hb];rfl
 ·rw [fF,if_neg (by rw [hb.1,hb.2];simp)];rfl
theorem iN (v:Int):aA Sg 186 [I v] (fun x=>x = .b (B (jD v))):=by
 refine aD Tryz.func186 [.tmp 2] ?_;repeat' (refine aC ?_)
 refine eV ?_
 (try simp only [jD,Bool.and_eq_true,Bool.or_eq_true,Bool.not_eq_true',Bool.not_eq_false',decide_eq_true_eq,decide_eq_false_iff_not,ge_iff_le,gt_iff_lt,beq_iff_eq,bne_iff_ne,ne_eq,Bool.or_eq_false_iff,Bool.and_eq_false_imp,Bool.not_true,Bool.not_false])
 try omega
theorem AJ (o:Int):∃ a b c,pM o=[.val (.string (zZ o)),PI a,PI b,PI c]∧(decide (1≤o∧o≤12) && ((b == 1 || b == 3) && (c == 2 || c == 3)))=du o:=by
 by_cases h:1≤o∧o≤12
 ·have:o=1∨o=2∨o=3∨o=4∨o=5∨o=6∨o=7∨o=8∨o=9∨o=10∨o=11∨o=12:=by omega
  rcases this with rfl|rfl|rfl|rfl|rfl|rfl|rfl|rfl|rfl|rfl|rfl|rfl <;> exact ⟨_,_,_,rfl,by decide +kernel⟩
 ·obtain ⟨a,b,c,e,_⟩:=pI o;refine ⟨a,b,c,e, ?_⟩;rw [decide_eq_false h,Bool.false_and,du];exact (decide_eq_false (by omega)).symm
theorem AF (o:Int):aA Sg 159 [I o] (fun x=>x = .b (B (du o))):=by
 obtain ⟨a,b,c,he,hn⟩:=AJ o;have hf:=pc o;rw [he] at hf;rw [← hn];refine aD Tryz.func159 [.tmp 2] ?_;repeat' (first|refine an (fun K hK => ?_)|refine aa (hf) ?_|refine ax ?_|(refine aq hK ?_;try clear hK K))
 rw [Bool.and_assoc]
def Ce (l:List Rect):PV := .lst 4 l.length (bK aQ l)
attribute [go_sem] Ce
theorem yY {l:List Rect} {i:Nat} (h:i<l.length):dZ (l.take (i+1))=jg (dZ (l.take i)) (l.getD i default):=by
 rw [List.take_add_one,List.getElem?_eq_getElem h,List.getD_eq_getElem?_getD,List.getElem?_eq_getElem h];exact yW _ _
theorem yx (l:List Rect) (hl:l.length≤4611686018427387904):aA Sg 120 [.c (.p (Ce l))] (fun x=>x = .b (ag (aQ (dZ l)))):=by
 refine aD Tryz.func120 [.cell 2 28] ?_;repeat' (refine aC ?_)
 refine aH (X:=Nat × Rect) (fun x=>aT [(2, .b (.c (.ptr 0 0))),(3, .b (.c (.ptr 1 0))),(6, .b (.c (.p (Ce l)))),(7, .b (I l.length)),(8, .b (I x.1))] [(0, .fix ((aQ dt).map CV.p)),(1, .fix ((aQ x.2).map CV.p))] 2)
  (fun x=>x.1≤l.length∧x.2=dZ (l.take x.1)) (fun x=>l.length - x.1) (0,dt) ?_ ?_ ?_
 ·exact ⟨by dsimp only;omega,rfl⟩
 ·refine au [(1,some 1)] ?_ ?_;and_intros;all_goals try exact aj
 ·rintro ⟨i,h⟩ ⟨hi,hh⟩;dsimp only at hi hh ⊢;have e0:=yY (l:=l) (i:=i);cases he:aP (l.getD i default) with
  | true =>
   repeat' (first|refine ah he ?_|refine ax ?_|refine an (fun K hK => ?_)|refine aa (cG (l.getD i default)) ?_|(refine aK (fun hb => ?_) (fun hb => ?_) <;> try exact aE)|(refine aq hK ?_;try clear hK K))
   ·rw [ae];refine ak (i+1,h) ?_ ⟨by dsimp only;omega,by rw [e0 (by omega),jg,if_pos he,hh]⟩ (by dsimp only;omega);refine au [(1,some 1)] ?_ ?_;and_intros;all_goals try exact aj
   ·rw [hh,show i=l.length by omega,List.take_length];rfl
  | false =>
   cases he2:aP h with
   | true =>
    repeat' (first|refine ah (And.intro he he2) ?_|refine ax ?_|refine an (fun K hK => ?_)|refine aa (cG (l.getD i default)) ?_|refine aa (cG h) ?_|(refine aK (fun hb => ?_) (fun hb => ?_) <;> try exact aE)|(refine aq hK ?_;try clear hK K))
    ·rw [ae];refine ak (i+1,l.getD i default) ?_ ⟨by dsimp only;omega,by rw [e0 (by omega),jg,if_neg (by rw [he];simp),← hh,if_pos he2]⟩ (by dsimp only;omega);refine au [(1,some 1)] ?_ ?_;and_intros;all_goals try exact aj
    ·rw [hh,show i=l.length by omega,List.take_length];rfl
   | false =>
    repeat' (first|refine ah (And.intro he he2) ?_|refine ax ?_|refine an (fun K hK => ?_)|refine aa (cG (l.getD i default)) ?_|refine aa (cG h) ?_|(refine aK (fun hb => ?_) (fun hb => ?_) <;> try exact aE)|(refine aq hK ?_;try clear hK K))
    ·rw [ae];refine ak (i+1,⟨min h.x0 (l.getD i default).x0,min h.y0 (l.getD i default).y0,max h.x1 (l.getD i default).x1,max h.y1 (l.getD i default).y1⟩) ?_ ⟨by dsimp only;omega,by rw [e0 (by omega),jg,if_neg (by rw [he];simp),← hh,if_neg (by rw [he2];simp)]⟩ (by dsimp only;omega);refine au [(1,some 1)] ?_ ?_;and_intros;all_goals try exact aj
    ·rw [hh,show i=l.length by omega,List.take_length];rfl
theorem ob {v:Int} (h:jD v=false) : -1099511627776≤v∧v≤1099511627776:=by simp only [jD,decide_eq_false_iff_not] at h;omega
theorem tM (s:Script) (i x y:Int) (hs:ScriptLen s):aA Sg 161 [ag (aF s),I i,I x,I y] (fun r=>r = .b (ag (aQ (eC s i x y)))):=by
 obtain ⟨h1,h2,h3⟩:=id hs;refine aD Tryz.func161 [.cell 8 28] ?_;cases hfar:(jD x || jD y || jD (s.images.getD i.toNat default).w || jD (s.images.getD i.toNat default).h) with
 | true =>
  repeat' (first|refine ah hfar ?_|refine ax ?_|refine an (fun K hK => ?_)|refine aa (iN x) ?_|refine aw (fun hg=>iN y) ?_|refine aw (fun hg=>iN (s.images.getD i.toNat default).w) ?_|refine aw (fun hg=>iN (s.images.getD i.toNat default).h) ?_|(refine aK (fun hb => ?_) (fun hb => ?_) <;> try exact aE)|(refine aq hK ?_;try clear hK K))
  ·rw [eC,if_pos (by omega)];rfl
  ·rw [eC,if_neg (by omega),if_pos hfar];rfl
 | false =>
  have hq:=hfar;simp only [Bool.or_eq_false_iff] at hq;have f1:=ob hq.1.1.1;have f2:=ob hq.1.1.2;have f3:=ob hq.1.2;have f4:=ob hq.2
  repeat' (first|refine ah hfar ?_|refine ax ?_|refine an (fun K hK => ?_)|refine aa (iN x) ?_|refine aw (fun hg=>iN y) ?_|refine aw (fun hg=>iN (s.images.getD i.toNat default).w) ?_|refine aw (fun hg=>iN (s.images.getD i.toNat default).h) ?_|refine aa (nz ⟨x,y,x+(s.images.getD i.toNat default).w,y+(s.images.getD i.toNat default).h⟩ s.canvas) ?_|(refine aK (fun hb => ?_) (fun hb => ?_) <;> try exact aE)|(refine aq hK ?_;try clear hK K))
  ·rw [eC,if_pos (by omega)];rfl
  ·rw [eC,if_neg (by omega),if_neg (by rw [hfar];simp)];rfl
theorem xd (s:Script) (o:Op) (hs:ScriptLen s):aA Sg 119 [ag (aF s),ag (fZ o)] (fun r=>r = .b (ag (aQ (bB s o)))):=by
 refine aD Tryz.func119 [.cell 4 28] ?_
 repeat' (first|refine ax ?_|refine an (fun K hK => ?_)|refine aa (tM s o.image o.x o.y hs) ?_|(refine aK (fun hb => ?_) (fun hb => ?_) <;> try exact aE)|(refine aq hK ?_;try clear hK K))
 ·rw [bB,if_neg (by omega)];rfl
 ·rw [bB,if_pos (by omega)];rfl
theorem xP (s:Script) (o:Op) (hs:ScriptLen s) (hm:0≤o.mask∧o.mask≤1000000):aA Sg 160 [ag (aF s),ag (fZ o)] (fun r=>r = .b (ag (aQ (cr s o)))):=by
 obtain ⟨m1,m2⟩:=hm;refine aD Tryz.func160 [.cell 4 28] ?_
 repeat' (first|refine ax ?_|refine an (fun K hK => ?_)|refine aa (nz s.canvas s.canvas) ?_|refine aa (tM s (o.mask - 1) o.maskX o.maskY hs) ?_|(refine aK (fun hb => ?_) (fun hb => ?_) <;> try exact aE)|(refine aq hK ?_;try clear hK K))
 ·rw [cr,if_pos (by omega)];rfl
 ·rw [cr,if_neg (by omega)];rfl
theorem By (s:Script) (o:Op) (r:Rect) (hs:ScriptLen s) (hm:0≤o.mask∧o.mask≤1000000):aA Sg 118 [ag (aF s),ag (fZ o),ag (aQ r)] (fun x=>x = .b (ag (aQ (gZ s o r)))):=by
 refine aD Tryz.func118 [.cell 6 28] ?_
 repeat' (first|refine ax ?_|refine an (fun K hK => ?_)|refine aa (AF o.operator) ?_|refine aa (xP s o hs hm) ?_|refine aa (nz r (cr s o)) ?_|(refine aK (fun hb => ?_) (fun hb => ?_) <;> try exact aE)|(refine aq hK ?_;try clear hK K))
 ·rw [gZ,if_pos hb];rfl
 ·rw [gZ,if_neg (by simp [*]),if_pos (by omega)];rfl
 ·rw [gZ,if_neg (by simp [*]),if_neg (by omega)];rfl
def BL (a b c d:Int) (k:Nat):Int:=[a,b,c,d].getD k 0
end
end Go.Proofs.YtcbifofjjpfbcaaGreatDoor
