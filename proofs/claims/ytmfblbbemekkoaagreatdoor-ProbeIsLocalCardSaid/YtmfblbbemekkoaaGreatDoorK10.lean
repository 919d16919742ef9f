/- Part of the proof: F3, F8, F5, F14, F9. -/
import Derived.Test.YtmfblbbemekkoaaGreatDoorK6
set_option linter.unusedSimpArgs false
set_option linter.unusedVariables false
set_option maxRecDepth 16000
namespace Go.Proofs.YtmfblbbemekkoaaGreatDoor
open Go Go.SL
open Go.RowKit (wrap64)
def lM (r:Raw) (push:Bool) (images:Int) (cx cy:Int) (free:Bool) (m:Int):Op :=
 { kind:=if push then 2 else 1,image:=if push then 0 else r.image % images,x:=if push then 0 else fG r.x cx,y:=if push then 0 else fG r.y cy,mask:=if r.mask % 4=0 then 1+r.mask.tdiv 4 % images else 0,maskX:=if r.mask % 4=0 then fG r.maskX cx else 0,maskY:=if r.mask % 4=0 then fG r.maskY cy else 0,opacity:=if r.opacity % 2=0 then bY (r.opacity.tdiv 2) m else m,operator:=if free=true∧r.operator % 2=0 then 1+r.operator.tdiv 2 % 12 else 4,mode:=if r.mode % 2=0 then 1+r.mode.tdiv 2 % 12 else 1,isolated:=push && (r.flags % 2 == 0),knockout:=push && (r.flags.tdiv 2 % 3 == 0) }
structure RawOk (r:Raw):Prop where
 kind:i64 r.kind
 image:i64 r.image
 x:i64 r.x
 y:i64 r.y
 mask:i64 r.mask
 maskX:i64 r.maskX
 maskY:i64 r.maskY
 opacity:i64 r.opacity
 operator:i64 r.operator
 mode:i64 r.mode
 flags:i64 r.flags
theorem dM (n c:Int):c - 4≤fG n c∧fG n c≤c+4:=by
 unfold fG;split <;> omega
set_option maxHeartbeats 4000000 in
theorem GO (r : Raw) (push : Bool) (images : Int) (c : Rect) (free : Bool) (m : Int) (hr : RawOk r) (hi1 : 1 ≤ images) (hi2 : images ≤ 1000000) (hc1 : -2000000000 ≤ c.x0) (hc2 : c.x0 ≤ 2000000000) (hc3 : -2000000000 ≤ c.y0) (hc4 : c.y0 ≤ 2000000000) (hm : u16 m) :
  aD Sg 18 [ag (Hj r),B push,I images,ag (fk c),B free,U m] (fun x=>x = .b (ag (dJ (lM r push images c.x0 c.y0 free m)))):=by
 obtain ⟨⟨a1,a2⟩,⟨b1,b2⟩,⟨c1,c2⟩,⟨d1,d2⟩,⟨e1,e2⟩,⟨f1,f2⟩,⟨g1,g2⟩,⟨h1,h2⟩,⟨i1,i2⟩,⟨j1,j2⟩,⟨k1,k2⟩⟩:=hr
 have q1:=dM r.x c.x0
 have q2:=dM r.y c.y0
 have q3:=dM r.maskX c.x0
 have q4:=dM r.maskY c.y0
 have q5:=dk (r.opacity.tdiv 2) m hm.1
 have q6:=Int.emod_nonneg (r.mask.tdiv 4) (show images≠0 by omega)
 have q7:=Int.emod_lt_of_pos (r.mask.tdiv 4) (show 0<images by omega)
 have w1:=rI (r.opacity.tdiv 2)
 rw [Ar h1 h2 (by omega)] at w1
 obtain ⟨hm1,hm2⟩:=hm
 refine aC Tryz.func18 [.cell 12 29] ?_
 repeat' (first|refine ak ?_|((first|refine ai (fun K hK => ?_)|refine ae (cl _ _ (by omega) (by omega)) ?_|refine aE (fun hg=>cl _ _ (by omega) (by omega)) ?_|refine ae (pg _ _ ⟨by omega,by omega⟩ ⟨by omega,by omega⟩) ?_|refine ae (xP _ _ ⟨by omega,by omega⟩ (by omega) (by omega)) ?_);and_intros;all_goals first|(refine hK _ ?_;clear hK K)|try exact aa)|(apply eE;(case hf=>rfl);(case hc=>exact eC);(all_goals first|(intro hb;(try simp only [qK] at hb))|skip))|exact bO|(refine an ?_;(try clear hB KB);(try clear hK K)))
 cases push <;> cases free <;> simp [lM]
end Go.Proofs.YtmfblbbemekkoaaGreatDoor
set_option maxHeartbeats 2000000
set_option maxRecDepth 16000
namespace Go.Proofs.YtmfblbbemekkoaaGreatDoor
open Go Go.SL
open Go.RowKit (wrap64)
def bQ (r:Rect) (w h:Int):Bool := !bM r && decide (1≤w∧1≤h∧w≤r.x1 - r.x0∧h≤r.y1 - r.y0)
def dv (r:Rect) (w h:Int):Int:=if bQ r w h=true then (r.x1 - r.x0 - 1) / w+1 else 0
def dz (r:Rect) (w h:Int):Int:=if bQ r w h=true then (r.y1 - r.y0 - 1) / h+1 else 0
theorem ye {W w : Int} (h1 : 1 ≤ W) (h2 : W ≤ 2147483648) (h3 : 1 ≤ w) (h4 : w ≤ W) :
  IntKind.i64.wrap (IntKind.i64.wrap ((IntKind.i64.wrap (IntKind.i64.wrap W - 1)).tdiv w)+1)=(W - 1) / w+1:=by
 have b1:0≤(W - 1) / w:=Int.ediv_nonneg (by omega) (by omega)
 have b2:(W - 1) / w≤W - 1:=Int.ediv_le_self _ (by omega)
 rw [ef (n:=W) (by omega) (by omega),ef (n:=W - 1) (by omega) (by omega),Dx (by omega),ef (n:=(W - 1) / w) (by omega) (by omega),ef (by omega) (by omega)]
theorem tx {W w : Int} (h1 : 1 ≤ W) (h2 : W ≤ 2147483648) (h3 : 1 ≤ w) (h4 : w ≤ W) :
  IntKind.i64.wrap ((IntKind.i64.wrap (IntKind.i64.wrap (IntKind.i64.wrap W+w) - 1)).tdiv w)=(W - 1) / w+1:=by
 have b1:0≤(W - 1) / w:=Int.ediv_nonneg (by omega) (by omega)
 have b2:(W - 1) / w≤W - 1:=Int.ediv_le_self _ (by omega)
 have e:(W+w - 1) / w=(W - 1) / w+1:=by
  rw [show W+w - 1=(W - 1)+1 * w by omega,Int.add_mul_ediv_right _ _ (by omega)]
 rw [ef (n:=W) (by omega) (by omega),ef (n:=W+w) (by omega) (by omega),ef (n:=W+w - 1) (by omega) (by omega),Dx (by omega),e,ef (by omega) (by omega)]
theorem yA (r:Rect) (w h:Int):aD Sg 43 [ag (fk r),I w,I h] (fun x=>x = .tup [I (dv r w h),I (dz r w h),B (bQ r w h)]):=by
 refine aC Tryz.func43 [.tmp 6, .tmp 7, .tmp 8] ?_
 repeat' (first|refine ak ?_|((first|refine ai (fun K hK => ?_)|refine ae (sM _) ?_);and_intros;all_goals first|(refine hK _ ?_;clear hK K)|try exact aa)|(refine bc (fun hb => ?_) (fun hb => ?_);all_goals try exact aJ)|(refine an ?_;(try clear hB KB);(try clear hK K)))
 ·have:bQ r w h=false:=by
   cases he:bM r with
   | true=>simp [bQ,he]
   | false =>
    have hb2:=dR (r:=r) (by simp [he])
    rw [he,ef (n:=r.x1 - r.x0) (by omega) (by omega),ef (n:=r.y1 - r.y0) (by omega) (by omega)] at hb
    simp only [bQ,he,Bool.not_false,Bool.true_and,decide_eq_false_iff_not]
    simp only [Bool.false_eq_true,false_or] at hb
    omega
  simp only [dv,dz,this,Bool.false_eq_true,if_false]
 ·have hb2:=dR (r:=r) (by simp [hb.1.1.1.1])
  rw [ef (n:=r.x1 - r.x0) (by omega) (by omega),ef (n:=r.y1 - r.y0) (by omega) (by omega)] at hb
  have ht:bQ r w h=true:=by
   simp only [bQ,hb.1.1.1.1,Bool.not_false,Bool.true_and,decide_eq_true_eq]
   omega
  rw [ye (by omega) (by omega) (by omega) (by omega),ye (by omega) (by omega) (by omega) (by omega),dv,dz,if_pos ht,if_pos ht,ht]
theorem rN (r:Rect) (w h:Int):aD Sg 125 [ag (fk r),I w,I h] (fun x=>x = .tup [I (dv r w h),I (dz r w h),B (bQ r w h)]):=by
 refine aC Tryz.func125 [.tmp 6, .tmp 7, .tmp 8] ?_
 repeat' (first|refine ak ?_|((first|refine ai (fun K hK => ?_)|refine ae (iH _) ?_);and_intros;all_goals first|(refine hK _ ?_;clear hK K)|try exact aa)|(refine bc (fun hb => ?_) (fun hb => ?_);all_goals try exact aJ)|(refine an ?_;(try clear hB KB);(try clear hK K)))
 ·have:bQ r w h=false:=by simp [bQ,hb]
  simp only [dv,dz,this,Bool.false_eq_true,if_false]
 ·rename_i he
  have hb2:=dR (r:=r) (by simp [he])
  rw [ef (n:=r.x1 - r.x0) (by omega) (by omega),ef (n:=r.y1 - r.y0) (by omega) (by omega)] at hb
  have:bQ r w h=false:=by
   simp only [bQ,he,Bool.not_false,Bool.true_and,decide_eq_false_iff_not]
   omega
  simp only [dv,dz,this,Bool.false_eq_true,if_false]
 ·rename_i he
  have hb2:=dR (r:=r) (by simp [he])
  rw [ef (n:=r.x1 - r.x0) (by omega) (by omega),ef (n:=r.y1 - r.y0) (by omega) (by omega)] at hb
  have ht:bQ r w h=true:=by
   simp only [bQ,he,Bool.not_false,Bool.true_and,decide_eq_true_eq]
   omega
  rw [tx (by omega) (by omega) (by omega) (by omega),tx (by omega) (by omega) (by omega) (by omega),dv,dz,if_pos ht,if_pos ht,ht]
end Go.Proofs.YtmfblbbemekkoaaGreatDoor
set_option maxRecDepth 16000
namespace Go.Proofs.YtmfblbbemekkoaaGreatDoor
open Go Go.SL
open Go.RowKit (wrap64)
def fC (l:List Int):Nat→Nat→List Int→List Int
 | 0,_,_=>[]
 | k+1,i,rest=>rest.getD (xH l i % rest.length).toNat 0 :: fC l k (i+1) (rest.eraseIdx (xH l i % rest.length).toNat)
def ma (n:Nat):List Int:=(List.range n).map fun (i:Nat)=>(i:Int)
def kN (l:List Int) (n:Int):List Int:=if l.length=0∨n>64 then [] else fC l n.toNat 0 (ma n.toNat)
theorem fK (n:Nat):(ma n).length=n:=by simp [ma]
set_option maxHeartbeats 4000000 in
theorem ou (l : List Int) (n : Int) (hl : l.length ≤ 4611686018427387904) (hn : 0 ≤ n) :
  aD Sg 44 [.c (.p (eT l)),I n] (fun x=>x = .b (.c (.p (eT (kN l n))))):=by
 refine lv ?_
 refine aC Tryz.func44 [.tmp 4] ?_
 repeat' (first|refine ak ?_|(refine ai (fun K hK => ?_);and_intros;all_goals first|(refine hK _ ?_;clear hK K)|try exact aa)|(refine bc (fun hb => ?_) (fun hb => ?_);all_goals try exact aJ)|(refine an ?_;(try clear hB KB);(try clear hK K)))
 ·rw [kN,if_pos (by omega)]
  exact Ai (oW iY)
 refine aS (X:=Nat) (fun i=>aZ [(0, .b (.c (.p (eT l)))),(1, .b (I n)),(5, .b (.c (.own 1 n.toNat))),(6, .b (I i))]
  [(1, .arr 3 1 n.toNat (fun a _=>PI (if a<i then a else 0)))] 2) (fun i=>(i:Int)≤n) (fun i=>n.toNat - i) 0 ?_ ?_ ?_
 ·omega
 ·refine ay [(1,some 0)] ?_ ?_
  and_intros
  all_goals first|exact ao|skip
  refine .inr fun a ha j hj => ?_
  have:j=0:=by omega
  subst this
  rw [if_neg (by omega)]
  exact PV.le_refl _
 ·intro i hi
  repeat' (first|refine ak ?_|(refine ai (fun K hK => ?_);and_intros;all_goals first|(refine hK _ ?_;clear hK K)|try exact aa)|(refine bc (fun hb => ?_) (fun hb => ?_);all_goals try exact aJ))
  ·rw [ah]
   refine au (i+1) ?_ (by omega) (by omega)
   refine ay [(1,some 1)] ?_ ?_
   and_intros
   all_goals first|exact ao|skip
   refine .inr fun a ha j hj => ?_
   have:j=0:=by omega
   subst this
   simp only [Int.toNat_natCast]
   by_cases h:a=i
   ·subst h
    rw [if_pos rfl,if_pos (by omega),if_pos (by omega)]
    exact PV.le_refl _
   ·rw [if_neg h]
    by_cases h2:a<i
    ·rw [if_pos h2,if_pos (by omega)];exact PV.le_refl _
    ·rw [if_neg h2,if_neg (by omega)];exact PV.le_refl _
  have hin:i=n.toNat:=by omega
  refine aS (X:=Nat × List Int × List Int) (fun x=>aZ [(0, .b (.c (.p (eT l)))),(5, .b (.c (.p (eT x.2.1)))),(7, .b (.c (.own 1 x.2.2.length))),(8, .b (I x.1))]
   [(1, .arr 3 1 x.2.2.length (bd HU x.2.2))] 2)
   (fun x=>x.2.2 ++ fC l x.2.1.length x.1 x.2.1=kN l n∧x.1+x.2.1.length≤64∧x.2.2.length=x.1) (fun x=>x.2.1.length) (0,ma n.toNat,[]) ?_ ?_ ?_
  ·refine ⟨?_, ?_,rfl⟩
   ·simp only [fK,List.nil_append]
    rw [kN,if_neg (by omega)]
   ·simp only [fK];omega
  ·refine ay [(1,none)] ?_ ?_
   and_intros
   all_goals first|exact ao|skip
   ·exact (fK _).symm
   ·intro a ha j hj
    have:j=0:=by omega
    subst this
    rw [if_pos (by omega),show (ma n.toNat).getD a default=a by simp [ma,ha]]
    exact PV.le_refl _
  ·rintro ⟨i2,rest,out⟩ ⟨h1,h2,h3⟩
   dsimp only at h1 h2 h3 ⊢
   have q1:0<rest.length→0≤xH l i2 % rest.length∧xH l i2 % rest.length<rest.length:=fun h=>⟨Int.emod_nonneg _ (by omega),Int.emod_lt_of_pos _ (by omega)⟩
   repeat' (first|refine ak ?_|((first|refine ai (fun K hK => ?_)|refine ae (cl _ _ (by omega) (by omega)) ?_|refine ae (Ht _ _) ?_);and_intros;all_goals first|(refine hK _ ?_;clear hK K)|try exact aa)|(refine bc (fun hb => ?_) (fun hb => ?_);all_goals try exact aJ)|(refine an ?_;(try clear hB KB);(try clear hK K)))
   ·rw [ah]
    have hk:(xH l i2 % rest.length).toNat<rest.length:=by omega
    have hk2:(xH l i2 % rest.length+1).toNat=(xH l i2 % rest.length).toNat+1:=by omega
    generalize hkd:(xH l i2 % rest.length).toNat=k at *
    refine au (i2+1,rest.eraseIdx k,out ++ [rest.getD k 0]) ?_ ?_ ?_
    ·refine ay [(1,some 3)] ?_ ?_
     and_intros
     all_goals first|exact ao|skip
     ·rw [List.length_eraseIdx,if_pos hk];omega
     ·intro a ha j hj
      have:j=0:=by omega
      subst this
      have e:(rest.eraseIdx k).getD a default=if a<k then rest.getD a default else rest.getD (a+1) default:=by
       simp only [List.getD_eq_getElem?_getD,List.getElem?_eraseIdx]
       split <;> rfl
      rw [e,hk2]
      by_cases h:a<k
      ·simp only [ix,Nat.sub_zero,Nat.zero_add,if_pos h]
       exact PV.le_refl _
      ·simp only [ix,Nat.sub_zero,if_neg h]
       rw [show k+1+(a - k)=a+1 by omega]
       exact PV.le_refl _
     ·simp
     ·simp
     ·refine .inr (dC (enc:=HU) fun j hj => ?_)
      have:j=0:=by omega
      subst this
      rfl
    ·obtain ⟨m,hm⟩:∃ m,rest.length=m+1:=⟨rest.length - 1,by omega⟩
     have hl2:(rest.eraseIdx k).length=m:=by rw [List.length_eraseIdx,if_pos hk];omega
     refine ⟨?_, ?_, ?_⟩
     ·rw [← h1,hm]
      dsimp only
      rw [hl2,List.append_assoc]
      simp only [fC,List.cons_append,List.nil_append,hm] at hkd ⊢
      rw [hkd]
     ·dsimp only;omega
     ·simp [h3]
    ·dsimp only
     rw [List.length_eraseIdx,if_pos hk];omega
   ·have hr0:rest=[]:=List.eq_nil_of_length_eq_zero (by omega)
    subst hr0
    have:out=kN l n:=by simpa [fC] using h1
    rw [this]
    exact Ai (oW (PV.le_refl _))
end Go.Proofs.YtmfblbbemekkoaaGreatDoor
set_option maxHeartbeats 2000000
set_option maxRecDepth 16000
namespace Go.Proofs.YtmfblbbemekkoaaGreatDoor
open Go Go.SL
open Go.RowKit (wrap64)
def oB (x:List Int) (n:Int) (i:Nat):Bool:=decide (0≤x.getD i 0∧x.getD i 0<n) && !(x.take i).contains (x.getD i 0)
def kv (l:List Int) (n:Int):List Int:=if l.length=0 then ma n.toNat else l
def gR (l:List Int) (n:Int):Bool:=decide (0≤n∧n≤16777216∧(l.length=0∨l.length=n)) && (List.range n.toNat).all (oB (kv l n) n)
def vA (l:List Int) (n:Int):List Int:=if gR l n=true then kv l n else []
theorem AP {n i:Nat} (h:i<n):(ma n).getD i 0=i:=by simp [ma,h]
theorem vV {l:List Int} {n:Int} (h0:0≤n) (h:l.length=0∨l.length=n):(kv l n).length=n.toNat:=by
 unfold kv;split
 ·exact fK _
 ·omega
theorem CG {l:List Int} {n:Int} {i:Nat} (h0:0≤n) (hi:(i:Int)<n) (h:oB (kv l n) n i=false):gR l n=false:=by
 rw [gR,Bool.and_eq_false_imp]
 intro _
 rw [List.all_eq_false]
 exact ⟨i,List.mem_range.2 (by omega),by simp [h]⟩
def zN (x:List Int) (i:Nat):Nat→Nat→PV:=fun a _=>PB ((x.take i).contains (a:Int))
theorem Bm {x:List Int} {i:Nat} (hi:i<x.length) (h0:0≤x.getD i 0) (a j:Nat):(if a=(x.getD i 0).toNat then PB true else zN x i a j)=zN x (i+1) a j:=by
 have e:x.take (i+1)=x.take i ++ [x.getD i 0]:=by
  rw [List.take_add_one,List.getElem?_eq_getElem hi,List.getD_eq_getElem?_getD,List.getElem?_eq_getElem hi];rfl
 have h:(x.take (i+1)).contains (a:Int)=((x.take i).contains (a:Int) || decide ((a:Int)=x.getD i 0)):=by
  rw [e,Bool.eq_iff_iff]
  simp
 unfold zN
 rw [h]
 by_cases ha:a=(x.getD i 0).toNat
 ·rw [if_pos ha,decide_eq_true (by omega),Bool.or_true]
 ·rw [if_neg ha,decide_eq_false (by omega),Bool.or_false]
theorem kE (l : List Int) (n : Int) (hl : l.length ≤ 4611686018427387904) :
  aD Sg 126 [.c (.p (eT l)),I n] (fun r=>r = .tup [.c (.p (eT (vA l n))),B (gR l n)]):=by
 refine lv ?_
 refine aC Tryz.func126 [.tmp 4, .tmp 5] ?_
 repeat' (first|refine ak ?_|(refine ai (fun K hK => ?_);and_intros;all_goals first|(refine hK _ ?_;clear hK K)|try exact aa)|(refine bc (fun hb => ?_) (fun hb => ?_);all_goals try exact aJ)|(refine an ?_;(try clear hB KB);(try clear hK K)))
 ·have:gR l n=false:=by
   rw [gR,decide_eq_false (by omega)];rfl
  rw [vA,this]
  exact lg ⟨oW iY,nL trivial,trivial⟩
 refine aS (X:=Nat) (fun i=>aZ [(0, .b (.c (.p (eT l)))),(1, .b (I n)),(6, .b (.c (.own 1 n.toNat))),(7, .b (.c (.own 2 n.toNat))),(31, .b (I n)),(32, .b (I i))]
  [(1, .arr 3 1 n.toNat (fun a _=>PI (if a<i then (kv l n).getD a 0 else 0))),(2, .arr 4 1 n.toNat (zN (kv l n) i))] 3) (fun i=>(i:Int)≤n∧∀ k,k<i→oB (kv l n) n k=true) (fun i=>n.toNat - i) 0 ?_ ?_ ?_
 ·exact ⟨by omega,fun k hk=>by omega⟩
 ·refine ay [(1,some 0),(2,some 1)] ?_ ?_
  and_intros
  all_goals first|exact ao|skip
  ·rw [Int.toNat_of_nonneg (by omega)];exact .inl rfl
  ·refine .inr fun a ha j hj => ?_
   have:j=0:=by omega
   subst this
   exact PV.le_refl _
  ·refine .inr fun a ha j hj => ?_
   have:j=0:=by omega
   subst this
   exact PV.le_refl _
 ·rintro i ⟨hi,hok⟩
  have hx:i<n.toNat→(0≤n∧(l.length=0∨l.length=n))→(if 0<(l.length:Int) then l.getD (i:Int).toNat default else (i:Int))=(kv l n).getD i 0:=fun h1 h2=>by
   rw [kv,Int.toNat_natCast]
   by_cases h0:l.length=0
   ·rw [if_neg (by omega),if_pos h0,AP h1]
   ·rw [if_pos (by omega),if_neg h0];rfl
  repeat' (first|refine ak ?_|(refine ai (fun K hK => ?_);and_intros;all_goals first|(refine hK _ ?_;clear hK K)|try exact aa)|(apply eE;(case hf=>rfl);(case hc=>exact eC);(all_goals first|(intro hb;(try simp only [qK] at hb))|skip))|exact bO|(refine bc (fun hb => ?_) (fun hb => ?_);all_goals try exact aJ)|(refine an ?_;(try clear hB KB);(try clear hK K)))
  ·rw [hx (by omega) (by omega)] at hb
   have:gR l n=false:=by
    refine CG (i:=i) (by omega) (by omega) ?_
    rw [oB]
    by_cases h1:0≤(kv l n).getD i 0∧(kv l n).getD i 0<n
    ·rcases hb with h|h
     ·omega
     ·rw [Int.toNat_of_nonneg h1.1] at h
      rw [h];simp
    ·rw [decide_eq_false h1];rfl
   rw [vA,this]
   exact lg ⟨oW iY,nL trivial,trivial⟩
  ·rw [hx (by omega) (by omega)] at hb
   rw [ah]
   refine au (i+1) ?_ ⟨by omega,fun k hk => ?_⟩ (by omega)
   ·have hlen:=vV (l:=l) (n:=n) (by omega) (by omega)
    refine ay [(1,some 1),(2,some 2)] ?_ ?_
    and_intros
    all_goals first|exact ao|skip
    ·refine .inr fun a ha j hj => ?_
     have:j=0:=by omega
     subst this
     have e:∀ p:Prop,[Decidable p]→(if p then PI (l.getD (i:Int).toNat default) else PI (i:Int))=PI (if p then l.getD (i:Int).toNat default else (i:Int)):=fun p _=>by split <;> rfl
     by_cases h:a=i
     ·subst h
      simp only [Int.toNat_natCast,gt_iff_lt] at hx ⊢
      have e2:(if a<a+1 then (kv l n).getD a 0 else 0)=(if 0<(l.length:Int) then l.getD a default else (a:Int)):=by rw [hx (by omega) (by omega),if_pos (by omega)]
      rw [e2]
      by_cases q:0<(l.length:Int)
      ·simp only [if_pos q];exact PV.le_refl _
      ·simp only [if_neg q];exact PV.le_refl _
     ·simp only [Int.toNat_natCast,gt_iff_lt,if_neg h]
      rw [show (if a<i+1 then (kv l n).getD a 0 else 0)=(if a<i then (kv l n).getD a 0 else 0) by
       by_cases h2:a<i
       ·rw [if_pos h2,if_pos (by omega)]
       ·rw [if_neg h2,if_neg (by omega)]]
      split <;> exact PV.le_refl _
    ·refine .inr fun a ha j hj => ?_
     have:j=0:=by omega
     subst this
     simp only [gt_iff_lt,hx (by omega) (by omega)]
     rw [← Bm (by omega) hb.1.1]
     by_cases h:a=((kv l n).getD i 0).toNat
     ·rw [if_pos h,if_pos h];exact PV.le_refl _
     ·rw [if_neg h,if_neg h];exact PV.le_refl _
   ·by_cases h:k=i
    ·subst h
     rw [Int.toNat_of_nonneg hb.1.1] at hb
     rw [oB,decide_eq_true hb.1,hb.2];rfl
    ·exact hok k (by omega)
  ·have e:gR l n=true:=by
    rw [gR,decide_eq_true (by omega),Bool.true_and,List.all_eq_true]
    exact fun k hk=>hok k (by have:=List.mem_range.1 hk;omega)
   have hlen:=vV (l:=l) (n:=n) (by omega) (by omega)
   rw [vA,if_pos e,e,hlen]
   refine lg ⟨oW (mC fun a ha j hj => ?_),nL trivial,trivial⟩
   have:j=0:=by omega
   subst this
   rw [if_pos (by omega)];rfl
end Go.Proofs.YtmfblbbemekkoaaGreatDoor
set_option maxHeartbeats 2000000
set_option maxRecDepth 16000
namespace Go.Proofs.YtmfblbbemekkoaaGreatDoor
open Go Go.SL
open Go.RowKit (wrap64)
def fH (o:Op):Bool :=
 if o.kind=3 then decide (o.image=0∧o.x=0∧o.y=0∧o.mask=0∧o.maskX=0∧o.maskY=0∧o.opacity=0∧o.operator=0∧o.mode=0∧o.isolated=false∧o.knockout=false)
 else if o.kind=1∧(o.isolated=true∨o.knockout=true) then false
 else if o.kind=2∧(o.image≠0∨o.x≠0∨o.y≠0) then false
 else decide (o.mask≠0∨o.maskX=0∧o.maskY=0)
theorem xi (o:Op):aD Sg 185 [ag (dJ o)] (fun x=>x = .b (B (fH o))):=by
 refine aC Tryz.func185 [.tmp 2] ?_
 repeat' (first|refine ak ?_|(refine ai (fun K hK => ?_);and_intros;all_goals first|(refine hK _ ?_;clear hK K)|try exact aa)|(refine bc (fun hb => ?_) (fun hb => ?_);all_goals try exact aJ)|(refine an ?_;(try clear hB KB);(try clear hK K)))
 ·refine fo ?_
  rw [fH,if_pos hb]
  simp only [hb,Bool.and_true,Bool.and_eq_true,beq_iff_eq,Bool.not_eq_true',decide_eq_true_eq,true_and]
 ·rw [fH,if_neg (by omega),if_pos hb]
 ·rename_i h1 h2
  rw [fH,if_neg h1,if_neg (fun h=>by have:=h2 h.1;simp [this.1,this.2] at h),if_pos (by omega)]
 ·rename_i h1 h2
  refine fo ?_
  rw [fH,if_neg h1,if_neg (fun h=>by have:=h2 h.1;simp [this.1,this.2] at h),if_neg (by omega)]
  simp only [Bool.or_eq_true,Bool.and_eq_true,beq_iff_eq,bne_iff_ne,decide_eq_true_eq,ne_eq]
theorem vL (l:List Op) (hl:l.length≤4611686018427387904):aD Sg 188 [.c (.p (kq l))] (fun x=>x = .b (B (l.isEmpty || ((l.getD (l.length - 1) default).isolated && !(l.getD (l.length - 1) default).knockout)))):=by
 refine aC Tryz.func188 [.tmp 2] ?_
 repeat' (first|refine ak ?_|(refine ai (fun K hK => ?_);and_intros;all_goals first|(refine hK _ ?_;clear hK K)|try exact aa)|(refine bc (fun hb => ?_) (fun hb => ?_);all_goals try exact aJ)|(refine an ?_;(try clear hB KB);(try clear hK K)))
 ·have:l=[]:=List.eq_nil_of_length_eq_zero (by omega)
  subst this;rfl
 ·have h1:((l.length:Int) - 1).toNat=l.length - 1:=by omega
  have h2:l.isEmpty=false:=by cases l <;> simp_all
  rw [h1,h2];rfl
theorem tX (l:List Int) (hl:l.length≤4611686018427387904):aD Sg 160 [.c (.p (eT l))] (fun x=>x = .b (B (bC 1048576 l))):=by
 refine aC Tryz.func160 [.tmp 2] ?_
 repeat' (first|refine ak ?_|(refine ai (fun K hK => ?_);and_intros;all_goals first|(refine hK _ ?_;clear hK K)|try exact aa))
 refine aS (X:=Nat) (fun i=>aZ [(5, .b (.c (.p (eT l)))),(6, .b (I l.length)),(7, .b (I i))] [] 1) (fun i=>i≤l.length∧(l.take i).all (fun v=>decide (-1048576≤v∧v≤1048576))=true) (fun i=>l.length - i) 0 ?_ ?_ ?_
 ·exact ⟨by omega,rfl⟩
 ·refine ay [] ?_ ?_
  and_intros
  all_goals first|exact ao|skip
 ·rintro i ⟨hi,ht⟩
  repeat' (first|refine ak ?_|(refine ai (fun K hK => ?_);and_intros;all_goals first|(refine hK _ ?_;clear hK K)|try exact aa)|(refine bc (fun hb => ?_) (fun hb => ?_);all_goals try exact aJ)|(refine an ?_;(try clear hB KB);(try clear hK K)))
  ·have:bC 1048576 l=false:=by
    rw [bC,List.all_eq_false]
    refine ⟨l.getD i default, ?_, ?_⟩
    ·rw [List.getD_eq_getElem?_getD,List.getElem?_eq_getElem (by omega)];exact List.getElem_mem _
    ·simp only [decide_eq_true_eq];simp only [Int.toNat_natCast] at hb;omega
   rw [this]
  ·rw [ah]
   refine au (i+1) ?_ ⟨by omega, ?_⟩ (by omega)
   ·refine ay [] ?_ ?_
    and_intros
    all_goals first|exact ao|skip
   ·rw [List.take_add_one,List.all_append,ht,List.getElem?_eq_getElem (by omega)]
    simp only [Int.toNat_natCast,List.getD_eq_getElem?_getD,List.getElem?_eq_getElem (show i<l.length by omega),Option.getD_some] at hb
    simp only [Option.toList_some,List.all_cons,List.all_nil,Bool.and_true,Bool.true_and,decide_eq_true_eq]
    omega
  ·have:bC 1048576 l=true:=by
    rw [bC]
    rwa [List.take_of_length_le (by omega)] at ht
   rw [this]
end Go.Proofs.YtmfblbbemekkoaaGreatDoor
