/- Part of the proof: VA. -/
import Derived.Test.YtmfblbbemekkoaaGreatDoorK21
import Derived.Test.YtmfblbbemekkoaaGreatDoorK23
set_option linter.unusedSimpArgs false
set_option linter.unusedVariables false
set_option maxHeartbeats 8000000
set_option maxRecDepth 16000
namespace Go.Proofs.YtmfblbbemekkoaaGreatDoor
open Go Go.SL
open Go.RowKit (wrap64)
attribute [local go_sem] dI uB cO Int.toNat_natCast
theorem xn {l:List (Nat × SV)} {b:List (Nat × Bx)} {nx:Nat} (h:((b.map (·.1)).all fun i=>Nat.blt i nx)=true):dB 0 (aZ l b nx):=⟨fun i hi=>by
 have hi:nx≤i:=hi
 show fu b i=none
 cases hx:fu b i with
 | none=>rfl
 | some x =>
  have:=List.all_eq_true.1 h i (List.mem_map.2 ⟨_,fR hx,rfl⟩)
  have:=Nat.le_of_ble_eq_true this
  omega,Nat.zero_le _⟩
theorem mO {st:St} {id:Nat} {x:Bx} (hid:id<st.nx) (h:dB 0 st):dB 0 (st.setBox id x):=⟨fun i hi=>by
 have hi:st.nx≤i:=hi
 show (if i=id then some x else st.bx i)=none
 rw [if_neg (by omega)]
 exact h.1 i hi,Nat.zero_le _⟩
def xg (f:Nat→Nat→PV):List Lv→Prop
 | []=>True
 | t :: r=>eI (f r.length) t∧xg f r
theorem dL {f g:Nat→Nat→PV}:∀ {st:List Lv},(∀ i,i<st.length→∀ j,g i j=f i j)→xg f st→xg g st
 | [],_,_=>trivial
 | t :: r,h,⟨h1,h2⟩=>⟨fun j hj=>by rw [h r.length (by simp) j];exact h1 j hj,dL (fun i hi j=>h i (by simp;omega) j) h2⟩
theorem CY {s:Script} (V:VOps s) {i:Nat} (hi:i≤s.ops.length):(bR s.ops i).length≤64:=by
 cases hs:bR s.ops i with
 | nil=>simp
 | cons g r =>
  have hg:g<i:=rX (ops:=s.ops) (by rw [hs];exact List.mem_cons_self ..)
  have hk:(aO s.ops g).kind=2:=gX (i:=i) (by rw [hs];exact List.mem_cons_self ..)
  obtain ⟨_,_,_,q⟩:=cK.1 (V.ok g (by omega))
  obtain ⟨_,_,_,_,_,_,q7⟩:=q (by omega)
  have h7:=q7 hk
  have e:bR s.ops g=r:=pE (l:=[]) hs
  rw [List.length_map,List.length_reverse,e] at h7
  rw [List.length_cons];omega
def QQ (m:Int) (t:Lv):BV:=sI m 1 (fun _ j=>(uB t).getD j .any)
end Go.Proofs.YtmfblbbemekkoaaGreatDoor
