/-
  The law DamageUpdateAgrees of compositorlaw31 answers true for every scene, every row of numbers, every two arrays of four integers, every integer and every operation that it is given, and leaves all of them as they were. It asks nothing else of its arguments; the package-level variables that its row lists hold what the row says.
-/
import Derived.Test.YtdjmpacladhijaaGreatDoorZAJ
import Derived.Test.YtdjmpacladhijaaGreatDoorZBJ
set_option maxRecDepth 100000
namespace Go.Proofs.YtdjmpacladhijaaGreatDoor.damageUpdateAgrees
open Go.ChangeShapes Go.WideShapes Go.ChangeAt Go.RowKit Go.SL
theorem said:Rows.DamageUpdateAgreesSaid :=
 OpenClaim.holds_of_cond 3 Tryz.f3 rfl rfl rfl rfl rfl rfl rfl ⟨rfl,rfl,rfl,rfl,rfl⟩ rfl rfl rfl rfl rfl (by as_aux_lemma=>kernel_rfl) Tryz.func3 closed
  (of_decide_eq_true (by kernel_rfl)) (by unfold Func.isWrapper;first|(rw [if_pos (by decide +kernel)];kernel_rfl)|(rw [if_neg (by decide +kernel)];exact ⟨rfl,rfl⟩))
  (fun os started H enc _ F=>by rw [OpenClaim.pre_eq_preRow];exact lifted os started H enc F)
theorem plain (f : FuncId) (fn : Func) (hf : Tryz.pinned.checked.prog.funcNamed Rows.damageUpdateAgreesRow.func = some f) (hfn : Tryz.pinned.checked.prog.funcs[f]? = some fn) :
  false=Tryz.pinned.checked.prog.looks []∧∀ (j:Nat) t,fn.params[j]?=some t→Tryz.pinned.checked.prog.wantsStandIn t=false:=by
 obtain rfl:f=3:=Option.some.inj ((show Tryz.prog.funcNamed Rows.damageUpdateAgreesRow.func=some 3 by kernel_rfl).symm.trans hf) |>.symm
 obtain rfl:fn=Tryz.f3:=(Option.some.inj (Tryz.func3.symm.trans hfn)).symm
 have all:(Tryz.f3.params.toList.all fun t => !Tryz.pinned.checked.prog.wantsStandIn t)=true:=by kernel_rfl
 refine ⟨by kernel_rfl,fun j t ht => ?_⟩
 have:=List.all_eq_true.1 all t (by rw [Array.mem_toList_iff];exact Array.mem_of_getElem? ht)
 simpa using this
end Go.Proofs.YtdjmpacladhijaaGreatDoor.damageUpdateAgrees
