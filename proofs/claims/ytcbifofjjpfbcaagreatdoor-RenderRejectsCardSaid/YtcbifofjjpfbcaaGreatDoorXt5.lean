/- What the last text needs besides. -/
import Derived.Test.YtcbifofjjpfbcaaGreatDoorM37
set_option linter.unusedSimpArgs false
set_option linter.unusedVariables false
namespace Go.SL
open Go Go.ChangeShapes
theorem cdc_bool {P:Program} {t:TypeId} (ht:P.underlying t=some .bool):qN P t (fun b=>[PV.val (.bool b)]) (fun _=>True):=by
 intro H enc w sp held fuel cs x hx _
 obtain ⟨b,rfl,_⟩:=DataW.trod_bool ht hx
 exact ⟨b,trivial,Cells.one1 rfl rfl⟩
section
variable {H:Type} {enc:TypeId × Value→H} {P:Program}
end
end Go.SL
set_option maxRecDepth 8000
namespace Go.Proofs.YtcbifofjjpfbcaaGreatDoor
open Go Go.SL
theorem wf_u16 {n:Int} (h:(Lit.int .u16 n).wf=true):u16 n:=bounds_u16 h
theorem c_u16:qN Sg.P 34 (fun n=>[PU n]) u16:=(Rm (k := .u16) (by kernel_rfl)).to id (fun _=>rfl) (fun _ h=>wf_u16 h)
theorem c_bool:qN Sg.P 4 (fun b=>[PB b]) (fun _=>True):=cdc_bool (by kernel_rfl)
theorem c_op:qN Sg.P 74 fZ (fun o=>i64 o.kind∧i64 o.image∧i64 o.x∧i64 o.y∧i64 o.mask∧i64 o.maskX∧i64 o.maskY∧u16 o.opacity∧i64 o.operator∧i64 o.mode):=by
 refine qN.to (iy ?_ ?_ (aV dH rfl (aV dH rfl (aV dH rfl (aV dH rfl (aV dH rfl (aV dH rfl (aV dH rfl (aV c_u16 rfl (aV dH rfl (aV dH rfl (aV c_bool rfl (aV c_bool rfl kX)))))))))))))
  (fun (a,b,c,d,e,f,g,h,i,j,k,l,_)=>(⟨a,b,c,d,e,f,g,h,i,j,k,l⟩:Op)) (fun _=>rfl) ?_
 ·kernel_rfl
 ·kernel_rfl
 ·rintro _ ⟨h1,h2,h3,h4,h5,h6,h7,h8,h9,h10,_⟩
  exact ⟨h1,h2,h3,h4,h5,h6,h7,h8,h9,h10⟩
end Go.Proofs.YtcbifofjjpfbcaaGreatDoor
