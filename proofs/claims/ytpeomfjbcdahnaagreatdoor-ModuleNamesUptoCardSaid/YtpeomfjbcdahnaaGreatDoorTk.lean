/-
  ModuleNames: the card.
-/
import Derived.Test.YtpeomfjbcdahnaaGreatDoorTg
set_option linter.unusedSimpArgs false
set_option linter.unusedVariables false
set_option maxRecDepth 100000
namespace Fw.Tz
open Go Go.Proofs Fw.X Go.ChangeShapes Go.WideShapes Go.ChangeAt Go.RowKit
open Go.Proofs.YtpeomfjbcdahnaaGreatDoor
theorem Dp:Rows.moduleNamesUptoRow.wfByText (Rows.OpenSpec.upto Rows.moduleNamesSpec)=true:=k_
theorem Dq:Tryz.pinned.checked.prog.mainIs=some (true,"9c23146ee47041bd8c167f5c77ebf1ed69dbad045036f06525169f39d0801870".toList):=k_
theorem Dr:true=Tryz.pinned.checked.prog.looks []:=k_
theorem Ds:([25].all fun u=> !Tryz.prog.wantsStandIn u)=true:=k_
theorem Dt:false=Rows.moduleNamesUptoRow.goesBy Tryz.pinned.checked.prog:=k_
theorem Du(MZ:Rows.ModuleNamesUptoSaid):Rows.ModuleNamesUptoCardSaid:=Claim7.holds_tied_plain_at .later [] [.data,.data,.data,.data,.sentinel,.sentinel,.listed,.data,.pinned] true (true,"9c23146ee47041bd8c167f5c77ebf1ed69dbad045036f06525169f39d0801870") true MZ (fun _ h=>by cases h) Dp (fun _ h=>by cases h) moduleNamesUpto_row_tie rfl ⟨rfl,rfl⟩ Dq rfl (fun f fn hf HR=>by
 obtain rfl:f=3:=aco ((show Tryz.prog.funcNamed "framewise/framewiselaw28.ModuleNames"=some 3 by kernel_rfl).symm.trans hf)|>.symm;obtain rfl:fn=Tryz.f3:=(aco (Tryz.func3.symm.trans HR)).symm;exact⟨Dr,fun j t ht=>by
  rw[Tryz.params3]at ht;have hm:t∈[25]:=by simpa using Array.mem_of_getElem? ht
  have iF:([25].all fun u=> !Tryz.prog.wantsStandIn u)=true:=Ds;exact(show Tryz.prog.wantsStandIn t=false by simpa using aaJ.1 iF t hm)⟩) Dt
end Fw.Tz
