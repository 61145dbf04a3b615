/-
  ModuleWith: the card.
-/
import Derived.Test.YtpeomfjbcdahnaaGreatDoorTg
set_option linter.unusedSimpArgs false
set_option linter.unusedVariables false
set_option maxRecDepth 100000
namespace Fw.Tz
open Go Go.Proofs Fw.X Go.ChangeShapes Go.WideShapes Go.ChangeAt Go.RowKit
open Go.Proofs.YtpeomfjbcdahnaaGreatDoor
theorem Di:Rows.moduleWithUptoRow.wfByText (Rows.OpenSpec.upto Rows.moduleWithSpec)=true:=k_
theorem Dj:Tryz.pinned.checked.prog.mainIs=some (true,"9c23146ee47041bd8c167f5c77ebf1ed69dbad045036f06525169f39d0801870".toList):=k_
theorem Dk:true=Tryz.pinned.checked.prog.looks []:=k_
theorem Dm:([25,44].all fun u=> !Tryz.prog.wantsStandIn u)=true:=k_
theorem Dn:false=Rows.moduleWithUptoRow.goesBy Tryz.pinned.checked.prog:=k_
theorem Do(MX:Rows.ModuleWithUptoSaid):Rows.ModuleWithUptoCardSaid:=Claim7.holds_tied_plain_at .later [] [.data,.data,.data,.data,.sentinel,.sentinel,.listed,.data,.pinned] true (true,"9c23146ee47041bd8c167f5c77ebf1ed69dbad045036f06525169f39d0801870") true MX (fun _ h=>by cases h) Di (fun _ h=>by cases h) moduleWithUpto_row_tie rfl ⟨rfl,rfl⟩ Dj rfl (fun f fn hf HS=>by
 obtain rfl:f=4:=acq ((show Tryz.prog.funcNamed "framewise/framewiselaw28.ModuleWith"=some 4 by kernel_rfl).symm.trans hf)|>.symm;obtain rfl:fn=Tryz.f4:=(acq (Tryz.func4.symm.trans HS)).symm;exact⟨Dk,fun j t ht=>by
  rw[Tryz.params4]at ht;have hm:t∈[25,44]:=by simpa using Array.mem_of_getElem? ht
  have jj:([25,44].all fun u=> !Tryz.prog.wantsStandIn u)=true:=Dm;exact(show Tryz.prog.wantsStandIn t=false by simpa using aaJ.1 jj t hm)⟩) Dn
end Fw.Tz
