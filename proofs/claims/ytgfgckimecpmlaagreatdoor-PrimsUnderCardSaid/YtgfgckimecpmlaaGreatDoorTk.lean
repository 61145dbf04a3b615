/-
  PrimsUnder: the row and the card.
-/
import Derived.Test.YtgfgckimecpmlaaGreatDoorTg
set_option linter.unusedSimpArgs false
set_option maxRecDepth 100000
set_option linter.unusedVariables false
namespace Fw.Tz
open Go Go.Proofs Fw.X Go.ChangeShapes Go.WideShapes Go.ChangeAt Go.RowKit
open Go.Proofs.YtgfgckimecpmlaaGreatDoor
theorem Ch:Rows.primsUnderRow.wfByText (OpenSpec.ofChange Rows.primsUnderSpec)=true:=k_
theorem Ci:Tryz.pinned.checked.prog.mainIs=some (true,"3ded135804764bd1d150cbd05cfce7aa3973edc858dd4c56c096dfa8fb0e30c4".toList):=k_
theorem Cj:true=Tryz.pinned.checked.prog.looks []:=k_
theorem Ck:([9,3,71].all fun u=> !Tryz.prog.wantsStandIn u)=true:=k_
theorem Cl:false=Rows.primsUnderRow.goesBy Tryz.pinned.checked.prog:=k_
theorem Cm(Py:Rows.PrimsUnderSaid):Rows.PrimsUnderCardSaid:=Claim7.holds_tied_plain_at .later [] [.data,.data,.data,.data,.sentinel,.sentinel,.listed,.data,.pinned] true (true,"3ded135804764bd1d150cbd05cfce7aa3973edc858dd4c56c096dfa8fb0e30c4") true Py (fun _ h=>by cases h) Ch (fun _ h=>by cases h) primsUnder_row_tie rfl ⟨rfl,rfl⟩ Ci rfl (fun f fn hf Bi=>by
 obtain rfl:f=10:=acH ((show Tryz.prog.funcNamed "framewise/framewiselaw23.PrimsUnder"=some 10 by kernel_rfl).symm.trans hf)|>.symm;obtain rfl:fn=Tryz.f10:=(acH (Tryz.func10.symm.trans Bi)).symm;exact⟨Cj,fun j t ht=>by
  rw[Tryz.params10]at ht;have hm:t∈[9,3,71]:=by simpa using Array.mem_of_getElem? ht
  have jA:([9,3,71].all fun u=> !Tryz.prog.wantsStandIn u)=true:=Ck;exact(show Tryz.prog.wantsStandIn t=false by simpa using aaR.1 jA t hm)⟩) Cl
end Fw.Tz
