/-
  AgreeSolve: the row and the card.
-/
import Derived.Test.YtgfgckimecpmlaaGreatDoorTg
set_option linter.unusedSimpArgs false
set_option maxRecDepth 100000
set_option linter.unusedVariables false
namespace Fw.Tz
open Go Go.Proofs Fw.X Go.ChangeShapes Go.WideShapes Go.ChangeAt Go.RowKit
open Go.Proofs.YtgfgckimecpmlaaGreatDoor
theorem F7:Rows.agreeSolveRow.wfByText (OpenSpec.ofChange Rows.agreeSolveSpec)=true:=k_
theorem F8:Tryz.pinned.checked.prog.mainIs=some (true,"3ded135804764bd1d150cbd05cfce7aa3973edc858dd4c56c096dfa8fb0e30c4".toList):=k_
theorem F9:true=Tryz.pinned.checked.prog.looks []:=k_
theorem F':([32,24,35].all fun u=> !Tryz.prog.wantsStandIn u)=true:=k_
theorem F_:false=Rows.agreeSolveRow.goesBy Tryz.pinned.checked.prog:=k_
theorem Ga(OH:Rows.AgreeSolveSaid):Rows.AgreeSolveCardSaid:=Claim7.holds_tied_plain_at .later [] [.data,.data,.data,.data,.sentinel,.sentinel,.pinned] true (true,"3ded135804764bd1d150cbd05cfce7aa3973edc858dd4c56c096dfa8fb0e30c4") true OH (fun _ h=>by cases h) F7 (fun _ h=>by cases h) agreeSolve_row_tie rfl ⟨rfl,rfl⟩ F8 rfl (fun f fn hf Hd=>by
 obtain rfl:f=6:=acD ((show Tryz.prog.funcNamed "framewise/framewiselaw14.AgreeSolve"=some 6 by kernel_rfl).symm.trans hf)|>.symm;obtain rfl:fn=Tryz.f6:=(acD (Tryz.func6.symm.trans Hd)).symm;exact⟨F9,fun j t ht=>by
  rw[Tryz.params6]at ht;have hm:t∈[32,24,35]:=by simpa using Array.mem_of_getElem? ht
  have lN:([32,24,35].all fun u=> !Tryz.prog.wantsStandIn u)=true:=F';exact(show Tryz.prog.wantsStandIn t=false by simpa using aa3.1 lN t hm)⟩) F_
end Fw.Tz
