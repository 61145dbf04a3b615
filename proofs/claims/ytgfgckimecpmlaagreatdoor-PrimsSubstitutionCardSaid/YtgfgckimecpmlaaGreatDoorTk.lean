/-
  PrimsSubstitution: the row and the card.
-/
import Derived.Test.YtgfgckimecpmlaaGreatDoorTg
set_option linter.unusedSimpArgs false
set_option maxRecDepth 100000
set_option linter.unusedVariables false
namespace Fw.Tz
open Go Go.Proofs Fw.X Go.ChangeShapes Go.WideShapes Go.ChangeAt Go.RowKit
open Go.Proofs.YtgfgckimecpmlaaGreatDoor
theorem BQ:Rows.primsSubstitutionRow.wfByText (OpenSpec.ofChange Rows.primsSubstitutionSpec)=true:=k_
theorem BR:Tryz.pinned.checked.prog.mainIs=some (true,"3ded135804764bd1d150cbd05cfce7aa3973edc858dd4c56c096dfa8fb0e30c4".toList):=k_
theorem BS:true=Tryz.pinned.checked.prog.looks []:=k_
theorem BT:([5,5,4].all fun u=> !Tryz.prog.wantsStandIn u)=true:=k_
theorem BU:false=Rows.primsSubstitutionRow.goesBy Tryz.pinned.checked.prog:=k_
theorem BV(Ob:Rows.PrimsSubstitutionSaid):Rows.PrimsSubstitutionCardSaid:=Claim7.holds_tied_plain_at .later [] [.data,.data,.data,.data,.sentinel,.sentinel,.listed,.data,.pinned] true (true,"3ded135804764bd1d150cbd05cfce7aa3973edc858dd4c56c096dfa8fb0e30c4") true Ob (fun _ h=>by cases h) BQ (fun _ h=>by cases h) primsSubstitution_row_tie rfl ⟨rfl,rfl⟩ BR rfl (fun f fn hf DJ=>by
 obtain rfl:f=11:=acB ((show Tryz.prog.funcNamed "framewise/framewiselaw23.PrimsSubstitution"=some 11 by kernel_rfl).symm.trans hf)|>.symm;obtain rfl:fn=Tryz.f11:=(acB (Tryz.func11.symm.trans DJ)).symm;exact⟨BS,fun j t ht=>by
  rw[Tryz.params11]at ht;have hm:t∈[5,5,4]:=by simpa using Array.mem_of_getElem? ht
  have jw:([5,5,4].all fun u=> !Tryz.prog.wantsStandIn u)=true:=BT;exact(show Tryz.prog.wantsStandIn t=false by simpa using aaq.1 jw t hm)⟩) BU
end Fw.Tz
