/-
  PrimsUnder: the row and the card.
-/
import Derived.Test.YtgfgckimecpmlaaGreatDoorTg
set_option linter.unusedSimpArgs false
set_option maxRecDepth 100000
set_option linter.unusedVariables false
namespace Fw.Tz
open Go Go.Proofs Fw.X Go.ChangeShapes Go.WideShapes Go.ChangeAt Go.RowKit
open Go.Proofs.YtgfgckimecpmlaaGreatDoor
theorem AA(hjf:joinedFacts Tryz.prog 10 Tryz.f10 Rows.primsUnderSpec Rows.primsUnderRow=true)(Uz:∀(os:Os)(_:os.Started)(H:Type)(aa:TypeId×Value→H),ReturnsInHanded {} Tryz.checked os 10 .any (fun w args=>(Rows.primsUnderSpec.pre aa Tryz.prog Tryz.f10 [] false w args∧laidMetH Tryz.prog uB w)∧sizedMet aa Tryz.prog Tryz.f10 (OpenSpec.ofChange Rows.primsUnderSpec) false w args) (Rows.primsUnderSpec.post aa Tryz.prog Tryz.f10 false true false false)):Rows.PrimsUnderSaid:=OpenClaim.holds_of_wide 10 Tryz.f10 rfl rfl rfl rfl rfl rfl rfl ⟨rfl,rfl,rfl,rfl,rfl⟩ rfl rfl rfl rfl rfl k_ Tryz.func10 hjf (acK k_) (by unfold Func.isWrapper;first|(rw[aaP (by decide+kernel)];kernel_rfl)|(rw[aaL (by decide+kernel)];exact⟨rfl,rfl⟩)) (fun os jj H aa _=>Uz os jj H aa)
end Fw.Tz
