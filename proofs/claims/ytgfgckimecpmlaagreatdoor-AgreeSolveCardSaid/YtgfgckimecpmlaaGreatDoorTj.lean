/-
  AgreeSolve: the row and the card.
-/
import Derived.Test.YtgfgckimecpmlaaGreatDoorTg
set_option linter.unusedSimpArgs false
set_option maxRecDepth 100000
set_option linter.unusedVariables false
namespace Fw.Tz
open Go Go.Proofs Fw.X Go.ChangeShapes Go.WideShapes Go.ChangeAt Go.RowKit
open Go.Proofs.YtgfgckimecpmlaaGreatDoor
theorem Dj(hjf:joinedFacts Tryz.prog 6 Tryz.f6 Rows.agreeSolveSpec Rows.agreeSolveRow=true)(UE:∀(os:Os)(_:os.Started)(H:Type)(aa:TypeId×Value->H),ReturnsInHanded {} Tryz.checked os 6 .any (fun w args=>(Rows.agreeSolveSpec.pre aa Tryz.prog Tryz.f6 [] false w args/\laidMetH Tryz.prog pv w)/\sizedMet aa Tryz.prog Tryz.f6 (OpenSpec.ofChange Rows.agreeSolveSpec) false w args) (Rows.agreeSolveSpec.post aa Tryz.prog Tryz.f6 false true false false)):Rows.AgreeSolveSaid:=OpenClaim.holds_of_wide 6 Tryz.f6 rfl rfl rfl rfl rfl rfl rfl ⟨rfl,rfl,rfl,rfl,rfl⟩ rfl rfl rfl rfl rfl k_ Tryz.func6 hjf (adh k_) (by unfold Func.isWrapper;first|(rw[aaK (by decide+kernel)];kernel_rfl)|(rw[aaF (by decide+kernel)];exact⟨rfl,rfl⟩)) (fun os mh H aa _=>UE os mh H aa)
end Fw.Tz
