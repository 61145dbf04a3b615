/-
  ModuleNames: the row and the card.
-/
import Derived.Test.YtpeomfjbcdahnaaGreatDoorTg
import Derived.JoinedCond
import Derived.Stop.Joined
set_option linter.unusedSimpArgs false
set_option linter.unusedVariables false
set_option maxRecDepth 100000
namespace Fw.Tz
open Go Go.Proofs Fw.X Go.ChangeShapes Go.WideShapes Go.ChangeAt Go.RowKit
open Go.Proofs.YtpeomfjbcdahnaaGreatDoor
theorem AR(hjf:joinedFacts Tryz.prog 3 Tryz.f3 (Rows.OpenSpec.upto Rows.moduleNamesSpec).bare Rows.moduleNamesUptoRow=true)(Tx:∀(os:Os)(_:os.Started)(H:Type)(aa:TypeId×Value->H)(F:Stop.Interp),ReturnsInHanded {} Tryz.checked os 3 .any ((Rows.OpenSpec.upto Rows.moduleNamesSpec).preRow aa Tryz.prog Tryz.f3 [] false tO) (((Rows.OpenSpec.upto Rows.moduleNamesSpec).at F).post aa Tryz.prog Tryz.f3 false true false false)):Rows.ModuleNamesUptoSaid:=OpenClaim.holds_of_cond 3 Tryz.f3 rfl rfl rfl rfl rfl rfl rfl ⟨rfl,rfl,rfl,rfl,rfl⟩ rfl rfl rfl rfl rfl k_ Tryz.func3 hjf (abN k_) (by unfold Func.isWrapper;first|(rw[aaF (by decide+kernel)];kernel_rfl)|(rw[aaH (by decide+kernel)];exact⟨rfl,rfl⟩)) (fun os pR H aa _ F=>by rw[OpenClaim.pre_eq_preRow];exact Tx os pR H aa F)
end Fw.Tz
