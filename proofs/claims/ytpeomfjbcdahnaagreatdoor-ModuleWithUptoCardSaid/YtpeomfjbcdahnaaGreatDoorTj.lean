/-
  ModuleWith: the row and the card.
-/
import Derived.Test.YtpeomfjbcdahnaaGreatDoorTg
import Derived.JoinedCond
import Derived.Stop.Joined
set_option linter.unusedSimpArgs false
set_option linter.unusedVariables false
set_option maxRecDepth 100000
namespace Fw.Tz
open Go Go.Proofs Fw.X Go.ChangeShapes Go.WideShapes Go.ChangeAt Go.RowKit
open Go.Proofs.YtpeomfjbcdahnaaGreatDoor
theorem AB(hjf:joinedFacts Tryz.prog 4 Tryz.f4 (Rows.OpenSpec.upto Rows.moduleWithSpec).bare Rows.moduleWithUptoRow=true)(TE:∀(os:Os)(_:os.Started)(H:Type)(aa:TypeId×Value->H)(F:Stop.Interp),ReturnsInHanded {} Tryz.checked os 4 .any ((Rows.OpenSpec.upto Rows.moduleWithSpec).preRow aa Tryz.prog Tryz.f4 [] false tA) (((Rows.OpenSpec.upto Rows.moduleWithSpec).at F).post aa Tryz.prog Tryz.f4 false true false false)):Rows.ModuleWithUptoSaid:=OpenClaim.holds_of_cond 4 Tryz.f4 rfl rfl rfl rfl rfl rfl rfl ⟨rfl,rfl,rfl,rfl,rfl⟩ rfl rfl rfl rfl rfl k_ Tryz.func4 hjf (abM k_) (by unfold Func.isWrapper;first|(rw[aaD (by decide+kernel)];kernel_rfl)|(rw[aaH (by decide+kernel)];exact⟨rfl,rfl⟩)) (fun os pE H aa _ F=>by rw[OpenClaim.pre_eq_preRow];exact TE os pE H aa F)
end Fw.Tz
