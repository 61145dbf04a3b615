/-
  CheckerGranted: the row and the card.
-/
import Derived.Test.YtonjnjkdebpilaaGreatDoorTg
import Derived.JoinedCond
import Derived.Stop.Joined

set_option linter.unusedSimpArgs false
set_option linter.unusedVariables false
set_option maxRecDepth 100000
namespace Fw.Tz
open Go Go.Proofs Fw.X Go.ChangeShapes Go.WideShapes Go.ChangeAt Go.RowKit
open Go.Proofs.YtonjnjkdebpilaaGreatDoor
theorem holds_of_3 (hjf : joinedFacts Tryz.prog 3 Tryz.f3 (Rows.OpenSpec.upto Rows.checkerGrantedSpec).bare Rows.checkerGrantedUptoRow = true) (hlift : ∀ (os : Os) (_ : os.Started) (H : Type) (enc : TypeId × Value → H) (F : Stop.Interp), ReturnsInHanded {} Tryz.checked os 3 .any ((Rows.OpenSpec.upto Rows.checkerGrantedSpec).preRow enc Tryz.prog Tryz.f3 [] false laidT) (((Rows.OpenSpec.upto Rows.checkerGrantedSpec).at F).post enc Tryz.prog Tryz.f3 false true false false)) : Rows.CheckerGrantedUptoSaid :=
  OpenClaim.holds_of_cond 3 Tryz.f3 rfl rfl rfl rfl rfl rfl rfl ⟨rfl, rfl, rfl, rfl, rfl⟩ rfl rfl rfl rfl rfl (by kernel_rfl) Tryz.func3 hjf
    (of_decide_eq_true (by kernel_rfl)) (by unfold Func.isWrapper; first | (rw [if_pos (by decide +kernel)]; kernel_rfl) | (rw [if_neg (by decide +kernel)]; exact ⟨rfl, rfl⟩))
    (fun os started H enc _ F => by rw [OpenClaim.pre_eq_preRow]; exact hlift os started H enc F)
end Fw.Tz
