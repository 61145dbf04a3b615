/-
  AgreeFrame: the row and the card.
-/
import Derived.Test.YtgfgckimecpmlaaGreatDoorTg

set_option linter.unusedSimpArgs false
set_option maxRecDepth 100000
namespace Fw.Tz
open Go Go.Proofs Fw.X Go.ChangeShapes Go.WideShapes Go.ChangeAt Go.RowKit
open Go.Proofs.YtgfgckimecpmlaaGreatDoor
theorem holds_of_3 (hjf : joinedFacts Tryz.prog 3 Tryz.f3 Rows.agreeFrameSpec Rows.agreeFrameRow = true) (hlift : ∀ (os : Os) (_ : os.Started) (H : Type) (enc : TypeId × Value → H), ReturnsInHanded {} Tryz.checked os 3 .any (fun w args => (Rows.agreeFrameSpec.pre enc Tryz.prog Tryz.f3 [] false w args ∧ laidMetH Tryz.prog laidT w) ∧ sizedMet enc Tryz.prog Tryz.f3 (OpenSpec.ofChange Rows.agreeFrameSpec) false w args)
      (Rows.agreeFrameSpec.post enc Tryz.prog Tryz.f3 false true false false)) : Rows.AgreeFrameSaid :=
  OpenClaim.holds_of_wide 3 Tryz.f3 rfl rfl rfl rfl rfl rfl rfl ⟨rfl, rfl, rfl, rfl, rfl⟩ rfl rfl rfl rfl rfl (by kernel_rfl) Tryz.func3 hjf
    (of_decide_eq_true (by kernel_rfl)) (by unfold Func.isWrapper; first | (rw [if_pos (by decide +kernel)]; kernel_rfl) | (rw [if_neg (by decide +kernel)]; exact ⟨rfl, rfl⟩))
    (fun os started H enc _ => hlift os started H enc)
end Fw.Tz
