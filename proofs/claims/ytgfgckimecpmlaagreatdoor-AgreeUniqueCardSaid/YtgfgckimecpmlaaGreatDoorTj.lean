/-
  AgreeUnique: the row and the card.
-/
import Derived.Test.YtgfgckimecpmlaaGreatDoorTg

set_option linter.unusedSimpArgs false
set_option maxRecDepth 100000
namespace Fw.Tz
open Go Go.Proofs Fw.X Go.ChangeShapes Go.WideShapes Go.ChangeAt Go.RowKit
open Go.Proofs.YtgfgckimecpmlaaGreatDoor
theorem holds_of_5 (hjf : joinedFacts Tryz.prog 5 Tryz.f5 Rows.agreeUniqueSpec Rows.agreeUniqueRow = true) (hlift : ∀ (os : Os) (_ : os.Started) (H : Type) (enc : TypeId × Value → H), ReturnsInHanded {} Tryz.checked os 5 .any (fun w args => (Rows.agreeUniqueSpec.pre enc Tryz.prog Tryz.f5 [] false w args ∧ laidMetH Tryz.prog laidT w) ∧ sizedMet enc Tryz.prog Tryz.f5 (OpenSpec.ofChange Rows.agreeUniqueSpec) false w args)
      (Rows.agreeUniqueSpec.post enc Tryz.prog Tryz.f5 false true false false)) : Rows.AgreeUniqueSaid :=
  OpenClaim.holds_of_wide 5 Tryz.f5 rfl rfl rfl rfl rfl rfl rfl ⟨rfl, rfl, rfl, rfl, rfl⟩ rfl rfl rfl rfl rfl (by kernel_rfl) Tryz.func5 hjf
    (of_decide_eq_true (by kernel_rfl)) (by unfold Func.isWrapper; first | (rw [if_pos (by decide +kernel)]; kernel_rfl) | (rw [if_neg (by decide +kernel)]; exact ⟨rfl, rfl⟩))
    (fun os started H enc _ => hlift os started H enc)
end Fw.Tz
