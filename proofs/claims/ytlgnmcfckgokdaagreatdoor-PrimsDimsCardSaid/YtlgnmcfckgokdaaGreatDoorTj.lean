/-
  PrimsDims: the row and the card.
-/
import Derived.Test.YtlgnmcfckgokdaaGreatDoorTg

set_option linter.unusedSimpArgs false
set_option maxRecDepth 100000
namespace Fw.Tz
open Go Go.Proofs Fw.X Go.ChangeShapes Go.WideShapes Go.ChangeAt Go.RowKit
open Go.Proofs.YtlgnmcfckgokdaaGreatDoor
theorem holds_of_6 (hjf : joinedFacts Tryz.prog 6 Tryz.f6 Rows.primsDimsSpec Rows.primsDimsRow = true) (hlift : ∀ (os : Os) (_ : os.Started) (H : Type) (enc : TypeId × Value → H), ReturnsInHanded {} Tryz.checked os 6 .any (fun w args => (Rows.primsDimsSpec.pre enc Tryz.prog Tryz.f6 [] false w args ∧ laidMetH Tryz.prog laidT w) ∧ sizedMet enc Tryz.prog Tryz.f6 (OpenSpec.ofChange Rows.primsDimsSpec) false w args)
      (Rows.primsDimsSpec.post enc Tryz.prog Tryz.f6 false true false false)) : Rows.PrimsDimsSaid :=
  OpenClaim.holds_of_wide 6 Tryz.f6 rfl rfl rfl rfl rfl rfl rfl ⟨rfl, rfl, rfl, rfl, rfl⟩ rfl rfl rfl rfl rfl (by kernel_rfl) Tryz.func6 hjf
    (of_decide_eq_true (by kernel_rfl)) (by unfold Func.isWrapper; first | (rw [if_pos (by decide +kernel)]; kernel_rfl) | (rw [if_neg (by decide +kernel)]; exact ⟨rfl, rfl⟩))
    (fun os started H enc _ => hlift os started H enc)
end Fw.Tz
