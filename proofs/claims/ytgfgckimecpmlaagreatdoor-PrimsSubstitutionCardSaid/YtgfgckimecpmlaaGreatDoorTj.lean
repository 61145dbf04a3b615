/-
  PrimsSubstitution: the row and the card.
-/
import Derived.Test.YtgfgckimecpmlaaGreatDoorTg
set_option linter.unusedSimpArgs false
set_option maxRecDepth 100000
set_option linter.unusedVariables false
namespace Fw.Tz
open Go Go.Proofs Fw.X Go.ChangeShapes Go.WideShapes Go.ChangeAt Go.RowKit
open Go.Proofs.YtgfgckimecpmlaaGreatDoor
theorem Ae(hjf:joinedFacts Tryz.prog 11 Tryz.f11 Rows.primsSubstitutionSpec Rows.primsSubstitutionRow=true)(SN:∀(os:Os)(_:os.Started)(H:Type)(aa:TypeId×Value→H),ReturnsInHanded {} Tryz.checked os 11 .any (fun w args=>(Rows.primsSubstitutionSpec.pre aa Tryz.prog Tryz.f11 [] false w args∧laidMetH Tryz.prog ua w)∧sizedMet aa Tryz.prog Tryz.f11 (OpenSpec.ofChange Rows.primsSubstitutionSpec) false w args) (Rows.primsSubstitutionSpec.post aa Tryz.prog Tryz.f11 false true false false)):Rows.PrimsSubstitutionSaid:=OpenClaim.holds_of_wide 11 Tryz.f11 rfl rfl rfl rfl rfl rfl rfl ⟨rfl,rfl,rfl,rfl,rfl⟩ rfl rfl rfl rfl rfl k_ Tryz.func11 hjf (ach k_) (by unfold Func.isWrapper;first|(rw[aan (by decide+kernel)];kernel_rfl)|(rw[aal (by decide+kernel)];exact⟨rfl,rfl⟩)) (fun os lP H aa _=>SN os lP H aa)
end Fw.Tz
