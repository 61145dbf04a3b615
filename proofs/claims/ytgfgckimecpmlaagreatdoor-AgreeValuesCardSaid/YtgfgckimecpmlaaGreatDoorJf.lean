/- A part of the proof. -/
import Derived.Test.YtgfgckimecpmlaaGreatDoorJa
import Derived.Test.YtgfgckimecpmlaaGreatDoorJb
import Derived.Test.YtgfgckimecpmlaaGreatDoorJc
import Derived.Test.YtgfgckimecpmlaaGreatDoorJd
import Derived.Test.YtgfgckimecpmlaaGreatDoorJe
import Derived.ProofKit

set_option maxRecDepth 100000
namespace Fw.Tz
open Go Go.Proofs Go.RowKit
open Go.Proofs.YtgfgckimecpmlaaGreatDoor
theorem Tj9_6 : (Rows.agreeValuesRow.lifted == Tryz.prog.liftsFinal) = true := jx6
theorem Tj9_9 : (Tryz.prog.make == some Rows.agreeValuesRow.make) = true := jx9
theorem Tj9_j : joinedFacts Tryz.prog 9 Tryz.f9 Rows.agreeValuesSpec Rows.agreeValuesRow = true := by
  unfold joinedFacts
  simp only [Bool.and_eq_true]
  repeat' apply And.intro
  all_goals first
    | with_reducible exact Tj9_5
    | with_reducible exact jx1
    | with_reducible exact jx2
    | with_reducible exact Tj9_1
    | with_reducible exact Tj9_2
    | with_reducible exact Tj9_3
    | with_reducible exact Tj9_4
    | with_reducible exact Tj9_6
    | with_reducible exact jx7
    | with_reducible exact jx8
    | with_reducible exact Tj9_9
    | kernel_rfl
end Fw.Tz
