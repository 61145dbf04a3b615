/- A part of the proof. -/
import Derived.Test.YtgfgckimecpmlaaGreatDoorJa
import Derived.Test.YtgfgckimecpmlaaGreatDoorJb
import Derived.Test.YtgfgckimecpmlaaGreatDoorJc
import Derived.Test.YtgfgckimecpmlaaGreatDoorJd
import Derived.Test.YtgfgckimecpmlaaGreatDoorJe
import Derived.ProofKit

set_option maxRecDepth 100000
namespace Fw.Tz
open Go Go.Proofs Go.RowKit
open Go.Proofs.YtgfgckimecpmlaaGreatDoor
theorem Tj3_6 : (Rows.agreeFrameRow.lifted == Tryz.prog.liftsFinal) = true := jx6
theorem Tj3_9 : (Tryz.prog.make == some Rows.agreeFrameRow.make) = true := jx9
theorem Tj3_j : joinedFacts Tryz.prog 3 Tryz.f3 Rows.agreeFrameSpec Rows.agreeFrameRow = true := by
  unfold joinedFacts
  simp only [Bool.and_eq_true]
  repeat' apply And.intro
  all_goals first
    | with_reducible exact Tj3_5
    | with_reducible exact jx1
    | with_reducible exact jx2
    | with_reducible exact Tj3_1
    | with_reducible exact Tj3_2
    | with_reducible exact Tj3_3
    | with_reducible exact Tj3_4
    | with_reducible exact Tj3_6
    | with_reducible exact jx7
    | with_reducible exact jx8
    | with_reducible exact Tj3_9
    | kernel_rfl
end Fw.Tz
