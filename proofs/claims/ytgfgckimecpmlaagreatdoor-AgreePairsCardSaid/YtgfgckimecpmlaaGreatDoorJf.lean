/- A part of the proof. -/
import Derived.Test.YtgfgckimecpmlaaGreatDoorJa
import Derived.Test.YtgfgckimecpmlaaGreatDoorJb
import Derived.Test.YtgfgckimecpmlaaGreatDoorJc
import Derived.Test.YtgfgckimecpmlaaGreatDoorJd
import Derived.Test.YtgfgckimecpmlaaGreatDoorJe
import Derived.ProofKit

set_option maxRecDepth 100000
namespace Fw.Tz
open Go Go.Proofs Go.RowKit
open Go.Proofs.YtgfgckimecpmlaaGreatDoor
theorem Tj4_6 : (Rows.agreePairsRow.lifted == Tryz.prog.liftsFinal) = true := jx6
theorem Tj4_9 : (Tryz.prog.make == some Rows.agreePairsRow.make) = true := jx9
theorem Tj4_j : joinedFacts Tryz.prog 4 Tryz.f4 Rows.agreePairsSpec Rows.agreePairsRow = true := by
  unfold joinedFacts
  simp only [Bool.and_eq_true]
  repeat' apply And.intro
  all_goals first
    | with_reducible exact Tj4_5
    | with_reducible exact jx1
    | with_reducible exact jx2
    | with_reducible exact Tj4_1
    | with_reducible exact Tj4_2
    | with_reducible exact Tj4_3
    | with_reducible exact Tj4_4
    | with_reducible exact Tj4_6
    | with_reducible exact jx7
    | with_reducible exact jx8
    | with_reducible exact Tj4_9
    | kernel_rfl
end Fw.Tz
