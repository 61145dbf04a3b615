/- A part of the proof. -/
import Derived.Test.YtgfgckimecpmlaaGreatDoorJa
import Derived.Test.YtgfgckimecpmlaaGreatDoorJb
import Derived.Test.YtgfgckimecpmlaaGreatDoorJc
import Derived.Test.YtgfgckimecpmlaaGreatDoorJd
import Derived.Test.YtgfgckimecpmlaaGreatDoorJe
import Derived.ProofKit

set_option maxRecDepth 100000
namespace Fw.Tz
open Go Go.Proofs Go.RowKit
open Go.Proofs.YtgfgckimecpmlaaGreatDoor
theorem Tj7_6 : (Rows.agreeScalarsRow.lifted == Tryz.prog.liftsFinal) = true := jx6
theorem Tj7_9 : (Tryz.prog.make == some Rows.agreeScalarsRow.make) = true := jx9
theorem Tj7_j : joinedFacts Tryz.prog 7 Tryz.f7 Rows.agreeScalarsSpec Rows.agreeScalarsRow = true := by
  unfold joinedFacts
  simp only [Bool.and_eq_true]
  repeat' apply And.intro
  all_goals first
    | with_reducible exact Tj7_5
    | with_reducible exact jx1
    | with_reducible exact jx2
    | with_reducible exact Tj7_1
    | with_reducible exact Tj7_2
    | with_reducible exact Tj7_3
    | with_reducible exact Tj7_4
    | with_reducible exact Tj7_6
    | with_reducible exact jx7
    | with_reducible exact jx8
    | with_reducible exact Tj7_9
    | kernel_rfl
end Fw.Tz
