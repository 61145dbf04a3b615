/- A part of the proof. -/
import Derived.Test.YtonjnjkdebpilaaGreatDoorJa
import Derived.Test.YtonjnjkdebpilaaGreatDoorJb
import Derived.Test.YtonjnjkdebpilaaGreatDoorJc
import Derived.Test.YtonjnjkdebpilaaGreatDoorJd
import Derived.Test.YtonjnjkdebpilaaGreatDoorJe
import Derived.ProofKit

set_option maxRecDepth 100000
namespace Fw.Tz
open Go Go.Proofs Go.RowKit
open Go.Proofs.YtonjnjkdebpilaaGreatDoor
theorem Tj3_6 : (Rows.checkerGrantedUptoRow.lifted == Tryz.prog.liftsFinal) = true := jx6
theorem Tj3_9 : (Tryz.prog.make == some Rows.checkerGrantedUptoRow.make) = true := jx9
theorem Tj3_j : joinedFacts Tryz.prog 3 Tryz.f3 (Rows.OpenSpec.upto Rows.checkerGrantedSpec).bare Rows.checkerGrantedUptoRow = true := by
  unfold joinedFacts
  simp only [Bool.and_eq_true]
  repeat' apply And.intro
  all_goals first
    | with_reducible exact Tj3_5
    | with_reducible exact jx1
    | with_reducible exact jx2
    | with_reducible exact Tj3_1
    | with_reducible exact Tj3_2
    | with_reducible exact Tj3_3
    | with_reducible exact Tj3_4
    | with_reducible exact Tj3_6
    | with_reducible exact jx7
    | with_reducible exact jx8
    | with_reducible exact Tj3_9
    | kernel_rfl
end Fw.Tz
