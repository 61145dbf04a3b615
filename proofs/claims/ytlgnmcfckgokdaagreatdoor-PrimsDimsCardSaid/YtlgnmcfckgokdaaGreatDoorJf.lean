/- A part of the proof. -/
import Derived.Test.YtlgnmcfckgokdaaGreatDoorJa
import Derived.Test.YtlgnmcfckgokdaaGreatDoorJb
import Derived.Test.YtlgnmcfckgokdaaGreatDoorJc
import Derived.Test.YtlgnmcfckgokdaaGreatDoorJd
import Derived.Test.YtlgnmcfckgokdaaGreatDoorJe
import Derived.ProofKit

set_option maxRecDepth 100000
namespace Fw.Tz
open Go Go.Proofs Go.RowKit
open Go.Proofs.YtlgnmcfckgokdaaGreatDoor
theorem Tj6_6 : (Rows.primsDimsRow.lifted == Tryz.prog.liftsFinal) = true := jx6
theorem Tj6_9 : (Tryz.prog.make == some Rows.primsDimsRow.make) = true := jx9
theorem Tj6_j : joinedFacts Tryz.prog 6 Tryz.f6 Rows.primsDimsSpec Rows.primsDimsRow = true := by
  unfold joinedFacts
  simp only [Bool.and_eq_true]
  repeat' apply And.intro
  all_goals first
    | with_reducible exact Tj6_5
    | with_reducible exact jx1
    | with_reducible exact jx2
    | with_reducible exact Tj6_1
    | with_reducible exact Tj6_2
    | with_reducible exact Tj6_3
    | with_reducible exact Tj6_4
    | with_reducible exact Tj6_6
    | with_reducible exact jx7
    | with_reducible exact jx8
    | with_reducible exact Tj6_9
    | kernel_rfl
end Fw.Tz
