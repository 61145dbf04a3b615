import Derived.Test.YtlgnmcfckgokdaaGreatDoorJa
import Derived.Test.YtlgnmcfckgokdaaGreatDoorJb
import Derived.Test.YtlgnmcfckgokdaaGreatDoorJc
import Derived.Test.YtlgnmcfckgokdaaGreatDoorJd
import Derived.Test.YtlgnmcfckgokdaaGreatDoorJe
import Derived.ProofKit
set_option maxRecDepth 100000
namespace Fw.Tz
open Go Go.Proofs Go.RowKit
open Go.Proofs.YtlgnmcfckgokdaaGreatDoor
theorem Tj4_6 : (Rows.primsSchemesRow.lifted == Tryz.prog.liftsFinal) = true := jx6
theorem Tj4_9 : (Tryz.prog.make == some Rows.primsSchemesRow.make) = true := jx9
theorem Tj4_j : joinedFacts Tryz.prog 4 Tryz.f4 Rows.primsSchemesSpec Rows.primsSchemesRow = true := by
  unfold joinedFacts
  simp only [Bool.and_eq_true]
  repeat' apply And.intro
  all_goals first
    | with_reducible exact Tj4_5
    | with_reducible exact jx1
    | with_reducible exact jx2
    | with_reducible exact Tj4_1
    | with_reducible exact Tj4_2
    | with_reducible exact Tj4_3
    | with_reducible exact Tj4_4
    | with_reducible exact Tj4_6
    | with_reducible exact jx7
    | with_reducible exact jx8
    | with_reducible exact Tj4_9
    | kernel_rfl
end Fw.Tz
