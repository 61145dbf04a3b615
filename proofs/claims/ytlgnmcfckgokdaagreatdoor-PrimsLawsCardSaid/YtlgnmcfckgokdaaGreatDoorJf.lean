import Derived.Test.YtlgnmcfckgokdaaGreatDoorJa
import Derived.Test.YtlgnmcfckgokdaaGreatDoorJb
import Derived.Test.YtlgnmcfckgokdaaGreatDoorJc
import Derived.Test.YtlgnmcfckgokdaaGreatDoorJd
import Derived.Test.YtlgnmcfckgokdaaGreatDoorJe
import Derived.ProofKit
set_option maxRecDepth 100000
namespace Fw.Tz
open Go Go.Proofs Go.RowKit
open Go.Proofs.YtlgnmcfckgokdaaGreatDoor
theorem Tj9_6 : (Rows.primsLawsRow.lifted == Tryz.prog.liftsFinal) = true := jx6
theorem Tj9_9 : (Tryz.prog.make == some Rows.primsLawsRow.make) = true := jx9
theorem Tj9_j : joinedFacts Tryz.prog 9 Tryz.f9 Rows.primsLawsSpec Rows.primsLawsRow = true := by
  unfold joinedFacts
  simp only [Bool.and_eq_true]
  repeat' apply And.intro
  all_goals first
    | with_reducible exact Tj9_5
    | with_reducible exact jx1
    | with_reducible exact jx2
    | with_reducible exact Tj9_1
    | with_reducible exact Tj9_2
    | with_reducible exact Tj9_3
    | with_reducible exact Tj9_4
    | with_reducible exact Tj9_6
    | with_reducible exact jx7
    | with_reducible exact jx8
    | with_reducible exact Tj9_9
    | kernel_rfl
end Fw.Tz
