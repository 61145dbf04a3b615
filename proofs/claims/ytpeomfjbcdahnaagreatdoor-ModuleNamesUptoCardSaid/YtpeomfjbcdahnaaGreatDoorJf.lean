/- A part of the proof. -/
import Derived.Test.YtpeomfjbcdahnaaGreatDoorJa
import Derived.Test.YtpeomfjbcdahnaaGreatDoorJb
import Derived.Test.YtpeomfjbcdahnaaGreatDoorJc
import Derived.Test.YtpeomfjbcdahnaaGreatDoorJd
import Derived.Test.YtpeomfjbcdahnaaGreatDoorJe
import Derived.ProofKit
set_option maxRecDepth 100000
namespace Fw.Tz
open Go Go.Proofs Go.RowKit
open Go.Proofs.YtpeomfjbcdahnaaGreatDoor
theorem Qh:(Rows.moduleNamesUptoRow.lifted==Tryz.prog.liftsFinal)=true:=jx6
theorem Qi:(Tryz.prog.make==some Rows.moduleNamesUptoRow.make)=true:=jx9
theorem Qj:joinedFacts Tryz.prog 3 Tryz.f3 (Rows.OpenSpec.upto Rows.moduleNamesSpec).bare Rows.moduleNamesUptoRow=true:=by
 unfold joinedFacts;simp only[Bool.and_eq_true];repeat' apply And.intro
 all_goals first|with_reducible exact Qg|with_reducible exact jx1|with_reducible exact jx2|with_reducible exact Qc|with_reducible exact Qd|with_reducible exact Qe|with_reducible exact Qf|with_reducible exact Qh|with_reducible exact jx7|with_reducible exact jx8|with_reducible exact Qi|kernel_rfl
end Fw.Tz
