/- A part of the proof. -/
import Derived.Test.YtpeomfjbcdahnaaGreatDoorJa
import Derived.Test.YtpeomfjbcdahnaaGreatDoorJb
import Derived.Test.YtpeomfjbcdahnaaGreatDoorJc
import Derived.Test.YtpeomfjbcdahnaaGreatDoorJd
import Derived.Test.YtpeomfjbcdahnaaGreatDoorJe
import Derived.ProofKit
set_option maxRecDepth 100000
namespace Fw.Tz
open Go Go.Proofs Go.RowKit
open Go.Proofs.YtpeomfjbcdahnaaGreatDoor
theorem Qj:(Rows.moduleWithUptoRow.lifted==Tryz.prog.liftsFinal)=true:=jw6
theorem Qk:(Tryz.prog.make==some Rows.moduleWithUptoRow.make)=true:=jw9
theorem Ql:joinedFacts Tryz.prog 4 Tryz.f4 (Rows.OpenSpec.upto Rows.moduleWithSpec).bare Rows.moduleWithUptoRow=true:=by
 unfold joinedFacts;simp only[Bool.and_eq_true];repeat' apply And.intro
 all_goals first|with_reducible exact Qi|with_reducible exact jx1|with_reducible exact jx2|with_reducible exact Qe|with_reducible exact Qf|with_reducible exact Qg|with_reducible exact Qh|with_reducible exact Qj|with_reducible exact jx7|with_reducible exact jx8|with_reducible exact Qk|kernel_rfl
end Fw.Tz
