/- A part of the proof. -/
import Derived.Test.YtgfgckimecpmlaaGreatDoorJa
import Derived.Test.YtgfgckimecpmlaaGreatDoorJb
import Derived.Test.YtgfgckimecpmlaaGreatDoorJc
import Derived.Test.YtgfgckimecpmlaaGreatDoorJd
import Derived.Test.YtgfgckimecpmlaaGreatDoorJe
import Derived.ProofKit
set_option maxRecDepth 100000
namespace Fw.Tz
open Go Go.Proofs Go.RowKit
open Go.Proofs.YtgfgckimecpmlaaGreatDoor
theorem Rz:(Rows.agreeSolveRow.lifted==Tryz.prog.liftsFinal)=true:=jx6
theorem RA:(Tryz.prog.make==some Rows.agreeSolveRow.make)=true:=jx9
theorem RC:joinedFacts Tryz.prog 6 Tryz.f6 Rows.agreeSolveSpec Rows.agreeSolveRow=true:=by
 unfold joinedFacts;simp only[Bool.and_eq_true];repeat' apply And.intro
 all_goals first|with_reducible exact Ry|with_reducible exact jx1|with_reducible exact jx2|with_reducible exact Rt|with_reducible exact Ru|with_reducible exact Rv|with_reducible exact Rx|with_reducible exact Rz|with_reducible exact jx7|with_reducible exact jx8|with_reducible exact RA|kernel_rfl
end Fw.Tz
