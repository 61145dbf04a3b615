/- A part of the proof. -/
import Derived.Test.YtgfgckimecpmlaaGreatDoorJa
import Derived.Test.YtgfgckimecpmlaaGreatDoorJb
import Derived.Test.YtgfgckimecpmlaaGreatDoorJc
import Derived.Test.YtgfgckimecpmlaaGreatDoorJd
import Derived.Test.YtgfgckimecpmlaaGreatDoorJe
import Derived.ProofKit
set_option maxRecDepth 100000
namespace Fw.Tz
open Go Go.Proofs Go.RowKit
open Go.Proofs.YtgfgckimecpmlaaGreatDoor
theorem OT:(Rows.primsUnderRow.lifted==Tryz.prog.liftsFinal)=true:=jx6
theorem OU:(Tryz.prog.make==some Rows.primsUnderRow.make)=true:=jx9
theorem OV:joinedFacts Tryz.prog 10 Tryz.f10 Rows.primsUnderSpec Rows.primsUnderRow=true:=by
 unfold joinedFacts;simp only[Bool.and_eq_true];repeat' apply And.intro
 all_goals first|with_reducible exact OS|with_reducible exact jx1|with_reducible exact jx2|with_reducible exact OO|with_reducible exact OP|with_reducible exact OQ|with_reducible exact OR|with_reducible exact OT|with_reducible exact jx7|with_reducible exact jx8|with_reducible exact OU|kernel_rfl
end Fw.Tz
