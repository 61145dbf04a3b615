/- A part of the proof. -/
import Derived.Test.YtgfgckimecpmlaaGreatDoorCards
import Derived.ProofKit
set_option maxRecDepth 100000
namespace Fw.Tz
open Go Go.Proofs Go.RowKit
open Go.Proofs.YtgfgckimecpmlaaGreatDoor
theorem NB:(Rows.primsSubstitutionRow.named==Tryz.prog.varsNamed 11)=true:=by kernel_rfl
end Fw.Tz
namespace Fw.Tz
open Go Go.Proofs Go.RowKit
open Go.Proofs.YtgfgckimecpmlaaGreatDoor
theorem NC:Rows.primsSubstitutionRow.wf (OpenSpec.ofChange Rows.primsSubstitutionSpec)=true:=by kernel_rfl
end Fw.Tz
