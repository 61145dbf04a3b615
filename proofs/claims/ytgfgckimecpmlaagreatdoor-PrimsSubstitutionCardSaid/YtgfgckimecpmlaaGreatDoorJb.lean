/- A part of the proof. -/
import Derived.Test.YtgfgckimecpmlaaGreatDoorCards
import Derived.ProofKit
set_option maxRecDepth 100000
namespace Fw.Tz
open Go Go.Proofs Go.RowKit
open Go.Proofs.YtgfgckimecpmlaaGreatDoor
theorem Ny:(Rows.primsSubstitutionRow.unfollowed==Tryz.prog.unfollowed 11)=true:=by kernel_rfl
theorem NA:(Rows.primsSubstitutionRow.recurses==Tryz.prog.recurses 11)=true:=by kernel_rfl
end Fw.Tz
