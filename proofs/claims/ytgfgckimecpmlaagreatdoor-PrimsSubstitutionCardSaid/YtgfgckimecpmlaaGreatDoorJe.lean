/- A part of the proof. -/
import Derived.Test.YtgfgckimecpmlaaGreatDoorCards
import Derived.ProofKit
set_option maxRecDepth 100000
namespace Fw.Tz
open Go Go.Proofs Go.RowKit
open Go.Proofs.YtgfgckimecpmlaaGreatDoor
theorem ZT:(Rows.agreeDimsRow.lifted==Tryz.prog.liftsFinal)=true:=by kernel_rfl
theorem ZU:Tryz.prog.stopsHeard=true:=by kernel_rfl
theorem ZV:Tryz.prog.mayEnter=true:=by kernel_rfl
theorem ZW:(Tryz.prog.make==some Rows.agreeDimsRow.make)=true:=by kernel_rfl
end Fw.Tz
