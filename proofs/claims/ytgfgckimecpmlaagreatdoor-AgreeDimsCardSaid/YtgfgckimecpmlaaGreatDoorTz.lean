/-
  AgreeDims: the row and its card hold.
-/
import Derived.Test.YtgfgckimecpmlaaGreatDoorTh
import Derived.Test.YtgfgckimecpmlaaGreatDoorTj
import Derived.Test.YtgfgckimecpmlaaGreatDoorTk
import Derived.Test.YtgfgckimecpmlaaGreatDoorJf

namespace Fw.Tz
open Go Go.Proofs
open Go.Proofs.YtgfgckimecpmlaaGreatDoor
theorem said_8 : Rows.AgreeDimsSaid := holds_of_8 Tj8_j (fun os started H enc => lifted_8 os started H enc)
theorem card_8 : Rows.AgreeDimsCardSaid := card_of_8 said_8
end Fw.Tz
namespace Go.Proofs.YtgfgckimecpmlaaGreatDoor
open Go Go.Proofs
theorem agreeDims_card_holds : Rows.AgreeDimsCardSaid := Fw.Tz.card_8
#print axioms agreeDims_card_holds
end Go.Proofs.YtgfgckimecpmlaaGreatDoor
