/-
  AgreeFrame: the row and its card hold.
-/
import Derived.Test.YtgfgckimecpmlaaGreatDoorTh
import Derived.Test.YtgfgckimecpmlaaGreatDoorTj
import Derived.Test.YtgfgckimecpmlaaGreatDoorTk
import Derived.Test.YtgfgckimecpmlaaGreatDoorJf

namespace Fw.Tz
open Go Go.Proofs
open Go.Proofs.YtgfgckimecpmlaaGreatDoor
theorem said_3 : Rows.AgreeFrameSaid := holds_of_3 Tj3_j (fun os started H enc => lifted_3 os started H enc)
theorem card_3 : Rows.AgreeFrameCardSaid := card_of_3 said_3
end Fw.Tz
namespace Go.Proofs.YtgfgckimecpmlaaGreatDoor
open Go Go.Proofs
theorem agreeFrame_card_holds : Rows.AgreeFrameCardSaid := Fw.Tz.card_3
#print axioms agreeFrame_card_holds
end Go.Proofs.YtgfgckimecpmlaaGreatDoor
