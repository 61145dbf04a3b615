/-
  AgreeValues: the row and its card hold.
-/
import Derived.Test.YtgfgckimecpmlaaGreatDoorTh
import Derived.Test.YtgfgckimecpmlaaGreatDoorTj
import Derived.Test.YtgfgckimecpmlaaGreatDoorTk
import Derived.Test.YtgfgckimecpmlaaGreatDoorJf

namespace Fw.Tz
open Go Go.Proofs
open Go.Proofs.YtgfgckimecpmlaaGreatDoor
theorem said_9 : Rows.AgreeValuesSaid := holds_of_9 Tj9_j (fun os started H enc => lifted_9 os started H enc)
theorem card_9 : Rows.AgreeValuesCardSaid := card_of_9 said_9
end Fw.Tz
namespace Go.Proofs.YtgfgckimecpmlaaGreatDoor
open Go Go.Proofs
theorem agreeValues_card_holds : Rows.AgreeValuesCardSaid := Fw.Tz.card_9
#print axioms agreeValues_card_holds
end Go.Proofs.YtgfgckimecpmlaaGreatDoor
