/-
  AgreeUnique: the row and its card hold.
-/
import Derived.Test.YtgfgckimecpmlaaGreatDoorTh
import Derived.Test.YtgfgckimecpmlaaGreatDoorTj
import Derived.Test.YtgfgckimecpmlaaGreatDoorTk
import Derived.Test.YtgfgckimecpmlaaGreatDoorJf

namespace Fw.Tz
open Go Go.Proofs
open Go.Proofs.YtgfgckimecpmlaaGreatDoor
theorem said_5 : Rows.AgreeUniqueSaid := holds_of_5 Tj5_j (fun os started H enc => lifted_5 os started H enc)
theorem card_5 : Rows.AgreeUniqueCardSaid := card_of_5 said_5
end Fw.Tz
namespace Go.Proofs.YtgfgckimecpmlaaGreatDoor
open Go Go.Proofs
theorem agreeUnique_card_holds : Rows.AgreeUniqueCardSaid := Fw.Tz.card_5
#print axioms agreeUnique_card_holds
end Go.Proofs.YtgfgckimecpmlaaGreatDoor
