/-
  AgreePairs: the row and its card hold.
-/
import Derived.Test.YtgfgckimecpmlaaGreatDoorTh
import Derived.Test.YtgfgckimecpmlaaGreatDoorTj
import Derived.Test.YtgfgckimecpmlaaGreatDoorTk
import Derived.Test.YtgfgckimecpmlaaGreatDoorJf

namespace Fw.Tz
open Go Go.Proofs
open Go.Proofs.YtgfgckimecpmlaaGreatDoor
theorem said_4 : Rows.AgreePairsSaid := holds_of_4 Tj4_j (fun os started H enc => lifted_4 os started H enc)
theorem card_4 : Rows.AgreePairsCardSaid := card_of_4 said_4
end Fw.Tz
namespace Go.Proofs.YtgfgckimecpmlaaGreatDoor
open Go Go.Proofs
theorem agreePairs_card_holds : Rows.AgreePairsCardSaid := Fw.Tz.card_4
#print axioms agreePairs_card_holds
end Go.Proofs.YtgfgckimecpmlaaGreatDoor
