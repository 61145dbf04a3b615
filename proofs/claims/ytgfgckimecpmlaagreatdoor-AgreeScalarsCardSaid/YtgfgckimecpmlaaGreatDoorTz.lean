/-
  AgreeScalars: the row and its card hold.
-/
import Derived.Test.YtgfgckimecpmlaaGreatDoorTh
import Derived.Test.YtgfgckimecpmlaaGreatDoorTj
import Derived.Test.YtgfgckimecpmlaaGreatDoorTk
import Derived.Test.YtgfgckimecpmlaaGreatDoorJf

namespace Fw.Tz
open Go Go.Proofs
open Go.Proofs.YtgfgckimecpmlaaGreatDoor
theorem said_7 : Rows.AgreeScalarsSaid := holds_of_7 Tj7_j (fun os started H enc => lifted_7 os started H enc)
theorem card_7 : Rows.AgreeScalarsCardSaid := card_of_7 said_7
end Fw.Tz
namespace Go.Proofs.YtgfgckimecpmlaaGreatDoor
open Go Go.Proofs
theorem agreeScalars_card_holds : Rows.AgreeScalarsCardSaid := Fw.Tz.card_7
#print axioms agreeScalars_card_holds
end Go.Proofs.YtgfgckimecpmlaaGreatDoor
