/-
  PrimsTable: the row and its card hold.
-/
import Derived.Test.YtlgnmcfckgokdaaGreatDoorTh
import Derived.Test.YtlgnmcfckgokdaaGreatDoorTj
import Derived.Test.YtlgnmcfckgokdaaGreatDoorTk
import Derived.Test.YtlgnmcfckgokdaaGreatDoorJf

namespace Fw.Tz
open Go Go.Proofs
open Go.Proofs.YtlgnmcfckgokdaaGreatDoor
theorem said_7 : Rows.PrimsTableSaid := holds_of_7 Tj7_j (fun os started H enc => lifted_7 os started H enc)
theorem card_7 : Rows.PrimsTableCardSaid := card_of_7 said_7
end Fw.Tz
namespace Go.Proofs.YtlgnmcfckgokdaaGreatDoor
open Go Go.Proofs
theorem primsTable_card_holds : Rows.PrimsTableCardSaid := Fw.Tz.card_7
#print axioms primsTable_card_holds
end Go.Proofs.YtlgnmcfckgokdaaGreatDoor
