/-
  PrimsDims: the row and its card hold.
-/
import Derived.Test.YtlgnmcfckgokdaaGreatDoorTh
import Derived.Test.YtlgnmcfckgokdaaGreatDoorTj
import Derived.Test.YtlgnmcfckgokdaaGreatDoorTk
import Derived.Test.YtlgnmcfckgokdaaGreatDoorJf

namespace Fw.Tz
open Go Go.Proofs
open Go.Proofs.YtlgnmcfckgokdaaGreatDoor
theorem said_6 : Rows.PrimsDimsSaid := holds_of_6 Tj6_j (fun os started H enc => lifted_6 os started H enc)
theorem card_6 : Rows.PrimsDimsCardSaid := card_of_6 said_6
end Fw.Tz
namespace Go.Proofs.YtlgnmcfckgokdaaGreatDoor
open Go Go.Proofs
theorem primsDims_card_holds : Rows.PrimsDimsCardSaid := Fw.Tz.card_6
#print axioms primsDims_card_holds
end Go.Proofs.YtlgnmcfckgokdaaGreatDoor
