/-
  PrimsAlgebra: the row and its card hold.
-/
import Derived.Test.YtlgnmcfckgokdaaGreatDoorTh
import Derived.Test.YtlgnmcfckgokdaaGreatDoorTj
import Derived.Test.YtlgnmcfckgokdaaGreatDoorTk
import Derived.Test.YtlgnmcfckgokdaaGreatDoorJf

namespace Fw.Tz
open Go Go.Proofs
open Go.Proofs.YtlgnmcfckgokdaaGreatDoor
theorem said_10 : Rows.PrimsAlgebraSaid := holds_of_10 Tj10_j (fun os started H enc => lifted_10 os started H enc)
theorem card_10 : Rows.PrimsAlgebraCardSaid := card_of_10 said_10
end Fw.Tz
namespace Go.Proofs.YtlgnmcfckgokdaaGreatDoor
open Go Go.Proofs
theorem primsAlgebra_card_holds : Rows.PrimsAlgebraCardSaid := Fw.Tz.card_10
#print axioms primsAlgebra_card_holds
end Go.Proofs.YtlgnmcfckgokdaaGreatDoor
