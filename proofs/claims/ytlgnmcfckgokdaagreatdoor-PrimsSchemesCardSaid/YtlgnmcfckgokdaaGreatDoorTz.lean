import Derived.Test.YtlgnmcfckgokdaaGreatDoorTh
import Derived.Test.YtlgnmcfckgokdaaGreatDoorTj
import Derived.Test.YtlgnmcfckgokdaaGreatDoorTk
import Derived.Test.YtlgnmcfckgokdaaGreatDoorJf
/-
  PrimsSchemes: the row and its card hold.
-/
namespace Fw.Tz
open Go Go.Proofs
open Go.Proofs.YtlgnmcfckgokdaaGreatDoor
theorem said_4 : Rows.PrimsSchemesSaid := holds_of_4 Tj4_j (fun os started H enc => lifted_4 os started H enc)
theorem card_4 : Rows.PrimsSchemesCardSaid := card_of_4 said_4
end Fw.Tz
namespace Go.Proofs.YtlgnmcfckgokdaaGreatDoor
open Go Go.Proofs
/-- the statement PrimsSchemes, as a card tied to the program's own text -/
theorem primsSchemes_card_holds : Rows.PrimsSchemesCardSaid := Fw.Tz.card_4
#print axioms primsSchemes_card_holds
end Go.Proofs.YtlgnmcfckgokdaaGreatDoor
