import Derived.Test.YtlgnmcfckgokdaaGreatDoorTh
import Derived.Test.YtlgnmcfckgokdaaGreatDoorTj
import Derived.Test.YtlgnmcfckgokdaaGreatDoorTk
import Derived.Test.YtlgnmcfckgokdaaGreatDoorJf
/-
  PrimsOperators: the row and its card hold.
-/
namespace Fw.Tz
open Go Go.Proofs
open Go.Proofs.YtlgnmcfckgokdaaGreatDoor
theorem said_8 : Rows.PrimsOperatorsSaid := holds_of_8 Tj8_j (fun os started H enc => lifted_8 os started H enc)
theorem card_8 : Rows.PrimsOperatorsCardSaid := card_of_8 said_8
end Fw.Tz
namespace Go.Proofs.YtlgnmcfckgokdaaGreatDoor
open Go Go.Proofs
/-- the statement PrimsOperators, as a card tied to the program's own text -/
theorem primsOperators_card_holds : Rows.PrimsOperatorsCardSaid := Fw.Tz.card_8
#print axioms primsOperators_card_holds
end Go.Proofs.YtlgnmcfckgokdaaGreatDoor
