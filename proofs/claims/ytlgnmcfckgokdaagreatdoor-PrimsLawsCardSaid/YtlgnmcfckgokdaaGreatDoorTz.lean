import Derived.Test.YtlgnmcfckgokdaaGreatDoorTh
import Derived.Test.YtlgnmcfckgokdaaGreatDoorTj
import Derived.Test.YtlgnmcfckgokdaaGreatDoorTk
import Derived.Test.YtlgnmcfckgokdaaGreatDoorJf
/-
  PrimsLaws: the row and its card hold.
-/
namespace Fw.Tz
open Go Go.Proofs
open Go.Proofs.YtlgnmcfckgokdaaGreatDoor
theorem said_9 : Rows.PrimsLawsSaid := holds_of_9 Tj9_j (fun os started H enc => lifted_9 os started H enc)
theorem card_9 : Rows.PrimsLawsCardSaid := card_of_9 said_9
end Fw.Tz
namespace Go.Proofs.YtlgnmcfckgokdaaGreatDoor
open Go Go.Proofs
/-- the statement PrimsLaws, as a card tied to the program's own text -/
theorem primsLaws_card_holds : Rows.PrimsLawsCardSaid := Fw.Tz.card_9
#print axioms primsLaws_card_holds
end Go.Proofs.YtlgnmcfckgokdaaGreatDoor
