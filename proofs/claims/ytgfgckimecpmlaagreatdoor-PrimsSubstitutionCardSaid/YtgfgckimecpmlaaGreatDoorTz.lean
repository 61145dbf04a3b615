/-
  PrimsSubstitution: the row and its card hold.
-/
import Derived.Test.YtgfgckimecpmlaaGreatDoorTh
import Derived.Test.YtgfgckimecpmlaaGreatDoorTj
import Derived.Test.YtgfgckimecpmlaaGreatDoorTk
import Derived.Test.YtgfgckimecpmlaaGreatDoorJf
set_option linter.unusedVariables false
set_option linter.unusedSimpArgs false
namespace Fw.Tz
open Go Go.Proofs
open Go.Proofs.YtgfgckimecpmlaaGreatDoor
theorem Lf:Rows.PrimsSubstitutionSaid:=Ae NG (fun os lP H aa=>Ey os lP H aa)
theorem Lg:Rows.PrimsSubstitutionCardSaid:=BV Lf
end Fw.Tz
namespace Go.Proofs.YtgfgckimecpmlaaGreatDoor
open Go Go.Proofs
theorem primsSubstitution_card_holds:Rows.PrimsSubstitutionCardSaid:=Fw.Tz.Lg
#print axioms primsSubstitution_card_holds
end Go.Proofs.YtgfgckimecpmlaaGreatDoor
