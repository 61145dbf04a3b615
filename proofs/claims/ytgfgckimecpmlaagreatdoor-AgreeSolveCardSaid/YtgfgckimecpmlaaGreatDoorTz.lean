/-
  AgreeSolve: the row and its card hold.
-/
import Derived.Test.YtgfgckimecpmlaaGreatDoorTh
import Derived.Test.YtgfgckimecpmlaaGreatDoorTj
import Derived.Test.YtgfgckimecpmlaaGreatDoorTk
import Derived.Test.YtgfgckimecpmlaaGreatDoorJf
set_option linter.unusedVariables false
set_option linter.unusedSimpArgs false
namespace Fw.Tz
open Go Go.Proofs
open Go.Proofs.YtgfgckimecpmlaaGreatDoor
theorem Pk:Rows.AgreeSolveSaid:=Dj RC (fun os mh H aa=>IT os mh H aa)
theorem Pm:Rows.AgreeSolveCardSaid:=Ga Pk
end Fw.Tz
namespace Go.Proofs.YtgfgckimecpmlaaGreatDoor
open Go Go.Proofs
theorem agreeSolve_card_holds:Rows.AgreeSolveCardSaid:=Fw.Tz.Pm
#print axioms agreeSolve_card_holds
end Go.Proofs.YtgfgckimecpmlaaGreatDoor
