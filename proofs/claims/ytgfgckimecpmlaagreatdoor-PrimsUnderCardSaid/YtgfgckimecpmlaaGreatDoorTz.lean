/-
  PrimsUnder: the row and its card hold.
-/
import Derived.Test.YtgfgckimecpmlaaGreatDoorTh
import Derived.Test.YtgfgckimecpmlaaGreatDoorTj
import Derived.Test.YtgfgckimecpmlaaGreatDoorTk
import Derived.Test.YtgfgckimecpmlaaGreatDoorJf
set_option linter.unusedVariables false
set_option linter.unusedSimpArgs false
namespace Fw.Tz
open Go Go.Proofs
open Go.Proofs.YtgfgckimecpmlaaGreatDoor
theorem ME:Rows.PrimsUnderSaid:=AA OV (fun os jj H aa=>Fo os jj H aa)
theorem MF:Rows.PrimsUnderCardSaid:=Cm ME
end Fw.Tz
namespace Go.Proofs.YtgfgckimecpmlaaGreatDoor
open Go Go.Proofs
theorem primsUnder_card_holds:Rows.PrimsUnderCardSaid:=Fw.Tz.MF
#print axioms primsUnder_card_holds
end Go.Proofs.YtgfgckimecpmlaaGreatDoor
