/-
  The law ModuleWith (framewiselaw28) returns true for every module and definition, and they read behind the call as before. Conditions: the module is of bulk at most 1048576, and the package-level variables that the row lists hold what the program lays (the card ties them to its text).
-/
import Derived.Test.YtpeomfjbcdahnaaGreatDoorTh
import Derived.Test.YtpeomfjbcdahnaaGreatDoorTj
import Derived.Test.YtpeomfjbcdahnaaGreatDoorTk
import Derived.Test.YtpeomfjbcdahnaaGreatDoorJf
set_option linter.unusedVariables false
set_option linter.unusedSimpArgs false
namespace Fw.Tz
open Go Go.Proofs
open Go.Proofs.YtpeomfjbcdahnaaGreatDoor
theorem NZ:Rows.ModuleWithUptoSaid:=AB Ql (fun os pE H aa F=>Gx os pE H aa F)
theorem N0:Rows.ModuleWithUptoCardSaid:=Do NZ
end Fw.Tz
namespace Go.Proofs.YtpeomfjbcdahnaaGreatDoor
open Go Go.Proofs
theorem moduleWithUpto_card_holds:Rows.ModuleWithUptoCardSaid:=Fw.Tz.N0
#print axioms moduleWithUpto_card_holds
end Go.Proofs.YtpeomfjbcdahnaaGreatDoor
