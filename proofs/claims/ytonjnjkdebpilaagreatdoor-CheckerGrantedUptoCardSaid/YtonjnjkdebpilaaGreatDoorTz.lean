/-
  The law CheckerGranted (framewiselaw33) returns true, and its two arguments read behind the call as they read before, for every expression and every scheme. Conditions: the arguments are together of bulk at most 1048576, and the package-level variables that the row lists hold what the program lays (the card ties them to its text).
-/
import Derived.Test.YtonjnjkdebpilaaGreatDoorTh
import Derived.Test.YtonjnjkdebpilaaGreatDoorTj
import Derived.Test.YtonjnjkdebpilaaGreatDoorTk
import Derived.Test.YtonjnjkdebpilaaGreatDoorJf

namespace Fw.Tz
open Go Go.Proofs
open Go.Proofs.YtonjnjkdebpilaaGreatDoor
theorem said_3 : Rows.CheckerGrantedUptoSaid := holds_of_3 Tj3_j (fun os started H enc F => lifted_3 os started H enc F)
theorem card_3 : Rows.CheckerGrantedUptoCardSaid := card_of_3 said_3
end Fw.Tz
namespace Go.Proofs.YtonjnjkdebpilaaGreatDoor
open Go Go.Proofs
theorem checkerGrantedUpto_card_holds : Rows.CheckerGrantedUptoCardSaid := Fw.Tz.card_3
#print axioms checkerGrantedUpto_card_holds
end Go.Proofs.YtonjnjkdebpilaaGreatDoor
