/-
  The 'awake' of law 14 is true.
-/
import Derived.Test.YtgfgckimecpmlaaGreatDoorTc

set_option maxRecDepth 1000000
namespace Fw.Tz
open Go Go.Proofs Fw.X
end Fw.Tz
