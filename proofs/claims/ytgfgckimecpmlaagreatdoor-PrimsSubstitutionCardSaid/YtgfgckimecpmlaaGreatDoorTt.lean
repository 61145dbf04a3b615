/-
  PrimsSubstitution at chunk, numbers 1 to 16.
-/
import Derived.Test.YtgfgckimecpmlaaGreatDoorTr
set_option linter.unusedVariables false
set_option maxRecDepth 1000000
set_option maxHeartbeats 1000000
set_option linter.unusedSimpArgs false
namespace Fw.Tz.Sv
open Go Go.Proofs Fw.X Fw.Tz Fw.Tz.Va Fw.Tz.Yd Fw.Tz.Yn Fw.Tz.Ye Fw.Tz.Yq Fw.Tz.Yu Fw.Tz.Yw Fw.Tz.Yv Fw.Tz.Sb Fw.Tz.Sc
variable {W:World}
theorem IW(hW:W0 W)(hA:aE W):aQ W [99,104,117,110,107] true 1:=br hW hA (sC 1) vC (aI W) k_ k_ k_ ⟨k_,(fun t=>by cases t<;>kernel_rfl),(fun t=>by cases t<;>kernel_rfl),k_,k_,k_,(fun t=>by cases t<;>kernel_rfl),k_,(fun t=>by cases t<;>kernel_rfl),(by decide),k_⟩
theorem IX(hW:W0 W)(hA:aE W):aQ W [99,104,117,110,107] true 2:=br hW hA (sC 2) vC (aI W) k_ k_ k_ ⟨k_,(fun t=>by cases t<;>kernel_rfl),(fun t=>by cases t<;>kernel_rfl),k_,k_,k_,(fun t=>by cases t<;>kernel_rfl),k_,(fun t=>by cases t<;>kernel_rfl),(by decide),k_⟩
theorem IY(hW:W0 W)(hA:aE W):aQ W [99,104,117,110,107] true 3:=br hW hA (sC 3) vC (aI W) k_ k_ k_ ⟨k_,(fun t=>by cases t<;>kernel_rfl),(fun t=>by cases t<;>kernel_rfl),k_,k_,k_,(fun t=>by cases t<;>kernel_rfl),k_,(fun t=>by cases t<;>kernel_rfl),(by decide),k_⟩
theorem IZ(hW:W0 W)(hA:aE W):aQ W [99,104,117,110,107] true 4:=br hW hA (sC 4) vC (aI W) k_ k_ k_ ⟨k_,(fun t=>by cases t<;>kernel_rfl),(fun t=>by cases t<;>kernel_rfl),k_,k_,k_,(fun t=>by cases t<;>kernel_rfl),k_,(fun t=>by cases t<;>kernel_rfl),(by decide),k_⟩
theorem I0(hW:W0 W)(hA:aE W):aQ W [99,104,117,110,107] true 5:=br hW hA (sC 5) vC (aI W) k_ k_ k_ ⟨k_,(fun t=>by cases t<;>kernel_rfl),(fun t=>by cases t<;>kernel_rfl),k_,k_,k_,(fun t=>by cases t<;>kernel_rfl),k_,(fun t=>by cases t<;>kernel_rfl),(by decide),k_⟩
theorem I1(hW:W0 W)(hA:aE W):aQ W [99,104,117,110,107] true 6:=br hW hA (sC 6) vC (aI W) k_ k_ k_ ⟨k_,(fun t=>by cases t<;>kernel_rfl),(fun t=>by cases t<;>kernel_rfl),k_,k_,k_,(fun t=>by cases t<;>kernel_rfl),k_,(fun t=>by cases t<;>kernel_rfl),(by decide),k_⟩
theorem I2(hW:W0 W)(hA:aE W):aQ W [99,104,117,110,107] true 7:=br hW hA (sC 7) vC (aI W) k_ k_ k_ ⟨k_,(fun t=>by cases t<;>kernel_rfl),(fun t=>by cases t<;>kernel_rfl),k_,k_,k_,(fun t=>by cases t<;>kernel_rfl),k_,(fun t=>by cases t<;>kernel_rfl),(by decide),k_⟩
theorem I3(hW:W0 W)(hA:aE W):aQ W [99,104,117,110,107] true 8:=br hW hA (sC 8) vC (aI W) k_ k_ k_ ⟨k_,(fun t=>by cases t<;>kernel_rfl),(fun t=>by cases t<;>kernel_rfl),k_,k_,k_,(fun t=>by cases t<;>kernel_rfl),k_,(fun t=>by cases t<;>kernel_rfl),(by decide),k_⟩
theorem I4(hW:W0 W)(hA:aE W):aQ W [99,104,117,110,107] true 9:=br hW hA (sC 9) vC (aI W) k_ k_ k_ ⟨k_,(fun t=>by cases t<;>kernel_rfl),(fun t=>by cases t<;>kernel_rfl),k_,k_,k_,(fun t=>by cases t<;>kernel_rfl),k_,(fun t=>by cases t<;>kernel_rfl),(by decide),k_⟩
theorem EN(hW:W0 W)(hA:aE W):aQ W [99,104,117,110,107] true 10:=br hW hA (sC 10) vC (aI W) k_ k_ k_ ⟨k_,(fun t=>by cases t<;>kernel_rfl),(fun t=>by cases t<;>kernel_rfl),k_,k_,k_,(fun t=>by cases t<;>kernel_rfl),k_,(fun t=>by cases t<;>kernel_rfl),(by decide),k_⟩
theorem EO(hW:W0 W)(hA:aE W):aQ W [99,104,117,110,107] true 11:=br hW hA (sC 11) vC (aI W) k_ k_ k_ ⟨k_,(fun t=>by cases t<;>kernel_rfl),(fun t=>by cases t<;>kernel_rfl),k_,k_,k_,(fun t=>by cases t<;>kernel_rfl),k_,(fun t=>by cases t<;>kernel_rfl),(by decide),k_⟩
theorem EP(hW:W0 W)(hA:aE W):aQ W [99,104,117,110,107] true 12:=br hW hA (sC 12) vC (aI W) k_ k_ k_ ⟨k_,(fun t=>by cases t<;>kernel_rfl),(fun t=>by cases t<;>kernel_rfl),k_,k_,k_,(fun t=>by cases t<;>kernel_rfl),k_,(fun t=>by cases t<;>kernel_rfl),(by decide),k_⟩
theorem ER(hW:W0 W)(hA:aE W):aQ W [99,104,117,110,107] true 13:=br hW hA (sC 13) vC (aI W) k_ k_ k_ ⟨k_,(fun t=>by cases t<;>kernel_rfl),(fun t=>by cases t<;>kernel_rfl),k_,k_,k_,(fun t=>by cases t<;>kernel_rfl),k_,(fun t=>by cases t<;>kernel_rfl),(by decide),k_⟩
theorem ES(hW:W0 W)(hA:aE W):aQ W [99,104,117,110,107] true 14:=br hW hA (sC 14) vC (aI W) k_ k_ k_ ⟨k_,(fun t=>by cases t<;>kernel_rfl),(fun t=>by cases t<;>kernel_rfl),k_,k_,k_,(fun t=>by cases t<;>kernel_rfl),k_,(fun t=>by cases t<;>kernel_rfl),(by decide),k_⟩
theorem ET(hW:W0 W)(hA:aE W):aQ W [99,104,117,110,107] true 15:=br hW hA (sC 15) vC (aI W) k_ k_ k_ ⟨k_,(fun t=>by cases t<;>kernel_rfl),(fun t=>by cases t<;>kernel_rfl),k_,k_,k_,(fun t=>by cases t<;>kernel_rfl),k_,(fun t=>by cases t<;>kernel_rfl),(by decide),k_⟩
theorem EU(hW:W0 W)(hA:aE W):aQ W [99,104,117,110,107] true 16:=br hW hA (sC 16) vC (aI W) k_ k_ k_ ⟨k_,(fun t=>by cases t<;>kernel_rfl),(fun t=>by cases t<;>kernel_rfl),k_,k_,k_,(fun t=>by cases t<;>kernel_rfl),k_,(fun t=>by cases t<;>kernel_rfl),(by decide),k_⟩
end Fw.Tz.Sv
/-
  PrimsSubstitution at chunk, numbers 17 to 32.
-/
namespace Fw.Tz.Sv
open Go Go.Proofs Fw.X Fw.Tz Fw.Tz.Va Fw.Tz.Yd Fw.Tz.Yn Fw.Tz.Ye Fw.Tz.Yq Fw.Tz.Yu Fw.Tz.Yw Fw.Tz.Yv Fw.Tz.Sb Fw.Tz.Sc
variable {W:World}
theorem EV(hW:W0 W)(hA:aE W):aQ W [99,104,117,110,107] true 17:=br hW hA (sC 17) vC (aI W) k_ k_ k_ ⟨k_,(fun t=>by cases t<;>kernel_rfl),(fun t=>by cases t<;>kernel_rfl),k_,k_,k_,(fun t=>by cases t<;>kernel_rfl),k_,(fun t=>by cases t<;>kernel_rfl),(by decide),k_⟩
theorem EW(hW:W0 W)(hA:aE W):aQ W [99,104,117,110,107] true 18:=br hW hA (sC 18) vC (aI W) k_ k_ k_ ⟨k_,(fun t=>by cases t<;>kernel_rfl),(fun t=>by cases t<;>kernel_rfl),k_,k_,k_,(fun t=>by cases t<;>kernel_rfl),k_,(fun t=>by cases t<;>kernel_rfl),(by decide),k_⟩
theorem EX(hW:W0 W)(hA:aE W):aQ W [99,104,117,110,107] true 19:=br hW hA (sC 19) vC (aI W) k_ k_ k_ ⟨k_,(fun t=>by cases t<;>kernel_rfl),(fun t=>by cases t<;>kernel_rfl),k_,k_,k_,(fun t=>by cases t<;>kernel_rfl),k_,(fun t=>by cases t<;>kernel_rfl),(by decide),k_⟩
theorem EY(hW:W0 W)(hA:aE W):aQ W [99,104,117,110,107] true 20:=br hW hA (sC 20) vC (aI W) k_ k_ k_ ⟨k_,(fun t=>by cases t<;>kernel_rfl),(fun t=>by cases t<;>kernel_rfl),k_,k_,k_,(fun t=>by cases t<;>kernel_rfl),k_,(fun t=>by cases t<;>kernel_rfl),(by decide),k_⟩
theorem EZ(hW:W0 W)(hA:aE W):aQ W [99,104,117,110,107] true 21:=br hW hA (sC 21) vC (aI W) k_ k_ k_ ⟨k_,(fun t=>by cases t<;>kernel_rfl),(fun t=>by cases t<;>kernel_rfl),k_,k_,k_,(fun t=>by cases t<;>kernel_rfl),k_,(fun t=>by cases t<;>kernel_rfl),(by decide),k_⟩
theorem E0(hW:W0 W)(hA:aE W):aQ W [99,104,117,110,107] true 22:=br hW hA (sC 22) vC (aI W) k_ k_ k_ ⟨k_,(fun t=>by cases t<;>kernel_rfl),(fun t=>by cases t<;>kernel_rfl),k_,k_,k_,(fun t=>by cases t<;>kernel_rfl),k_,(fun t=>by cases t<;>kernel_rfl),(by decide),k_⟩
theorem E1(hW:W0 W)(hA:aE W):aQ W [99,104,117,110,107] true 23:=br hW hA (sC 23) vC (aI W) k_ k_ k_ ⟨k_,(fun t=>by cases t<;>kernel_rfl),(fun t=>by cases t<;>kernel_rfl),k_,k_,k_,(fun t=>by cases t<;>kernel_rfl),k_,(fun t=>by cases t<;>kernel_rfl),(by decide),k_⟩
theorem E2(hW:W0 W)(hA:aE W):aQ W [99,104,117,110,107] true 24:=br hW hA (sC 24) vC (aI W) k_ k_ k_ ⟨k_,(fun t=>by cases t<;>kernel_rfl),(fun t=>by cases t<;>kernel_rfl),k_,k_,k_,(fun t=>by cases t<;>kernel_rfl),k_,(fun t=>by cases t<;>kernel_rfl),(by decide),k_⟩
theorem E3(hW:W0 W)(hA:aE W):aQ W [99,104,117,110,107] true 25:=br hW hA (sC 25) vC (aI W) k_ k_ k_ ⟨k_,(fun t=>by cases t<;>kernel_rfl),(fun t=>by cases t<;>kernel_rfl),k_,k_,k_,(fun t=>by cases t<;>kernel_rfl),k_,(fun t=>by cases t<;>kernel_rfl),(by decide),k_⟩
theorem E4(hW:W0 W)(hA:aE W):aQ W [99,104,117,110,107] true 26:=br hW hA (sC 26) vC (aI W) k_ k_ k_ ⟨k_,(fun t=>by cases t<;>kernel_rfl),(fun t=>by cases t<;>kernel_rfl),k_,k_,k_,(fun t=>by cases t<;>kernel_rfl),k_,(fun t=>by cases t<;>kernel_rfl),(by decide),k_⟩
theorem E5(hW:W0 W)(hA:aE W):aQ W [99,104,117,110,107] true 27:=br hW hA (sC 27) vC (aI W) k_ k_ k_ ⟨k_,(fun t=>by cases t<;>kernel_rfl),(fun t=>by cases t<;>kernel_rfl),k_,k_,k_,(fun t=>by cases t<;>kernel_rfl),k_,(fun t=>by cases t<;>kernel_rfl),(by decide),k_⟩
theorem E6(hW:W0 W)(hA:aE W):aQ W [99,104,117,110,107] true 28:=br hW hA (sC 28) vC (aI W) k_ k_ k_ ⟨k_,(fun t=>by cases t<;>kernel_rfl),(fun t=>by cases t<;>kernel_rfl),k_,k_,k_,(fun t=>by cases t<;>kernel_rfl),k_,(fun t=>by cases t<;>kernel_rfl),(by decide),k_⟩
theorem E7(hW:W0 W)(hA:aE W):aQ W [99,104,117,110,107] true 29:=br hW hA (sC 29) vC (aI W) k_ k_ k_ ⟨k_,(fun t=>by cases t<;>kernel_rfl),(fun t=>by cases t<;>kernel_rfl),k_,k_,k_,(fun t=>by cases t<;>kernel_rfl),k_,(fun t=>by cases t<;>kernel_rfl),(by decide),k_⟩
theorem E8(hW:W0 W)(hA:aE W):aQ W [99,104,117,110,107] true 30:=br hW hA (sC 30) vC (aI W) k_ k_ k_ ⟨k_,(fun t=>by cases t<;>kernel_rfl),(fun t=>by cases t<;>kernel_rfl),k_,k_,k_,(fun t=>by cases t<;>kernel_rfl),k_,(fun t=>by cases t<;>kernel_rfl),(by decide),k_⟩
theorem E9(hW:W0 W)(hA:aE W):aQ W [99,104,117,110,107] true 31:=br hW hA (sC 31) vC (aI W) k_ k_ k_ ⟨k_,(fun t=>by cases t<;>kernel_rfl),(fun t=>by cases t<;>kernel_rfl),k_,k_,k_,(fun t=>by cases t<;>kernel_rfl),k_,(fun t=>by cases t<;>kernel_rfl),(by decide),k_⟩
theorem E'(hW:W0 W)(hA:aE W):aQ W [99,104,117,110,107] true 32:=br hW hA (sC 32) vC (aI W) k_ k_ k_ ⟨k_,(fun t=>by cases t<;>kernel_rfl),(fun t=>by cases t<;>kernel_rfl),k_,k_,k_,(fun t=>by cases t<;>kernel_rfl),k_,(fun t=>by cases t<;>kernel_rfl),(by decide),k_⟩
end Fw.Tz.Sv
