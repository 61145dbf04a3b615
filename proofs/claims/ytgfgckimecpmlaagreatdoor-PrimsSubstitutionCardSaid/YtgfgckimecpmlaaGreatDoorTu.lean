/-
  PrimsSubstitution at chunk, numbers 33 to 48.
-/
import Derived.Test.YtgfgckimecpmlaaGreatDoorTr
set_option linter.unusedVariables false
set_option maxRecDepth 1000000
set_option maxHeartbeats 1000000
set_option linter.unusedSimpArgs false
namespace Fw.Tz.Sv
open Go Go.Proofs Fw.X Fw.Tz Fw.Tz.Va Fw.Tz.Yd Fw.Tz.Yn Fw.Tz.Ye Fw.Tz.Yq Fw.Tz.Yu Fw.Tz.Yw Fw.Tz.Yv Fw.Tz.Sb Fw.Tz.Sc
variable {W:World}
theorem E_(hW:W0 W)(hA:aE W):aQ W [99,104,117,110,107] true 33:=br hW hA (sC 33) vC (aI W) k_ k_ k_ ⟨k_,(fun t=>by cases t<;>kernel_rfl),(fun t=>by cases t<;>kernel_rfl),k_,k_,k_,(fun t=>by cases t<;>kernel_rfl),k_,(fun t=>by cases t<;>kernel_rfl),(by decide),k_⟩
theorem Fa(hW:W0 W)(hA:aE W):aQ W [99,104,117,110,107] true 34:=br hW hA (sC 34) vC (aI W) k_ k_ k_ ⟨k_,(fun t=>by cases t<;>kernel_rfl),(fun t=>by cases t<;>kernel_rfl),k_,k_,k_,(fun t=>by cases t<;>kernel_rfl),k_,(fun t=>by cases t<;>kernel_rfl),(by decide),k_⟩
theorem Fb(hW:W0 W)(hA:aE W):aQ W [99,104,117,110,107] true 35:=br hW hA (sC 35) vC (aI W) k_ k_ k_ ⟨k_,(fun t=>by cases t<;>kernel_rfl),(fun t=>by cases t<;>kernel_rfl),k_,k_,k_,(fun t=>by cases t<;>kernel_rfl),k_,(fun t=>by cases t<;>kernel_rfl),(by decide),k_⟩
theorem Fc(hW:W0 W)(hA:aE W):aQ W [99,104,117,110,107] true 36:=br hW hA (sC 36) vC (aI W) k_ k_ k_ ⟨k_,(fun t=>by cases t<;>kernel_rfl),(fun t=>by cases t<;>kernel_rfl),k_,k_,k_,(fun t=>by cases t<;>kernel_rfl),k_,(fun t=>by cases t<;>kernel_rfl),(by decide),k_⟩
theorem Fe(hW:W0 W)(hA:aE W):aQ W [99,104,117,110,107] true 37:=br hW hA (sC 37) vC (aI W) k_ k_ k_ ⟨k_,(fun t=>by cases t<;>kernel_rfl),(fun t=>by cases t<;>kernel_rfl),k_,k_,k_,(fun t=>by cases t<;>kernel_rfl),k_,(fun t=>by cases t<;>kernel_rfl),(by decide),k_⟩
theorem Ff(hW:W0 W)(hA:aE W):aQ W [99,104,117,110,107] true 38:=br hW hA (sC 38) vC (aI W) k_ k_ k_ ⟨k_,(fun t=>by cases t<;>kernel_rfl),(fun t=>by cases t<;>kernel_rfl),k_,k_,k_,(fun t=>by cases t<;>kernel_rfl),k_,(fun t=>by cases t<;>kernel_rfl),(by decide),k_⟩
theorem Fg(hW:W0 W)(hA:aE W):aQ W [99,104,117,110,107] true 39:=br hW hA (sC 39) vC (aI W) k_ k_ k_ ⟨k_,(fun t=>by cases t<;>kernel_rfl),(fun t=>by cases t<;>kernel_rfl),k_,k_,k_,(fun t=>by cases t<;>kernel_rfl),k_,(fun t=>by cases t<;>kernel_rfl),(by decide),k_⟩
theorem Fh(hW:W0 W)(hA:aE W):aQ W [99,104,117,110,107] true 40:=br hW hA (sC 40) vC (aI W) k_ k_ k_ ⟨k_,(fun t=>by cases t<;>kernel_rfl),(fun t=>by cases t<;>kernel_rfl),k_,k_,k_,(fun t=>by cases t<;>kernel_rfl),k_,(fun t=>by cases t<;>kernel_rfl),(by decide),k_⟩
theorem Fi(hW:W0 W)(hA:aE W):aQ W [99,104,117,110,107] true 41:=br hW hA (sC 41) vC (aI W) k_ k_ k_ ⟨k_,(fun t=>by cases t<;>kernel_rfl),(fun t=>by cases t<;>kernel_rfl),k_,k_,k_,(fun t=>by cases t<;>kernel_rfl),k_,(fun t=>by cases t<;>kernel_rfl),(by decide),k_⟩
theorem Fj(hW:W0 W)(hA:aE W):aQ W [99,104,117,110,107] true 42:=br hW hA (sC 42) vC (aI W) k_ k_ k_ ⟨k_,(fun t=>by cases t<;>kernel_rfl),(fun t=>by cases t<;>kernel_rfl),k_,k_,k_,(fun t=>by cases t<;>kernel_rfl),k_,(fun t=>by cases t<;>kernel_rfl),(by decide),k_⟩
theorem Fk(hW:W0 W)(hA:aE W):aQ W [99,104,117,110,107] true 43:=br hW hA (sC 43) vC (aI W) k_ k_ k_ ⟨k_,(fun t=>by cases t<;>kernel_rfl),(fun t=>by cases t<;>kernel_rfl),k_,k_,k_,(fun t=>by cases t<;>kernel_rfl),k_,(fun t=>by cases t<;>kernel_rfl),(by decide),k_⟩
theorem Fl(hW:W0 W)(hA:aE W):aQ W [99,104,117,110,107] true 44:=br hW hA (sC 44) vC (aI W) k_ k_ k_ ⟨k_,(fun t=>by cases t<;>kernel_rfl),(fun t=>by cases t<;>kernel_rfl),k_,k_,k_,(fun t=>by cases t<;>kernel_rfl),k_,(fun t=>by cases t<;>kernel_rfl),(by decide),k_⟩
theorem Fm(hW:W0 W)(hA:aE W):aQ W [99,104,117,110,107] true 45:=br hW hA (sC 45) vC (aI W) k_ k_ k_ ⟨k_,(fun t=>by cases t<;>kernel_rfl),(fun t=>by cases t<;>kernel_rfl),k_,k_,k_,(fun t=>by cases t<;>kernel_rfl),k_,(fun t=>by cases t<;>kernel_rfl),(by decide),k_⟩
theorem Fo(hW:W0 W)(hA:aE W):aQ W [99,104,117,110,107] true 46:=br hW hA (sC 46) vC (aI W) k_ k_ k_ ⟨k_,(fun t=>by cases t<;>kernel_rfl),(fun t=>by cases t<;>kernel_rfl),k_,k_,k_,(fun t=>by cases t<;>kernel_rfl),k_,(fun t=>by cases t<;>kernel_rfl),(by decide),k_⟩
theorem Fp(hW:W0 W)(hA:aE W):aQ W [99,104,117,110,107] true 47:=br hW hA (sC 47) vC (aI W) k_ k_ k_ ⟨k_,(fun t=>by cases t<;>kernel_rfl),(fun t=>by cases t<;>kernel_rfl),k_,k_,k_,(fun t=>by cases t<;>kernel_rfl),k_,(fun t=>by cases t<;>kernel_rfl),(by decide),k_⟩
theorem Fq(hW:W0 W)(hA:aE W):aQ W [99,104,117,110,107] true 48:=br hW hA (sC 48) vC (aI W) k_ k_ k_ ⟨k_,(fun t=>by cases t<;>kernel_rfl),(fun t=>by cases t<;>kernel_rfl),k_,k_,k_,(fun t=>by cases t<;>kernel_rfl),k_,(fun t=>by cases t<;>kernel_rfl),(by decide),k_⟩
end Fw.Tz.Sv
/-
  PrimsSubstitution at chunk, numbers 49 to 64.
-/
namespace Fw.Tz.Sv
open Go Go.Proofs Fw.X Fw.Tz Fw.Tz.Va Fw.Tz.Yd Fw.Tz.Yn Fw.Tz.Ye Fw.Tz.Yq Fw.Tz.Yu Fw.Tz.Yw Fw.Tz.Yv Fw.Tz.Sb Fw.Tz.Sc
variable {W:World}
theorem Fs(hW:W0 W)(hA:aE W):aQ W [99,104,117,110,107] true 49:=br hW hA (sC 49) vC (aI W) k_ k_ k_ ⟨k_,(fun t=>by cases t<;>kernel_rfl),(fun t=>by cases t<;>kernel_rfl),k_,k_,k_,(fun t=>by cases t<;>kernel_rfl),k_,(fun t=>by cases t<;>kernel_rfl),(by decide),k_⟩
theorem Ft(hW:W0 W)(hA:aE W):aQ W [99,104,117,110,107] true 50:=br hW hA (sC 50) vC (aI W) k_ k_ k_ ⟨k_,(fun t=>by cases t<;>kernel_rfl),(fun t=>by cases t<;>kernel_rfl),k_,k_,k_,(fun t=>by cases t<;>kernel_rfl),k_,(fun t=>by cases t<;>kernel_rfl),(by decide),k_⟩
theorem Fu(hW:W0 W)(hA:aE W):aQ W [99,104,117,110,107] true 51:=br hW hA (sC 51) vC (aI W) k_ k_ k_ ⟨k_,(fun t=>by cases t<;>kernel_rfl),(fun t=>by cases t<;>kernel_rfl),k_,k_,k_,(fun t=>by cases t<;>kernel_rfl),k_,(fun t=>by cases t<;>kernel_rfl),(by decide),k_⟩
theorem Fv(hW:W0 W)(hA:aE W):aQ W [99,104,117,110,107] true 52:=br hW hA (sC 52) vC (aI W) k_ k_ k_ ⟨k_,(fun t=>by cases t<;>kernel_rfl),(fun t=>by cases t<;>kernel_rfl),k_,k_,k_,(fun t=>by cases t<;>kernel_rfl),k_,(fun t=>by cases t<;>kernel_rfl),(by decide),k_⟩
theorem Fx(hW:W0 W)(hA:aE W):aQ W [99,104,117,110,107] true 53:=br hW hA (sC 53) vC (aI W) k_ k_ k_ ⟨k_,(fun t=>by cases t<;>kernel_rfl),(fun t=>by cases t<;>kernel_rfl),k_,k_,k_,(fun t=>by cases t<;>kernel_rfl),k_,(fun t=>by cases t<;>kernel_rfl),(by decide),k_⟩
theorem Fy(hW:W0 W)(hA:aE W):aQ W [99,104,117,110,107] true 54:=br hW hA (sC 54) vC (aI W) k_ k_ k_ ⟨k_,(fun t=>by cases t<;>kernel_rfl),(fun t=>by cases t<;>kernel_rfl),k_,k_,k_,(fun t=>by cases t<;>kernel_rfl),k_,(fun t=>by cases t<;>kernel_rfl),(by decide),k_⟩
theorem Fz(hW:W0 W)(hA:aE W):aQ W [99,104,117,110,107] true 55:=br hW hA (sC 55) vC (aI W) k_ k_ k_ ⟨k_,(fun t=>by cases t<;>kernel_rfl),(fun t=>by cases t<;>kernel_rfl),k_,k_,k_,(fun t=>by cases t<;>kernel_rfl),k_,(fun t=>by cases t<;>kernel_rfl),(by decide),k_⟩
theorem FA(hW:W0 W)(hA:aE W):aQ W [99,104,117,110,107] true 56:=br hW hA (sC 56) vC (aI W) k_ k_ k_ ⟨k_,(fun t=>by cases t<;>kernel_rfl),(fun t=>by cases t<;>kernel_rfl),k_,k_,k_,(fun t=>by cases t<;>kernel_rfl),k_,(fun t=>by cases t<;>kernel_rfl),(by decide),k_⟩
theorem FB(hW:W0 W)(hA:aE W):aQ W [99,104,117,110,107] true 57:=br hW hA (sC 57) vC (aI W) k_ k_ k_ ⟨k_,(fun t=>by cases t<;>kernel_rfl),(fun t=>by cases t<;>kernel_rfl),k_,k_,k_,(fun t=>by cases t<;>kernel_rfl),k_,(fun t=>by cases t<;>kernel_rfl),(by decide),k_⟩
theorem FC(hW:W0 W)(hA:aE W):aQ W [99,104,117,110,107] true 58:=br hW hA (sC 58) vC (aI W) k_ k_ k_ ⟨k_,(fun t=>by cases t<;>kernel_rfl),(fun t=>by cases t<;>kernel_rfl),k_,k_,k_,(fun t=>by cases t<;>kernel_rfl),k_,(fun t=>by cases t<;>kernel_rfl),(by decide),k_⟩
theorem FD(hW:W0 W)(hA:aE W):aQ W [99,104,117,110,107] true 59:=br hW hA (sC 59) vC (aI W) k_ k_ k_ ⟨k_,(fun t=>by cases t<;>kernel_rfl),(fun t=>by cases t<;>kernel_rfl),k_,k_,k_,(fun t=>by cases t<;>kernel_rfl),k_,(fun t=>by cases t<;>kernel_rfl),(by decide),k_⟩
theorem FE(hW:W0 W)(hA:aE W):aQ W [99,104,117,110,107] true 60:=br hW hA (sC 60) vC (aI W) k_ k_ k_ ⟨k_,(fun t=>by cases t<;>kernel_rfl),(fun t=>by cases t<;>kernel_rfl),k_,k_,k_,(fun t=>by cases t<;>kernel_rfl),k_,(fun t=>by cases t<;>kernel_rfl),(by decide),k_⟩
theorem FF(hW:W0 W)(hA:aE W):aQ W [99,104,117,110,107] true 61:=br hW hA (sC 61) vC (aI W) k_ k_ k_ ⟨k_,(fun t=>by cases t<;>kernel_rfl),(fun t=>by cases t<;>kernel_rfl),k_,k_,k_,(fun t=>by cases t<;>kernel_rfl),k_,(fun t=>by cases t<;>kernel_rfl),(by decide),k_⟩
theorem FG(hW:W0 W)(hA:aE W):aQ W [99,104,117,110,107] true 62:=br hW hA (sC 62) vC (aI W) k_ k_ k_ ⟨k_,(fun t=>by cases t<;>kernel_rfl),(fun t=>by cases t<;>kernel_rfl),k_,k_,k_,(fun t=>by cases t<;>kernel_rfl),k_,(fun t=>by cases t<;>kernel_rfl),(by decide),k_⟩
theorem FH(hW:W0 W)(hA:aE W):aQ W [99,104,117,110,107] true 63:=br hW hA (sC 63) vC (aI W) k_ k_ k_ ⟨k_,(fun t=>by cases t<;>kernel_rfl),(fun t=>by cases t<;>kernel_rfl),k_,k_,k_,(fun t=>by cases t<;>kernel_rfl),k_,(fun t=>by cases t<;>kernel_rfl),(by decide),k_⟩
theorem FI(hW:W0 W)(hA:aE W):aQ W [99,104,117,110,107] true 64:=br hW hA (sC 64) vC (aI W) k_ k_ k_ ⟨k_,(fun t=>by cases t<;>kernel_rfl),(fun t=>by cases t<;>kernel_rfl),k_,k_,k_,(fun t=>by cases t<;>kernel_rfl),k_,(fun t=>by cases t<;>kernel_rfl),(by decide),k_⟩
end Fw.Tz.Sv
