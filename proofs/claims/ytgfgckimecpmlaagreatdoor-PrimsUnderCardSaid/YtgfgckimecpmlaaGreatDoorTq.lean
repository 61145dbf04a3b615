/-
  Under of both sides at chunk, numbers 33 to 48.
-/
import Derived.Test.YtgfgckimecpmlaaGreatDoorTp
set_option linter.unusedVariables false
set_option maxRecDepth 1000000
set_option maxHeartbeats 1000000
set_option linter.unusedSimpArgs false
namespace Fw.Tz.Yv
open Go Go.Proofs Fw.X Fw.Tz Fw.Tz.Va Fw.Tz.Yd Fw.Tz.Yn Fw.Tz.Ye Fw.Tz.Yq Fw.Tz.Yw
variable {W:World}
theorem F4(hW:W0 W)(hA:aw W):c_ W [99,104,117,110,107] 33:=bt hW hA (sC 33) vC (aK W) k_ k_ k_ k_ (aL W) (by decide) k_
theorem F5(hW:W0 W)(hA:aw W):c_ W [99,104,117,110,107] 34:=bt hW hA (sC 34) vC (aK W) k_ k_ k_ k_ (aL W) (by decide) k_
theorem F6(hW:W0 W)(hA:aw W):c_ W [99,104,117,110,107] 35:=bt hW hA (sC 35) vC (aK W) k_ k_ k_ k_ (aL W) (by decide) k_
theorem F7(hW:W0 W)(hA:aw W):c_ W [99,104,117,110,107] 36:=bt hW hA (sC 36) vC (aK W) k_ k_ k_ k_ (aL W) (by decide) k_
theorem F8(hW:W0 W)(hA:aw W):c_ W [99,104,117,110,107] 37:=bt hW hA (sC 37) vC (aK W) k_ k_ k_ k_ (aL W) (by decide) k_
theorem F9(hW:W0 W)(hA:aw W):c_ W [99,104,117,110,107] 38:=bt hW hA (sC 38) vC (aK W) k_ k_ k_ k_ (aL W) (by decide) k_
theorem F'(hW:W0 W)(hA:aw W):c_ W [99,104,117,110,107] 39:=bt hW hA (sC 39) vC (aK W) k_ k_ k_ k_ (aL W) (by decide) k_
theorem F_(hW:W0 W)(hA:aw W):c_ W [99,104,117,110,107] 40:=bt hW hA (sC 40) vC (aK W) k_ k_ k_ k_ (aL W) (by decide) k_
theorem Ga(hW:W0 W)(hA:aw W):c_ W [99,104,117,110,107] 41:=bt hW hA (sC 41) vC (aK W) k_ k_ k_ k_ (aL W) (by decide) k_
theorem Gb(hW:W0 W)(hA:aw W):c_ W [99,104,117,110,107] 42:=bt hW hA (sC 42) vC (aK W) k_ k_ k_ k_ (aL W) (by decide) k_
theorem Gc(hW:W0 W)(hA:aw W):c_ W [99,104,117,110,107] 43:=bt hW hA (sC 43) vC (aK W) k_ k_ k_ k_ (aL W) (by decide) k_
theorem Gd(hW:W0 W)(hA:aw W):c_ W [99,104,117,110,107] 44:=bt hW hA (sC 44) vC (aK W) k_ k_ k_ k_ (aL W) (by decide) k_
theorem Ge(hW:W0 W)(hA:aw W):c_ W [99,104,117,110,107] 45:=bt hW hA (sC 45) vC (aK W) k_ k_ k_ k_ (aL W) (by decide) k_
theorem Gf(hW:W0 W)(hA:aw W):c_ W [99,104,117,110,107] 46:=bt hW hA (sC 46) vC (aK W) k_ k_ k_ k_ (aL W) (by decide) k_
theorem Gg(hW:W0 W)(hA:aw W):c_ W [99,104,117,110,107] 47:=bt hW hA (sC 47) vC (aK W) k_ k_ k_ k_ (aL W) (by decide) k_
theorem Gh(hW:W0 W)(hA:aw W):c_ W [99,104,117,110,107] 48:=bt hW hA (sC 48) vC (aK W) k_ k_ k_ k_ (aL W) (by decide) k_
end Fw.Tz.Yv
/-
  Under of both sides at chunk, numbers 49 to 64.
-/
namespace Fw.Tz.Yv
open Go Go.Proofs Fw.X Fw.Tz Fw.Tz.Va Fw.Tz.Yd Fw.Tz.Yn Fw.Tz.Ye Fw.Tz.Yq Fw.Tz.Yw
variable {W:World}
theorem Gi(hW:W0 W)(hA:aw W):c_ W [99,104,117,110,107] 49:=bt hW hA (sC 49) vC (aK W) k_ k_ k_ k_ (aL W) (by decide) k_
theorem Gj(hW:W0 W)(hA:aw W):c_ W [99,104,117,110,107] 50:=bt hW hA (sC 50) vC (aK W) k_ k_ k_ k_ (aL W) (by decide) k_
theorem Gk(hW:W0 W)(hA:aw W):c_ W [99,104,117,110,107] 51:=bt hW hA (sC 51) vC (aK W) k_ k_ k_ k_ (aL W) (by decide) k_
theorem Gl(hW:W0 W)(hA:aw W):c_ W [99,104,117,110,107] 52:=bt hW hA (sC 52) vC (aK W) k_ k_ k_ k_ (aL W) (by decide) k_
theorem Gm(hW:W0 W)(hA:aw W):c_ W [99,104,117,110,107] 53:=bt hW hA (sC 53) vC (aK W) k_ k_ k_ k_ (aL W) (by decide) k_
theorem Gn(hW:W0 W)(hA:aw W):c_ W [99,104,117,110,107] 54:=bt hW hA (sC 54) vC (aK W) k_ k_ k_ k_ (aL W) (by decide) k_
theorem Gp(hW:W0 W)(hA:aw W):c_ W [99,104,117,110,107] 55:=bt hW hA (sC 55) vC (aK W) k_ k_ k_ k_ (aL W) (by decide) k_
theorem Gq(hW:W0 W)(hA:aw W):c_ W [99,104,117,110,107] 56:=bt hW hA (sC 56) vC (aK W) k_ k_ k_ k_ (aL W) (by decide) k_
theorem Gr(hW:W0 W)(hA:aw W):c_ W [99,104,117,110,107] 57:=bt hW hA (sC 57) vC (aK W) k_ k_ k_ k_ (aL W) (by decide) k_
theorem Gs(hW:W0 W)(hA:aw W):c_ W [99,104,117,110,107] 58:=bt hW hA (sC 58) vC (aK W) k_ k_ k_ k_ (aL W) (by decide) k_
theorem Gu(hW:W0 W)(hA:aw W):c_ W [99,104,117,110,107] 59:=bt hW hA (sC 59) vC (aK W) k_ k_ k_ k_ (aL W) (by decide) k_
theorem Gv(hW:W0 W)(hA:aw W):c_ W [99,104,117,110,107] 60:=bt hW hA (sC 60) vC (aK W) k_ k_ k_ k_ (aL W) (by decide) k_
theorem Gw(hW:W0 W)(hA:aw W):c_ W [99,104,117,110,107] 61:=bt hW hA (sC 61) vC (aK W) k_ k_ k_ k_ (aL W) (by decide) k_
theorem Gx(hW:W0 W)(hA:aw W):c_ W [99,104,117,110,107] 62:=bt hW hA (sC 62) vC (aK W) k_ k_ k_ k_ (aL W) (by decide) k_
theorem Gy(hW:W0 W)(hA:aw W):c_ W [99,104,117,110,107] 63:=bt hW hA (sC 63) vC (aK W) k_ k_ k_ k_ (aL W) (by decide) k_
theorem Gz(hW:W0 W)(hA:aw W):c_ W [99,104,117,110,107] 64:=bt hW hA (sC 64) vC (aK W) k_ k_ k_ k_ (aL W) (by decide) k_
end Fw.Tz.Yv
