/-
  Under of both sides at chunk, numbers 1 to 16.
-/
import Derived.Test.YtgfgckimecpmlaaGreatDoorTo
set_option linter.unusedVariables false
set_option maxRecDepth 1000000
set_option maxHeartbeats 1000000
set_option linter.unusedSimpArgs false
namespace Fw.Tz.Yv
open Go Go.Proofs Fw.X Fw.Tz Fw.Tz.Va Fw.Tz.Yd Fw.Tz.Yn Fw.Tz.Ye Fw.Tz.Yq Fw.Tz.Yw
variable {W:World}
def sC(n:Int):cl:=⟨[⟨[65],[],[⟨0,[⟨[110],n⟩]⟩]⟩],⟨[65],[],[⟨0,[⟨[110],1⟩]⟩,⟨n,[]⟩]⟩,[]⟩
def vC:List Bd:=[⟨1,[110],⟨0,[]⟩,[],[],[]⟩,⟨3,[65],⟨0,[]⟩,[],[],[]⟩]
theorem aL(W:World):kD W 40 96 [.d (.str [99,104,117,110,107])]=some uI:=k_
theorem J1(hW:W0 W)(hA:aw W):c_ W [99,104,117,110,107] 1:=bt hW hA (sC 1) vC (aK W) k_ k_ k_ k_ (aL W) (by decide) k_
theorem J2(hW:W0 W)(hA:aw W):c_ W [99,104,117,110,107] 2:=bt hW hA (sC 2) vC (aK W) k_ k_ k_ k_ (aL W) (by decide) k_
theorem J3(hW:W0 W)(hA:aw W):c_ W [99,104,117,110,107] 3:=bt hW hA (sC 3) vC (aK W) k_ k_ k_ k_ (aL W) (by decide) k_
theorem J4(hW:W0 W)(hA:aw W):c_ W [99,104,117,110,107] 4:=bt hW hA (sC 4) vC (aK W) k_ k_ k_ k_ (aL W) (by decide) k_
theorem J5(hW:W0 W)(hA:aw W):c_ W [99,104,117,110,107] 5:=bt hW hA (sC 5) vC (aK W) k_ k_ k_ k_ (aL W) (by decide) k_
theorem J6(hW:W0 W)(hA:aw W):c_ W [99,104,117,110,107] 6:=bt hW hA (sC 6) vC (aK W) k_ k_ k_ k_ (aL W) (by decide) k_
theorem J7(hW:W0 W)(hA:aw W):c_ W [99,104,117,110,107] 7:=bt hW hA (sC 7) vC (aK W) k_ k_ k_ k_ (aL W) (by decide) k_
theorem J8(hW:W0 W)(hA:aw W):c_ W [99,104,117,110,107] 8:=bt hW hA (sC 8) vC (aK W) k_ k_ k_ k_ (aL W) (by decide) k_
theorem J9(hW:W0 W)(hA:aw W):c_ W [99,104,117,110,107] 9:=bt hW hA (sC 9) vC (aK W) k_ k_ k_ k_ (aL W) (by decide) k_
theorem FG(hW:W0 W)(hA:aw W):c_ W [99,104,117,110,107] 10:=bt hW hA (sC 10) vC (aK W) k_ k_ k_ k_ (aL W) (by decide) k_
theorem FH(hW:W0 W)(hA:aw W):c_ W [99,104,117,110,107] 11:=bt hW hA (sC 11) vC (aK W) k_ k_ k_ k_ (aL W) (by decide) k_
theorem FI(hW:W0 W)(hA:aw W):c_ W [99,104,117,110,107] 12:=bt hW hA (sC 12) vC (aK W) k_ k_ k_ k_ (aL W) (by decide) k_
theorem FJ(hW:W0 W)(hA:aw W):c_ W [99,104,117,110,107] 13:=bt hW hA (sC 13) vC (aK W) k_ k_ k_ k_ (aL W) (by decide) k_
theorem FK(hW:W0 W)(hA:aw W):c_ W [99,104,117,110,107] 14:=bt hW hA (sC 14) vC (aK W) k_ k_ k_ k_ (aL W) (by decide) k_
theorem FL(hW:W0 W)(hA:aw W):c_ W [99,104,117,110,107] 15:=bt hW hA (sC 15) vC (aK W) k_ k_ k_ k_ (aL W) (by decide) k_
theorem FM(hW:W0 W)(hA:aw W):c_ W [99,104,117,110,107] 16:=bt hW hA (sC 16) vC (aK W) k_ k_ k_ k_ (aL W) (by decide) k_
end Fw.Tz.Yv
/-
  Under of both sides at chunk, numbers 17 to 32.
-/
namespace Fw.Tz.Yv
open Go Go.Proofs Fw.X Fw.Tz Fw.Tz.Va Fw.Tz.Yd Fw.Tz.Yn Fw.Tz.Ye Fw.Tz.Yq Fw.Tz.Yw
variable {W:World}
theorem FN(hW:W0 W)(hA:aw W):c_ W [99,104,117,110,107] 17:=bt hW hA (sC 17) vC (aK W) k_ k_ k_ k_ (aL W) (by decide) k_
theorem FO(hW:W0 W)(hA:aw W):c_ W [99,104,117,110,107] 18:=bt hW hA (sC 18) vC (aK W) k_ k_ k_ k_ (aL W) (by decide) k_
theorem FP(hW:W0 W)(hA:aw W):c_ W [99,104,117,110,107] 19:=bt hW hA (sC 19) vC (aK W) k_ k_ k_ k_ (aL W) (by decide) k_
theorem FQ(hW:W0 W)(hA:aw W):c_ W [99,104,117,110,107] 20:=bt hW hA (sC 20) vC (aK W) k_ k_ k_ k_ (aL W) (by decide) k_
theorem FR(hW:W0 W)(hA:aw W):c_ W [99,104,117,110,107] 21:=bt hW hA (sC 21) vC (aK W) k_ k_ k_ k_ (aL W) (by decide) k_
theorem FSz(hW:W0 W)(hA:aw W):c_ W [99,104,117,110,107] 22:=bt hW hA (sC 22) vC (aK W) k_ k_ k_ k_ (aL W) (by decide) k_
theorem FU(hW:W0 W)(hA:aw W):c_ W [99,104,117,110,107] 23:=bt hW hA (sC 23) vC (aK W) k_ k_ k_ k_ (aL W) (by decide) k_
theorem FV(hW:W0 W)(hA:aw W):c_ W [99,104,117,110,107] 24:=bt hW hA (sC 24) vC (aK W) k_ k_ k_ k_ (aL W) (by decide) k_
theorem FW(hW:W0 W)(hA:aw W):c_ W [99,104,117,110,107] 25:=bt hW hA (sC 25) vC (aK W) k_ k_ k_ k_ (aL W) (by decide) k_
theorem FX(hW:W0 W)(hA:aw W):c_ W [99,104,117,110,107] 26:=bt hW hA (sC 26) vC (aK W) k_ k_ k_ k_ (aL W) (by decide) k_
theorem FY(hW:W0 W)(hA:aw W):c_ W [99,104,117,110,107] 27:=bt hW hA (sC 27) vC (aK W) k_ k_ k_ k_ (aL W) (by decide) k_
theorem FZ(hW:W0 W)(hA:aw W):c_ W [99,104,117,110,107] 28:=bt hW hA (sC 28) vC (aK W) k_ k_ k_ k_ (aL W) (by decide) k_
theorem F0(hW:W0 W)(hA:aw W):c_ W [99,104,117,110,107] 29:=bt hW hA (sC 29) vC (aK W) k_ k_ k_ k_ (aL W) (by decide) k_
theorem F1(hW:W0 W)(hA:aw W):c_ W [99,104,117,110,107] 30:=bt hW hA (sC 30) vC (aK W) k_ k_ k_ k_ (aL W) (by decide) k_
theorem F2(hW:W0 W)(hA:aw W):c_ W [99,104,117,110,107] 31:=bt hW hA (sC 31) vC (aK W) k_ k_ k_ k_ (aL W) (by decide) k_
theorem F3(hW:W0 W)(hA:aw W):c_ W [99,104,117,110,107] 32:=bt hW hA (sC 32) vC (aK W) k_ k_ k_ k_ (aL W) (by decide) k_
end Fw.Tz.Yv
