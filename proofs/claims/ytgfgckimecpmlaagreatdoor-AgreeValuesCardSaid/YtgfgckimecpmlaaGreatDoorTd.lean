/-
  Steps over the common answers.
-/
import Derived.Test.YtgfgckimecpmlaaGreatDoorTc
import Derived.Test.YtgfgckimecpmlaaGreatDoorFg

set_option linter.unusedSimpArgs false
set_option maxRecDepth 1000000
namespace Fw.Tz.Sd
open Go Go.Proofs Fw.X Fw.Tz
variable {W : World}
noncomputable def rd (W : World) (ov : List (Nat × Bool)) (sp : List (Nat × V)) (n : Nat) (l : List IOper) (ks : List Nat) (tm : List (Nat × V)) (H : Heap) : Option (List V × Heap × List (Bool × Bool) × CallL) :=
  runDX [] (gl W) (dcallOf (pcallX kt0 .e (rawX W kt0 .e 40)) (callX W kt0 .e (rawX W kt0 .e 40))) ov sp n l ks tm H
theorem dg (hW : W0 W) (ov : List (Nat × Bool)) (sp : List (Nat × V)) {n : Nat} {l : List IOper} {K : List Fr} {tm tm' : List (Nat × V)} {H H' : Heap} {cs : List (Bool × Bool)} {calls : CallL} {Q : Ex → St → Prop}
    (h : rd W ov sp n l (tm'.map Prod.fst) tm H = some (tm'.map Prod.snd, H', cs, calls)) (hcs : allEq cs) (hcl : allPC P (gl W) calls) (hq : CG P (gl W) (.out .normal) K n tm' H' Q) : CG P (gl W) (.code (.draw l)) K n tm H Q :=
  CG.drawX orders (dcallOf_ok (pcallX_ok hW (ex0) _ (rawX_ok hW (ex0) 40)) (callX_ok hW (ex0) _ (rawX_ok hW (ex0) 40))) ov sp h hcs hcl hq
noncomputable def rg (W : World) (n : Nat) (N j : Nat) (bs : List Bool) (cur : Cur) (K : List Fr) (ks : List Nat) (tm : List (Nat × V)) (H : Heap) : Option XR :=
  runG [] (gl W) (callX W kt0 .e (rawX W kt0 .e 40)) (pcallX kt0 .e (rawX W kt0 .e 40)) n N j bs cur K ks tm H
theorem s2 (hW : W0 W) (N j : Nat) (bs : List Bool) (m : Nat) (nw : List (Nat × V)) (H' : Heap) {cur c' : Cur} {K K' : List Fr} {n : Nat} {tm : List (Nat × V)} {H : Heap} {Q : Ex → St → Prop} (hq : CG P (gl W) c' K' n (upd m nw tm) H' Q) (h1 : ctlJ N j bs cur K = some (c', K') := by rfl) (h2 : rg W n N j bs cur K ((upd m nw tm).map Prod.fst) tm H = some (.tuple ((upd m nw tm).map Prod.snd), H') := by kernel_rfl) : CG P (gl W) cur K n tm H Q :=
  CG.st orders (callX_ok hW (ex0) _ (rawX_ok hW (ex0) 40)) (pcallX_ok hW (ex0) _ (rawX_ok hW (ex0) 40)) N j bs h1 h2 hq
theorem s1 (hW : W0 W) (N j : Nat) (bs : List Bool) (m : Nat) (nw : List (Nat × V)) {cur c' : Cur} {K K' : List Fr} {n : Nat} {tm : List (Nat × V)} {H : Heap} {Q : Ex → St → Prop} (hq : CG P (gl W) c' K' n (upd m nw tm) H Q) (h1 : ctlJ N j bs cur K = some (c', K') := by rfl) (h2 : rg W n N j bs cur K ((upd m nw tm).map Prod.fst) tm H = some (.tuple ((upd m nw tm).map Prod.snd), H) := by kernel_rfl) : CG P (gl W) cur K n tm H Q := s2 hW N j bs m nw H hq h1 h2
theorem s4 (hW : W0 W) (N j : Nat) (bs : List Bool) (m : Nat) (nw : List (Nat × V)) (hd : List (Nat × Box)) {cur c' : Cur} {K K' : List Fr} {n : Nat} {tm : List (Nat × V)} {H : Heap} {Q : Ex → St → Prop} (hq : CG P (gl W) c' K' n (upd m nw tm) (hpu hd H) Q) (h1 : ctlJ N j bs cur K = some (c', K') := by rfl) (h2 : rg W n N j bs cur K ((upd m nw tm).map Prod.fst) tm H = some (.tuple ((upd m nw tm).map Prod.snd), hpu hd H) := by kernel_rfl) : CG P (gl W) cur K n tm H Q := s2 hW N j bs m nw (hpu hd H) hq h1 h2
theorem s3 (hW : W0 W) (N j : Nat) (bs : List Bool) (tm' : List (Nat × V)) (H' : Heap) {cur c' : Cur} {K K' : List Fr} {n : Nat} {tm : List (Nat × V)} {H : Heap} {Q : Ex → St → Prop} (hq : CG P (gl W) c' K' n tm' H' Q) (h1 : ctlJ N j bs cur K = some (c', K') := by rfl) (h2 : rg W n N j bs cur K (tm'.map Prod.fst) tm H = some (.tuple (tm'.map Prod.snd), H') := by kernel_rfl) : CG P (gl W) cur K n tm H Q :=
  CG.st orders (callX_ok hW (ex0) _ (rawX_ok hW (ex0) 40)) (pcallX_ok hW (ex0) _ (rawX_ok hW (ex0) 40)) N j bs h1 h2 hq
end Fw.Tz.Sd

/-
  The 'awake' of law 14 is true.
-/
namespace Fw.Tz
open Go Go.Proofs Fw.X
theorem kAw14 (W : World) : pcT W 40 12 [] = some (.d (.bool true)) := by kernel_rfl
theorem awake14 {W : World} (hW : W0 W) : PC P (gl W) 12 [] (.d (.bool true)) := pcT_ok hW 40 _ _ _ (kAw14 W)
end Fw.Tz

/-
  The examples' answer as a table.
-/
namespace Fw.Tz
open Go Go.Proofs Fw.X
def ktA : FT Nat := (.n (.n (.n (.n (.n (.n .e 12 0 .e) 42 0 .e) 48 0 (.n .e 51 0 .e)) 59 0 (.n (.n (.n .e 88 0 .e) 89 0 .e) 94 0 (.n .e 97 0 .e))) 101 0 (.n (.n (.n (.n .e 104 0 .e) 107 0 .e) 108 0 (.n .e 110 0 .e)) 118 0 (.n (.n (.n .e 143 0 .e) 144 0 .e) 149 0 (.n .e 150 0 .e)))) 154 0 (.n (.n (.n (.n (.n .e 160 0 .e) 161 0 .e) 163 0 (.n .e 165 0 .e)) 167 0 (.n (.n (.n .e 170 0 .e) 172 0 .e) 173 0 (.n .e 175 0 .e))) 181 0 (.n (.n (.n (.n .e 200 0 .e) 203 0 .e) 206 0 (.n .e 232 0 .e)) 235 0 (.n (.n (.n .e 248 0 .e) 271 0 .e) 273 0 (.n .e 275 0 .e)))))
def awA : List V → Option V
  | [] => some (.d (.bool true))
  | _ => none
def exA : Extra := .n .e 12 awA .e
theorem exA_ok {W : World} (hW : W0 W) : ExOk P (gl W) exA := ⟨trivial, fun args v h => by
  cases args with
  | nil => simp only [awA, Option.some.injEq] at h; subst h; exact awake14 hW
  | cons a l => simp [awA] at h, trivial⟩
end Fw.Tz
