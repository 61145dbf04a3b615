import Derived.Test.YtlgnmcfckgokdaaGreatDoorSe
/-
  PrimsSchemes: the runs.
-/
set_option maxRecDepth 1000000
namespace Fw.Tz
open Go Go.Proofs Fw.X
def post4 : IR := .seq (.seq (.region f4.r5) (.cond (.t 34) (.seq (.region f4.r6) .ret) .skip)) (.seq (.region f4.r7) (.seq (.seq (.region f4.r8) (.cond (.t 36) (.region f4.r9) .skip)) (.seq (.region f4.r10) (.seq (.seq (.region f4.r11) (.cond (.t 54) (.seq (.region f4.r12) .ret) .skip)) (.seq (.region f4.r13) (.seq (.region f4.r14) (.seq (.seq (.region f4.r15) (.block 0 (.loop f4.l31))) (.seq (.seq (.region f4.r32) (.block 6 (.loop f4.l37))) (.seq (.region f4.r38) .ret)))))))))
def rest4 : IR := .seq (.region f4.r10) (.seq (.seq (.region f4.r11) (.cond (.t 54) (.seq (.region f4.r12) .ret) .skip)) (.seq (.region f4.r13) (.seq (.region f4.r14) (.seq (.seq (.region f4.r15) (.block 0 (.loop f4.l31))) (.seq (.seq (.region f4.r32) (.block 6 (.loop f4.l37))) (.seq (.region f4.r38) .ret))))))
/-- the box of chunk's Prim -/
def primOf (v : V) : List V := match v with
  | .tuple [.agg cs, _] => cs
  | _ => []
def H4 : Heap := [some (.cells (primOf sg_chunk))]
noncomputable def ok4 (W : World) (i : Nat) : Bool := isT (runSX W ktS exS [] 177 (f4.r4.drop 6) post4 f4.res [(22, v16), (27, .d (.int .i64 (Int.ofNat i)))] [])
noncomputable def ok4c (W : World) (j : Nat) : Bool := isT (runRX W ktS exS [] 177 rest4 f4.res [(6, .ptr 0 10 0), (8, .d (.int .i64 (Int.ofNat (j + 1))))] H4)
end Fw.Tz
