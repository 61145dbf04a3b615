/-
  What Names and Sig answer; the law's own 'awake' is true.
-/
import Derived.Test.YtlgnmcfckgokdaaGreatDoorTc

set_option maxRecDepth 1000000
namespace Fw.Tz
open Go Go.Proofs Fw.X
def v16 : V := (.d (.list [[(.str [97, 98, 115])], [(.str [97, 100, 100])], [(.str [97, 110, 100])], [(.str [97, 112, 112, 101, 110, 100])], [(.str [99, 104, 117, 110, 107])], [(.str [100, 105, 97, 103, 111, 110, 97, 108])], [(.str [100, 105, 118])], [(.str [100, 114, 111, 112])], [(.str [101, 113])], [(.str [102, 105, 108, 108])], [(.str [103, 101])], [(.str [103, 116])], [(.str [105, 110, 100, 101, 120])], [(.str [105, 111, 116, 97])], [(.str [108, 101])], [(.str [108, 116])], [(.str [109, 97, 120])], [(.str [109, 105, 110])], [(.str [109, 111, 100])], [(.str [109, 117, 108])], [(.str [110, 101])], [(.str [110, 101, 103])], [(.str [110, 111, 116])], [(.str [111, 114])], [(.str [114, 101, 118, 101, 114, 115, 101])], [(.str [115, 101, 108, 101, 99, 116])], [(.str [115, 105, 103, 110])], [(.str [115, 117, 98])], [(.str [116, 97, 107, 101])], [(.str [116, 111, 105, 110, 116])], [(.str [116, 114, 97, 110, 115, 112, 111, 115, 101])], [(.str [117, 112, 100, 97, 116, 101])], [(.str [119, 105, 110, 100, 111, 119, 115])], [(.str [120, 111, 114])]]))
def v17 : V := (.tuple [(.agg [(.d (.str [116, 97, 107, 101])), (.d (.bool false)), (.d (.bool false)), (.d (.bool false)), (.d (.list [[(.str [107])]])), (.d (.list [[(.str [65]), (.str []), (.list [[(.int .i64 0), (.list [[(.str [110]), (.int .i64 1)]])]])]])), (.d (.str [65])), (.d (.str [])), (.d (.list [[(.int .i64 0), (.list [[(.str [107]), (.int .i64 1)]])]])), (.d (.list [[(.int .i64 0), (.list [[(.str [107]), (.int .i64 1)]])], [(.int .i64 0), (.list [[(.str [107]), (.int .i64 (-1))], [(.str [110]), (.int .i64 1)]])]]))]), (.d (.bool true))])
theorem k16 (W : World) : pcT W 40 16 [] = some v16 := by kernel_rfl
theorem k17 (W : World) : pcT W 40 17 [.d (.str [116, 97, 107, 101])] = some v17 := by kernel_rfl
variable {W : World}
def sgA : List (List UInt8 × V) := [([116, 97, 107, 101], v17)]
def exA : Extra := .n (.n .e 16 (tab0 v16) .e) 17 (tabS sgA) .e
theorem exA_ok (hW : W0 W) : ExOk P (gl W) exA :=
  ⟨⟨trivial, tab0_ok (pcT_ok hW 40 _ _ _ (k16 W)), trivial⟩, tabS_ok (fun q hq => by
    simp only [sgA, List.mem_cons, List.not_mem_nil, or_false] at hq; subst hq; exact pcT_ok hW 40 _ _ _ (k17 W)), trivial⟩
def ktA : FT Nat := (.n (.n (.n (.n (.n (.n .e 15 0 .e) 16 0 .e) 17 0 (.n .e 19 0 .e)) 23 0 (.n (.n (.n .e 47 0 .e) 48 0 .e) 53 0 (.n .e 54 0 .e))) 58 0 (.n (.n (.n (.n .e 61 0 .e) 64 0 .e) 79 0 (.n .e 81 0 .e)) 86 0 (.n (.n (.n .e 87 0 .e) 96 0 .e) 97 0 (.n .e 100 0 .e)))) 102 0 (.n (.n (.n (.n (.n .e 106 0 .e) 122 0 .e) 123 0 (.n .e 125 0 .e)) 129 0 (.n (.n (.n .e 131 0 .e) 135 0 .e) 138 0 (.n .e 156 0 .e))) 165 0 (.n (.n (.n (.n .e 175 0 .e) 181 0 .e) 182 0 (.n .e 193 0 .e)) 202 0 (.n (.n .e 204 0 .e) 206 0 (.n .e 224 0 .e)))))
noncomputable def pcA (W : World) (d : Nat) : PCallF := pcX W ktA exA d
theorem pcA_ok (hW : W0 W) (d : Nat) : PCallOk P (gl W) (pcA W d) := pcX_ok hW (exA_ok hW) d
end Fw.Tz

/-
  The law's own 'awake' is true.
-/
set_option maxRecDepth 1000000
namespace Fw.Tz
open Go Go.Proofs Fw.X
theorem k11 (W : World) : pcA W 40 11 [] = some (.d (.bool true)) := by kernel_rfl
theorem awake {W : World} (hW : W0 W) : PC P (gl W) 11 [] (.d (.bool true)) := pcA_ok hW 40 _ _ _ (k11 W)
end Fw.Tz
