import Derived.Test.YtlgnmcfckgokdaaGreatDoorTd
import Derived.Test.YtlgnmcfckgokdaaGreatDoorTe
/-
  PrimsLaws at the names that its callees know: by running.
-/
set_option maxRecDepth 1000000
namespace Fw.Tz
open Go Go.Proofs Fw.X
variable {W : World}
def exB : Extra := .n .e 11 (tab0 (.d (.bool true))) .e
theorem exB_ok (hW : W0 W) : ExOk P (gl W) exB := ⟨trivial, tab0_ok (awake hW), trivial⟩
def ktB : FT Nat := (.n (.n (.n (.n (.n (.n .e 11 0 .e) 15 0 .e) 19 0 (.n .e 23 0 .e)) 47 0 (.n (.n (.n .e 48 0 .e) 53 0 .e) 54 0 (.n .e 58 0 .e))) 61 0 (.n (.n (.n (.n .e 64 0 .e) 79 0 .e) 81 0 (.n .e 86 0 .e)) 87 0 (.n (.n .e 96 0 .e) 97 0 (.n .e 100 0 .e)))) 102 0 (.n (.n (.n (.n (.n .e 106 0 .e) 122 0 .e) 123 0 (.n .e 125 0 .e)) 129 0 (.n (.n (.n .e 131 0 .e) 135 0 .e) 138 0 (.n .e 156 0 .e))) 165 0 (.n (.n (.n (.n .e 175 0 .e) 181 0 .e) 182 0 (.n .e 193 0 .e)) 202 0 (.n (.n .e 204 0 .e) 206 0 (.n .e 224 0 .e)))))
noncomputable def pcB (W : World) : PCallF := pcX W ktB exB 40
theorem pcB_ok (hW : W0 W) : PCallOk P (gl W) (pcB W) := pcX_ok hW (exB_ok hW) 40
theorem k9_0t (W : World) : pcB W 9 [.d (.str [45]), .d (.bool true)] = some (.d (.bool true)) := by kernel_rfl
theorem k9_0f (W : World) : pcB W 9 [.d (.str [45]), .d (.bool false)] = some (.d (.bool true)) := by kernel_rfl
theorem k9_1t (W : World) : pcB W 9 [.d (.str [33]), .d (.bool true)] = some (.d (.bool true)) := by kernel_rfl
theorem k9_1f (W : World) : pcB W 9 [.d (.str [33]), .d (.bool false)] = some (.d (.bool true)) := by kernel_rfl
theorem k9_2t (W : World) : pcB W 9 [.d (.str [124, 124]), .d (.bool true)] = some (.d (.bool true)) := by kernel_rfl
theorem k9_2f (W : World) : pcB W 9 [.d (.str [124, 124]), .d (.bool false)] = some (.d (.bool true)) := by kernel_rfl
theorem k9_3t (W : World) : pcB W 9 [.d (.str [38, 38]), .d (.bool true)] = some (.d (.bool true)) := by kernel_rfl
theorem k9_3f (W : World) : pcB W 9 [.d (.str [38, 38]), .d (.bool false)] = some (.d (.bool true)) := by kernel_rfl
theorem k9_4t (W : World) : pcB W 9 [.d (.str [61, 61]), .d (.bool true)] = some (.d (.bool true)) := by kernel_rfl
theorem k9_4f (W : World) : pcB W 9 [.d (.str [61, 61]), .d (.bool false)] = some (.d (.bool true)) := by kernel_rfl
theorem k9_5t (W : World) : pcB W 9 [.d (.str [33, 61]), .d (.bool true)] = some (.d (.bool true)) := by kernel_rfl
theorem k9_5f (W : World) : pcB W 9 [.d (.str [33, 61]), .d (.bool false)] = some (.d (.bool true)) := by kernel_rfl
theorem k9_6t (W : World) : pcB W 9 [.d (.str [60]), .d (.bool true)] = some (.d (.bool true)) := by kernel_rfl
theorem k9_6f (W : World) : pcB W 9 [.d (.str [60]), .d (.bool false)] = some (.d (.bool true)) := by kernel_rfl
theorem k9_7t (W : World) : pcB W 9 [.d (.str [60, 61]), .d (.bool true)] = some (.d (.bool true)) := by kernel_rfl
theorem k9_7f (W : World) : pcB W 9 [.d (.str [60, 61]), .d (.bool false)] = some (.d (.bool true)) := by kernel_rfl
theorem k9_8t (W : World) : pcB W 9 [.d (.str [62]), .d (.bool true)] = some (.d (.bool true)) := by kernel_rfl
theorem k9_8f (W : World) : pcB W 9 [.d (.str [62]), .d (.bool false)] = some (.d (.bool true)) := by kernel_rfl
theorem k9_9t (W : World) : pcB W 9 [.d (.str [62, 61]), .d (.bool true)] = some (.d (.bool true)) := by kernel_rfl
theorem k9_9f (W : World) : pcB W 9 [.d (.str [62, 61]), .d (.bool false)] = some (.d (.bool true)) := by kernel_rfl
theorem k9_10t (W : World) : pcB W 9 [.d (.str [43]), .d (.bool true)] = some (.d (.bool true)) := by kernel_rfl
theorem k9_10f (W : World) : pcB W 9 [.d (.str [43]), .d (.bool false)] = some (.d (.bool true)) := by kernel_rfl
theorem k9_11t (W : World) : pcB W 9 [.d (.str [42]), .d (.bool true)] = some (.d (.bool true)) := by kernel_rfl
theorem k9_11f (W : World) : pcB W 9 [.d (.str [42]), .d (.bool false)] = some (.d (.bool true)) := by kernel_rfl
theorem k9_12t (W : World) : pcB W 9 [.d (.str [47]), .d (.bool true)] = some (.d (.bool true)) := by kernel_rfl
theorem k9_12f (W : World) : pcB W 9 [.d (.str [47]), .d (.bool false)] = some (.d (.bool true)) := by kernel_rfl
theorem k9_13t (W : World) : pcB W 9 [.d (.str [37]), .d (.bool true)] = some (.d (.bool true)) := by kernel_rfl
theorem k9_13f (W : World) : pcB W 9 [.d (.str [37]), .d (.bool false)] = some (.d (.bool true)) := by kernel_rfl
theorem k9_14t (W : World) : pcB W 9 [.d (.str [97, 100, 100]), .d (.bool true)] = some (.d (.bool true)) := by kernel_rfl
theorem k9_14f (W : World) : pcB W 9 [.d (.str [97, 100, 100]), .d (.bool false)] = some (.d (.bool true)) := by kernel_rfl
theorem k9_15t (W : World) : pcB W 9 [.d (.str [111, 114]), .d (.bool true)] = some (.d (.bool true)) := by kernel_rfl
theorem k9_15f (W : World) : pcB W 9 [.d (.str [111, 114]), .d (.bool false)] = some (.d (.bool true)) := by kernel_rfl
theorem k9_16t (W : World) : pcB W 9 [.d (.str [120, 111, 114]), .d (.bool true)] = some (.d (.bool true)) := by kernel_rfl
theorem k9_16f (W : World) : pcB W 9 [.d (.str [120, 111, 114]), .d (.bool false)] = some (.d (.bool true)) := by kernel_rfl
theorem k9_17t (W : World) : pcB W 9 [.d (.str [109, 117, 108]), .d (.bool true)] = some (.d (.bool true)) := by kernel_rfl
theorem k9_17f (W : World) : pcB W 9 [.d (.str [109, 117, 108]), .d (.bool false)] = some (.d (.bool true)) := by kernel_rfl
theorem k9_18t (W : World) : pcB W 9 [.d (.str [97, 110, 100]), .d (.bool true)] = some (.d (.bool true)) := by kernel_rfl
theorem k9_18f (W : World) : pcB W 9 [.d (.str [97, 110, 100]), .d (.bool false)] = some (.d (.bool true)) := by kernel_rfl
theorem k9_19t (W : World) : pcB W 9 [.d (.str [109, 105, 110]), .d (.bool true)] = some (.d (.bool true)) := by kernel_rfl
theorem k9_19f (W : World) : pcB W 9 [.d (.str [109, 105, 110]), .d (.bool false)] = some (.d (.bool true)) := by kernel_rfl
theorem k9_20t (W : World) : pcB W 9 [.d (.str [109, 97, 120]), .d (.bool true)] = some (.d (.bool true)) := by kernel_rfl
theorem k9_20f (W : World) : pcB W 9 [.d (.str [109, 97, 120]), .d (.bool false)] = some (.d (.bool true)) := by kernel_rfl
theorem k9_21t (W : World) : pcB W 9 [.d (.str [101, 113]), .d (.bool true)] = some (.d (.bool true)) := by kernel_rfl
theorem k9_21f (W : World) : pcB W 9 [.d (.str [101, 113]), .d (.bool false)] = some (.d (.bool true)) := by kernel_rfl
theorem k9_22t (W : World) : pcB W 9 [.d (.str [110, 101]), .d (.bool true)] = some (.d (.bool true)) := by kernel_rfl
theorem k9_22f (W : World) : pcB W 9 [.d (.str [110, 101]), .d (.bool false)] = some (.d (.bool true)) := by kernel_rfl
theorem law9_known (hW : W0 W) {s : List UInt8} (u : Bool) (h : s ∈ known) : PC P (gl W) 9 [.d (.str s), .d (.bool u)] (.d (.bool true)) := by
  simp only [known, List.mem_cons, List.not_mem_nil, or_false] at h
  rcases h with rfl | rfl | rfl | rfl | rfl | rfl | rfl | rfl | rfl | rfl | rfl | rfl | rfl | rfl | rfl | rfl | rfl | rfl | rfl | rfl | rfl | rfl | rfl
  · cases u
    · exact pcB_ok hW _ _ _ (k9_0f W)
    · exact pcB_ok hW _ _ _ (k9_0t W)
  · cases u
    · exact pcB_ok hW _ _ _ (k9_1f W)
    · exact pcB_ok hW _ _ _ (k9_1t W)
  · cases u
    · exact pcB_ok hW _ _ _ (k9_2f W)
    · exact pcB_ok hW _ _ _ (k9_2t W)
  · cases u
    · exact pcB_ok hW _ _ _ (k9_3f W)
    · exact pcB_ok hW _ _ _ (k9_3t W)
  · cases u
    · exact pcB_ok hW _ _ _ (k9_4f W)
    · exact pcB_ok hW _ _ _ (k9_4t W)
  · cases u
    · exact pcB_ok hW _ _ _ (k9_5f W)
    · exact pcB_ok hW _ _ _ (k9_5t W)
  · cases u
    · exact pcB_ok hW _ _ _ (k9_6f W)
    · exact pcB_ok hW _ _ _ (k9_6t W)
  · cases u
    · exact pcB_ok hW _ _ _ (k9_7f W)
    · exact pcB_ok hW _ _ _ (k9_7t W)
  · cases u
    · exact pcB_ok hW _ _ _ (k9_8f W)
    · exact pcB_ok hW _ _ _ (k9_8t W)
  · cases u
    · exact pcB_ok hW _ _ _ (k9_9f W)
    · exact pcB_ok hW _ _ _ (k9_9t W)
  · cases u
    · exact pcB_ok hW _ _ _ (k9_10f W)
    · exact pcB_ok hW _ _ _ (k9_10t W)
  · cases u
    · exact pcB_ok hW _ _ _ (k9_11f W)
    · exact pcB_ok hW _ _ _ (k9_11t W)
  · cases u
    · exact pcB_ok hW _ _ _ (k9_12f W)
    · exact pcB_ok hW _ _ _ (k9_12t W)
  · cases u
    · exact pcB_ok hW _ _ _ (k9_13f W)
    · exact pcB_ok hW _ _ _ (k9_13t W)
  · cases u
    · exact pcB_ok hW _ _ _ (k9_14f W)
    · exact pcB_ok hW _ _ _ (k9_14t W)
  · cases u
    · exact pcB_ok hW _ _ _ (k9_15f W)
    · exact pcB_ok hW _ _ _ (k9_15t W)
  · cases u
    · exact pcB_ok hW _ _ _ (k9_16f W)
    · exact pcB_ok hW _ _ _ (k9_16t W)
  · cases u
    · exact pcB_ok hW _ _ _ (k9_17f W)
    · exact pcB_ok hW _ _ _ (k9_17t W)
  · cases u
    · exact pcB_ok hW _ _ _ (k9_18f W)
    · exact pcB_ok hW _ _ _ (k9_18t W)
  · cases u
    · exact pcB_ok hW _ _ _ (k9_19f W)
    · exact pcB_ok hW _ _ _ (k9_19t W)
  · cases u
    · exact pcB_ok hW _ _ _ (k9_20f W)
    · exact pcB_ok hW _ _ _ (k9_20t W)
  · cases u
    · exact pcB_ok hW _ _ _ (k9_21f W)
    · exact pcB_ok hW _ _ _ (k9_21t W)
  · cases u
    · exact pcB_ok hW _ _ _ (k9_22f W)
    · exact pcB_ok hW _ _ _ (k9_22t W)
end Fw.Tz
