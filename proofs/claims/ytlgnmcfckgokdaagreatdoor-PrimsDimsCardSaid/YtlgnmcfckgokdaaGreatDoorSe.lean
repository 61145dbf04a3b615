/-
  What Sig answers at the names of all primitives, as a table; Names and awake beside it.
-/
import Derived.Test.YtlgnmcfckgokdaaGreatDoorSa
import Derived.Test.YtlgnmcfckgokdaaGreatDoorSb
import Derived.Test.YtlgnmcfckgokdaaGreatDoorSc
import Derived.Test.YtlgnmcfckgokdaaGreatDoorSd
import Derived.Test.YtlgnmcfckgokdaaGreatDoorTd

set_option maxRecDepth 1000000
namespace Fw.Tz
open Go Go.Proofs Fw.X
variable {W : World}
def sgT : List (List UInt8 × V) := [([97, 98, 115], sg_abs), ([97, 100, 100], sg_add), ([97, 110, 100], sg_and), ([97, 112, 112, 101, 110, 100], sg_append), ([99, 104, 117, 110, 107], sg_chunk), ([100, 105, 97, 103, 111, 110, 97, 108], sg_diagonal), ([100, 105, 118], sg_div), ([100, 114, 111, 112], sg_drop), ([101, 113], sg_eq), ([102, 105, 108, 108], sg_fill), ([103, 101], sg_ge), ([103, 116], sg_gt), ([105, 110, 100, 101, 120], sg_index), ([105, 111, 116, 97], sg_iota), ([108, 101], sg_le), ([108, 116], sg_lt), ([109, 97, 120], sg_max), ([109, 105, 110], sg_min), ([109, 111, 100], sg_mod), ([109, 117, 108], sg_mul), ([110, 101], sg_ne), ([110, 101, 103], sg_neg), ([110, 111, 116], sg_not), ([111, 114], sg_or), ([114, 101, 118, 101, 114, 115, 101], sg_reverse), ([115, 101, 108, 101, 99, 116], sg_select), ([115, 105, 103, 110], sg_sign), ([115, 117, 98], sg_sub), ([116, 97, 107, 101], sg_take), ([116, 111, 105, 110, 116], sg_toint), ([116, 114, 97, 110, 115, 112, 111, 115, 101], sg_transpose), ([117, 112, 100, 97, 116, 101], sg_update), ([119, 105, 110, 100, 111, 119, 115], sg_windows), ([120, 111, 114], sg_xor)]
theorem sgT_ok (hW : W0 W) : ∀ q ∈ sgT, PC P (gl W) 17 [.d (.str q.1)] q.2 := by
  intro q hq
  simp only [sgT, List.mem_cons, List.not_mem_nil, or_false] at hq
  rcases hq with rfl | rfl | rfl | rfl | rfl | rfl | rfl | rfl | rfl | rfl | rfl | rfl | rfl | rfl | rfl | rfl | rfl | rfl | rfl | rfl | rfl | rfl | rfl | rfl | rfl | rfl | rfl | rfl | rfl | rfl | rfl | rfl | rfl | rfl
  · exact pcT_ok hW 40 _ _ _ (ks_abs W)
  · exact pcT_ok hW 40 _ _ _ (ks_add W)
  · exact pcT_ok hW 40 _ _ _ (ks_and W)
  · exact pcT_ok hW 40 _ _ _ (ks_append W)
  · exact pcT_ok hW 40 _ _ _ (ks_chunk W)
  · exact pcT_ok hW 40 _ _ _ (ks_diagonal W)
  · exact pcT_ok hW 40 _ _ _ (ks_div W)
  · exact pcT_ok hW 40 _ _ _ (ks_drop W)
  · exact pcT_ok hW 40 _ _ _ (ks_eq W)
  · exact pcT_ok hW 40 _ _ _ (ks_fill W)
  · exact pcT_ok hW 40 _ _ _ (ks_ge W)
  · exact pcT_ok hW 40 _ _ _ (ks_gt W)
  · exact pcT_ok hW 40 _ _ _ (ks_index W)
  · exact pcT_ok hW 40 _ _ _ (ks_iota W)
  · exact pcT_ok hW 40 _ _ _ (ks_le W)
  · exact pcT_ok hW 40 _ _ _ (ks_lt W)
  · exact pcT_ok hW 40 _ _ _ (ks_max W)
  · exact pcT_ok hW 40 _ _ _ (ks_min W)
  · exact pcT_ok hW 40 _ _ _ (ks_mod W)
  · exact pcT_ok hW 40 _ _ _ (ks_mul W)
  · exact pcT_ok hW 40 _ _ _ (ks_ne W)
  · exact pcT_ok hW 40 _ _ _ (ks_neg W)
  · exact pcT_ok hW 40 _ _ _ (ks_not W)
  · exact pcT_ok hW 40 _ _ _ (ks_or W)
  · exact pcT_ok hW 40 _ _ _ (ks_reverse W)
  · exact pcT_ok hW 40 _ _ _ (ks_select W)
  · exact pcT_ok hW 40 _ _ _ (ks_sign W)
  · exact pcT_ok hW 40 _ _ _ (ks_sub W)
  · exact pcT_ok hW 40 _ _ _ (ks_take W)
  · exact pcT_ok hW 40 _ _ _ (ks_toint W)
  · exact pcT_ok hW 40 _ _ _ (ks_transpose W)
  · exact pcT_ok hW 40 _ _ _ (ks_update W)
  · exact pcT_ok hW 40 _ _ _ (ks_windows W)
  · exact pcT_ok hW 40 _ _ _ (ks_xor W)
def exS : Extra := .n (.n .e 11 (tab0 (.d (.bool true))) .e) 16 (tab0 v16) (.n .e 17 (tabS sgT) .e)
theorem exS_ok (hW : W0 W) : ExOk P (gl W) exS :=
  ⟨⟨trivial, tab0_ok (awake hW), trivial⟩, tab0_ok (pcT_ok hW 40 _ _ _ (k16 W)), ⟨trivial, tabS_ok (sgT_ok hW), trivial⟩⟩
def ktS : FT Nat := (.n (.n (.n (.n (.n (.n .e 11 0 .e) 15 0 .e) 16 0 (.n (.n .e 17 0 .e) 19 0 .e)) 23 0 (.n (.n (.n .e 47 0 .e) 48 0 .e) 53 0 (.n .e 54 0 .e))) 58 0 (.n (.n (.n (.n .e 61 0 .e) 64 0 .e) 67 0 (.n .e 79 0 .e)) 81 0 (.n (.n (.n .e 86 0 .e) 87 0 .e) 96 0 (.n .e 97 0 .e)))) 100 0 (.n (.n (.n (.n (.n .e 102 0 .e) 106 0 .e) 122 0 (.n .e 123 0 .e)) 125 0 (.n (.n (.n .e 129 0 .e) 131 0 .e) 135 0 (.n .e 138 0 .e))) 156 0 (.n (.n (.n (.n .e 165 0 .e) 175 0 .e) 181 0 (.n .e 182 0 .e)) 193 0 (.n (.n (.n .e 202 0 .e) 204 0 .e) 206 0 (.n .e 224 0 .e)))))
end Fw.Tz
