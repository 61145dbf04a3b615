/-
  What the scalar operations obey at any numbers.
-/
import Derived.Test.YtlgnmcfckgokdaaGreatDoorSf

set_option linter.unusedSimpArgs false
namespace Fw.Tz
open Go Go.Proofs
theorem wr_def (x : Int) : wr x = (x + 2147483648) % 4294967296 - 2147483648 := by unfold wr; rw [IntKind.wrap_i64, IntKind.wrap_i32]; omega
theorem w64_def (x : Int) : w64 x = (x + 9223372036854775808) % 18446744073709551616 - 9223372036854775808 := by unfold w64; rw [IntKind.wrap_i64]
theorem wr_emod (x : Int) : wr x % 4294967296 = x % 4294967296 := by rw [wr_def]; omega
theorem wr_eq {x y : Int} (h : x % 4294967296 = y % 4294967296) : wr x = wr y := by rw [wr_def, wr_def]; omega
theorem wr_w64 (x : Int) : wr (w64 x) = wr x := wr_eq (by rw [w64_def]; omega)
theorem wr_wr (x : Int) : wr (wr x) = wr x := wr_eq (wr_emod x)
theorem wr_mulL (x y : Int) : wr (wr x * y) = wr (x * y) := wr_eq (by rw [Int.mul_emod, wr_emod, ← Int.mul_emod])
theorem wr_mulR (x y : Int) : wr (x * wr y) = wr (x * y) := wr_eq (by rw [Int.mul_emod, wr_emod, ← Int.mul_emod])
theorem wr_addL (x y : Int) : wr (wr x + y) = wr (x + y) := wr_eq (by rw [Int.add_emod, wr_emod, ← Int.add_emod])
theorem wr_addR (x y : Int) : wr (x + wr y) = wr (x + y) := wr_eq (by rw [Int.add_emod, wr_emod, ← Int.add_emod])
theorem an_0 : an 0 = 0 := by decide
theorem an_1 : an 1 = 1 := by decide
theorem an_tr (b : Bool) : an (tr b) = tr b := by cases b <;> simp [tr, an_0, an_1]
theorem w64_0 : w64 0 = 0 := by decide
theorem w64_1' : w64 1 = 1 := by decide
theorem la_add_c : ∀ x y : Int, (gadd (wr x) (wr y)) = (gadd (wr y) (wr x)) := by
  intro x y; simp only [gadd, wr_w64, wr_wr, wr_addL, wr_addR]; rw [Int.add_comm]
theorem la_add_a : ∀ x y z : Int, (gadd (wr (gadd (wr x) (wr y))) (wr z)) = (gadd (wr x) (wr (gadd (wr y) (wr z)))) := by
  intro x y z; simp only [gadd, wr_w64, wr_wr, wr_addL, wr_addR]; rw [Int.add_assoc]
theorem la_add_n : ∀ x : Int, (gadd (wr x) (wr 0)) = wr x ∧ (gadd (wr 0) (wr x)) = wr x := by
  intro x; simp only [gadd, wr_w64, wr_wr, wr_addL, wr_addR]; simp
theorem la_mul_c : ∀ x y : Int, (gmul (wr x) (wr y)) = (gmul (wr y) (wr x)) := by
  intro x y; simp only [gmul, wr_w64, wr_wr, wr_mulL, wr_mulR]; rw [Int.mul_comm]
theorem la_mul_a : ∀ x y z : Int, (gmul (wr (gmul (wr x) (wr y))) (wr z)) = (gmul (wr x) (wr (gmul (wr y) (wr z)))) := by
  intro x y z; simp only [gmul, wr_w64, wr_wr, wr_mulL, wr_mulR]; rw [Int.mul_assoc]
theorem la_mul_n : ∀ x : Int, (gmul (wr x) (wr 1)) = wr x ∧ (gmul (wr 1) (wr x)) = wr x := by
  intro x; simp only [gmul, wr_w64, wr_wr, wr_mulL, wr_mulR]; simp
theorem la_mul_z : ∀ x : Int, (gmul (wr x) (wr 0)) = 0 ∧ (gmul (wr 0) (wr x)) = 0 := by
  intro x; simp only [gmul, wr_w64, wr_wr, wr_mulL, wr_mulR]; simp; decide
theorem la_min_c : ∀ x y : Int, (gmin (wr x) (wr y)) = (gmin (wr y) (wr x)) := by
  intro x y; simp only [gmin, wr_def]; repeat' split
  all_goals omega
theorem la_min_w : ∀ x y : Int, wr (gmin (wr x) (wr y)) = gmin (wr x) (wr y) := by
  intro x y; simp only [gmin]; split <;> exact wr_wr _
theorem la_min_a : ∀ x y z : Int, (gmin (wr (gmin (wr x) (wr y))) (wr z)) = (gmin (wr x) (wr (gmin (wr y) (wr z)))) := by
  intro x y z; rw [la_min_w, la_min_w]; generalize wr x = a; generalize wr y = b; generalize wr z = c; simp only [gmin]; repeat' split
  all_goals omega
theorem la_min_i : ∀ x : Int, (gmin (wr x) (wr x)) = wr x := by
  intro x; simp [gmin]
theorem la_min_n : ∀ x : Int, (gmin (wr x) (wr 2147483647)) = wr x ∧ (gmin (wr 2147483647) (wr x)) = wr x := by
  intro x; simp only [gmin, wr_def]; constructor <;> split <;> omega
theorem la_min_z : ∀ x : Int, (gmin (wr x) (wr (-2147483648))) = (-2147483648) ∧ (gmin (wr (-2147483648)) (wr x)) = (-2147483648) := by
  intro x; simp only [gmin, wr_def]; constructor <;> split <;> omega
theorem la_max_c : ∀ x y : Int, (gmax (wr x) (wr y)) = (gmax (wr y) (wr x)) := by
  intro x y; simp only [gmax, wr_def]; repeat' split
  all_goals omega
theorem la_max_w : ∀ x y : Int, wr (gmax (wr x) (wr y)) = gmax (wr x) (wr y) := by
  intro x y; simp only [gmax]; split <;> exact wr_wr _
theorem la_max_a : ∀ x y z : Int, (gmax (wr (gmax (wr x) (wr y))) (wr z)) = (gmax (wr x) (wr (gmax (wr y) (wr z)))) := by
  intro x y z; rw [la_max_w, la_max_w]; generalize wr x = a; generalize wr y = b; generalize wr z = c; simp only [gmax]; repeat' split
  all_goals omega
theorem la_max_i : ∀ x : Int, (gmax (wr x) (wr x)) = wr x := by
  intro x; simp [gmax]
theorem la_max_n : ∀ x : Int, (gmax (wr x) (wr (-2147483648))) = wr x ∧ (gmax (wr (-2147483648)) (wr x)) = wr x := by
  intro x; simp only [gmax, wr_def]; constructor <;> split <;> omega
theorem la_max_z : ∀ x : Int, (gmax (wr x) (wr 2147483647)) = 2147483647 ∧ (gmax (wr 2147483647) (wr x)) = 2147483647 := by
  intro x; simp only [gmax, wr_def]; constructor <;> split <;> omega
theorem la_eq_c : ∀ x y : Int, (geq (wr x) (wr y)) = (geq (wr y) (wr x)) := by
  intro x y; simp only [geq]; rw [BEq.comm]
theorem la_ne_c : ∀ x y : Int, (gne (wr x) (wr y)) = (gne (wr y) (wr x)) := by
  intro x y; simp only [gne]; rw [bne_comm]
theorem la_xor_c : ∀ x y : Int, (gxor (an x) (an y)) = (gxor (an y) (an x)) := by
  intro x y
  rcases an_in x with hx | hx <;> rcases an_in y with hy | hy <;> simp [gxor, hx, hy, an_0, an_1, an_tr, tr, w64_0, w64_1']
theorem la_xor_a : ∀ x y z : Int, (gxor (an (gxor (an x) (an y))) (an z)) = (gxor (an x) (an (gxor (an y) (an z)))) := by
  intro x y z
  rcases an_in x with hx | hx <;> rcases an_in y with hy | hy <;> rcases an_in z with hz | hz <;> simp [gxor, hx, hy, hz, an_0, an_1, an_tr, tr, w64_0, w64_1']
theorem la_xor_n : ∀ x : Int, (gxor (an x) (an 0)) = an x ∧ (gxor (an 0) (an x)) = an x := by
  intro x
  rcases an_in x with hx | hx <;> simp [gxor, hx, an_0, an_1, an_tr, tr, w64_0, w64_1']
theorem la_and_c : ∀ x y : Int, (gand (an x) (an y)) = (gand (an y) (an x)) := by
  intro x y
  rcases an_in x with hx | hx <;> rcases an_in y with hy | hy <;> simp [gand, hx, hy, an_0, an_1, an_tr, tr, w64_0, w64_1']
theorem la_and_a : ∀ x y z : Int, (gand (an (gand (an x) (an y))) (an z)) = (gand (an x) (an (gand (an y) (an z)))) := by
  intro x y z
  rcases an_in x with hx | hx <;> rcases an_in y with hy | hy <;> rcases an_in z with hz | hz <;> simp [gand, hx, hy, hz, an_0, an_1, an_tr, tr, w64_0, w64_1']
theorem la_and_i : ∀ x : Int, (gand (an x) (an x)) = an x := by
  intro x
  rcases an_in x with hx | hx <;> simp [gand, hx, an_0, an_1, an_tr, tr, w64_0, w64_1']
theorem la_and_n : ∀ x : Int, (gand (an x) (an 1)) = an x ∧ (gand (an 1) (an x)) = an x := by
  intro x
  rcases an_in x with hx | hx <;> simp [gand, hx, an_0, an_1, an_tr, tr, w64_0, w64_1']
theorem la_and_z : ∀ x : Int, (gand (an x) (an 0)) = 0 ∧ (gand (an 0) (an x)) = 0 := by
  intro x
  rcases an_in x with hx | hx <;> simp [gand, hx, an_0, an_1, an_tr, tr, w64_0, w64_1']
theorem la_or_c : ∀ x y : Int, (gor (an x) (an y)) = (gor (an y) (an x)) := by
  intro x y
  rcases an_in x with hx | hx <;> rcases an_in y with hy | hy <;> simp [gor, hx, hy, an_0, an_1, an_tr, tr, w64_0, w64_1']
theorem la_or_a : ∀ x y z : Int, (gor (an (gor (an x) (an y))) (an z)) = (gor (an x) (an (gor (an y) (an z)))) := by
  intro x y z
  rcases an_in x with hx | hx <;> rcases an_in y with hy | hy <;> rcases an_in z with hz | hz <;> simp [gor, hx, hy, hz, an_0, an_1, an_tr, tr, w64_0, w64_1']
theorem la_or_i : ∀ x : Int, (gor (an x) (an x)) = an x := by
  intro x
  rcases an_in x with hx | hx <;> simp [gor, hx, an_0, an_1, an_tr, tr, w64_0, w64_1']
theorem la_or_n : ∀ x : Int, (gor (an x) (an 0)) = an x ∧ (gor (an 0) (an x)) = an x := by
  intro x
  rcases an_in x with hx | hx <;> simp [gor, hx, an_0, an_1, an_tr, tr, w64_0, w64_1']
theorem la_or_z : ∀ x : Int, (gor (an x) (an 1)) = 1 ∧ (gor (an 1) (an x)) = 1 := by
  intro x
  rcases an_in x with hx | hx <;> simp [gor, hx, an_0, an_1, an_tr, tr, w64_0, w64_1']
end Fw.Tz

/-
  PrimsAlgebra behind the name, at the nine names with laws.
-/
set_option maxRecDepth 1000000
namespace Fw.Tz
open Go Go.Proofs Fw.X
variable {W : World}
def tail10 : IR := (.seq (.seq (.region f10.r11) (.cond (.t 97) (.seq (.region f10.r12) .ret) .skip)) (.seq (.seq (.region f10.r13) (.cond (.t 120) (.seq (.region f10.r14) .ret) .skip)) (.seq (.seq (.region f10.r15) (.cond (.t 133) (.seq (.region f10.r16) .ret) .skip)) (.seq (.seq (.region f10.r17) (.seq (.region f10.r18) (.cond (.t 161) (.seq (.region f10.r19) .ret) .skip))) (.seq (.region f10.r20) (.seq (.region f10.r21) .ret))))))
theorem kf38_add (W : World) : pcT W 40 38 [.d (.str [97, 100, 100])] = some (.d (.bool true)) := by kernel_rfl
theorem kf40_add (W : World) : pcT W 40 40 [.d (.str [97, 100, 100])] = some (.d (.bool true)) := by kernel_rfl
theorem kf42_add (W : World) : pcT W 40 42 [.d (.str [97, 100, 100])] = some (.d (.bool false)) := by kernel_rfl
theorem kf34_add (W : World) : pcT W 40 34 [.d (.str [97, 100, 100])] = some (.tuple [.d (.int .i64 0), .d (.bool true)]) := by kernel_rfl
theorem kf36_add (W : World) : pcT W 40 36 [.d (.str [97, 100, 100])] = some (.tuple [.d (.int .i64 0), .d (.bool false)]) := by kernel_rfl
theorem tail_add (hW : W0 W) (a b c : Int) {H : Heap} (hH : heapLt H.length H = true) : WC P (gl W) tail10 (stA [97, 100, 100] a b c H) (RetQ f10.res (.d (.bool true))) := by
  have h38 := pcT_ok hW 40 _ _ _ (kf38_add W)
  have h40 := pcT_ok hW 40 _ _ _ (kf40_add W)
  have h42 := pcT_ok hW 40 _ _ _ (kf42_add W)
  have h34 := pcT_ok hW 40 _ _ _ (kf34_add W)
  have h36 := pcT_ok hW 40 _ _ _ (kf36_add W)
  refine al11 hH (g := fun x y => (gadd (wr x) (wr y))) (e := wr) (fun x y => pc44add hW x y) (fun x => pc45add hW x) h38 (fun _ => la_add_c) ?_
  refine al13 hH (g := fun x y => (gadd (wr x) (wr y))) (e := wr) (fun x y => pc44add hW x y) (fun x => pc45add hW x) h40 (fun _ => la_add_a) ?_
  refine al15 hH (g := fun x y => (gadd (wr x) (wr y))) (e := wr) (fun x y => pc44add hW x y) (fun x => pc45add hW x) h42 (fun h => by cases h) ?_
  refine al17 hH (g := fun x y => (gadd (wr x) (wr y))) (e := wr) (fun x y => pc44add hW x y) (fun x => pc45add hW x) h34 (fun _ => la_add_n) ?_
  exact WC.ofL (al20 hH (g := fun x y => (gadd (wr x) (wr y))) (e := wr) (fun x y => pc44add hW x y) (fun x => pc45add hW x) h36 (fun h => by cases h))
theorem kf38_mul (W : World) : pcT W 40 38 [.d (.str [109, 117, 108])] = some (.d (.bool true)) := by kernel_rfl
theorem kf40_mul (W : World) : pcT W 40 40 [.d (.str [109, 117, 108])] = some (.d (.bool true)) := by kernel_rfl
theorem kf42_mul (W : World) : pcT W 40 42 [.d (.str [109, 117, 108])] = some (.d (.bool false)) := by kernel_rfl
theorem kf34_mul (W : World) : pcT W 40 34 [.d (.str [109, 117, 108])] = some (.tuple [.d (.int .i64 1), .d (.bool true)]) := by kernel_rfl
theorem kf36_mul (W : World) : pcT W 40 36 [.d (.str [109, 117, 108])] = some (.tuple [.d (.int .i64 0), .d (.bool true)]) := by kernel_rfl
theorem tail_mul (hW : W0 W) (a b c : Int) {H : Heap} (hH : heapLt H.length H = true) : WC P (gl W) tail10 (stA [109, 117, 108] a b c H) (RetQ f10.res (.d (.bool true))) := by
  have h38 := pcT_ok hW 40 _ _ _ (kf38_mul W)
  have h40 := pcT_ok hW 40 _ _ _ (kf40_mul W)
  have h42 := pcT_ok hW 40 _ _ _ (kf42_mul W)
  have h34 := pcT_ok hW 40 _ _ _ (kf34_mul W)
  have h36 := pcT_ok hW 40 _ _ _ (kf36_mul W)
  refine al11 hH (g := fun x y => (gmul (wr x) (wr y))) (e := wr) (fun x y => pc44mul hW x y) (fun x => pc45mul hW x) h38 (fun _ => la_mul_c) ?_
  refine al13 hH (g := fun x y => (gmul (wr x) (wr y))) (e := wr) (fun x y => pc44mul hW x y) (fun x => pc45mul hW x) h40 (fun _ => la_mul_a) ?_
  refine al15 hH (g := fun x y => (gmul (wr x) (wr y))) (e := wr) (fun x y => pc44mul hW x y) (fun x => pc45mul hW x) h42 (fun h => by cases h) ?_
  refine al17 hH (g := fun x y => (gmul (wr x) (wr y))) (e := wr) (fun x y => pc44mul hW x y) (fun x => pc45mul hW x) h34 (fun _ => la_mul_n) ?_
  exact WC.ofL (al20 hH (g := fun x y => (gmul (wr x) (wr y))) (e := wr) (fun x y => pc44mul hW x y) (fun x => pc45mul hW x) h36 (fun _ => la_mul_z))
theorem kf38_min (W : World) : pcT W 40 38 [.d (.str [109, 105, 110])] = some (.d (.bool true)) := by kernel_rfl
theorem kf40_min (W : World) : pcT W 40 40 [.d (.str [109, 105, 110])] = some (.d (.bool true)) := by kernel_rfl
theorem kf42_min (W : World) : pcT W 40 42 [.d (.str [109, 105, 110])] = some (.d (.bool true)) := by kernel_rfl
theorem kf34_min (W : World) : pcT W 40 34 [.d (.str [109, 105, 110])] = some (.tuple [.d (.int .i64 2147483647), .d (.bool true)]) := by kernel_rfl
theorem kf36_min (W : World) : pcT W 40 36 [.d (.str [109, 105, 110])] = some (.tuple [.d (.int .i64 (-2147483648)), .d (.bool true)]) := by kernel_rfl
theorem tail_min (hW : W0 W) (a b c : Int) {H : Heap} (hH : heapLt H.length H = true) : WC P (gl W) tail10 (stA [109, 105, 110] a b c H) (RetQ f10.res (.d (.bool true))) := by
  have h38 := pcT_ok hW 40 _ _ _ (kf38_min W)
  have h40 := pcT_ok hW 40 _ _ _ (kf40_min W)
  have h42 := pcT_ok hW 40 _ _ _ (kf42_min W)
  have h34 := pcT_ok hW 40 _ _ _ (kf34_min W)
  have h36 := pcT_ok hW 40 _ _ _ (kf36_min W)
  refine al11 hH (g := fun x y => (gmin (wr x) (wr y))) (e := wr) (fun x y => pc44min hW x y) (fun x => pc45min hW x) h38 (fun _ => la_min_c) ?_
  refine al13 hH (g := fun x y => (gmin (wr x) (wr y))) (e := wr) (fun x y => pc44min hW x y) (fun x => pc45min hW x) h40 (fun _ => la_min_a) ?_
  refine al15 hH (g := fun x y => (gmin (wr x) (wr y))) (e := wr) (fun x y => pc44min hW x y) (fun x => pc45min hW x) h42 (fun _ => la_min_i) ?_
  refine al17 hH (g := fun x y => (gmin (wr x) (wr y))) (e := wr) (fun x y => pc44min hW x y) (fun x => pc45min hW x) h34 (fun _ => la_min_n) ?_
  exact WC.ofL (al20 hH (g := fun x y => (gmin (wr x) (wr y))) (e := wr) (fun x y => pc44min hW x y) (fun x => pc45min hW x) h36 (fun _ => la_min_z))
theorem kf38_max (W : World) : pcT W 40 38 [.d (.str [109, 97, 120])] = some (.d (.bool true)) := by kernel_rfl
theorem kf40_max (W : World) : pcT W 40 40 [.d (.str [109, 97, 120])] = some (.d (.bool true)) := by kernel_rfl
theorem kf42_max (W : World) : pcT W 40 42 [.d (.str [109, 97, 120])] = some (.d (.bool true)) := by kernel_rfl
theorem kf34_max (W : World) : pcT W 40 34 [.d (.str [109, 97, 120])] = some (.tuple [.d (.int .i64 (-2147483648)), .d (.bool true)]) := by kernel_rfl
theorem kf36_max (W : World) : pcT W 40 36 [.d (.str [109, 97, 120])] = some (.tuple [.d (.int .i64 2147483647), .d (.bool true)]) := by kernel_rfl
theorem tail_max (hW : W0 W) (a b c : Int) {H : Heap} (hH : heapLt H.length H = true) : WC P (gl W) tail10 (stA [109, 97, 120] a b c H) (RetQ f10.res (.d (.bool true))) := by
  have h38 := pcT_ok hW 40 _ _ _ (kf38_max W)
  have h40 := pcT_ok hW 40 _ _ _ (kf40_max W)
  have h42 := pcT_ok hW 40 _ _ _ (kf42_max W)
  have h34 := pcT_ok hW 40 _ _ _ (kf34_max W)
  have h36 := pcT_ok hW 40 _ _ _ (kf36_max W)
  refine al11 hH (g := fun x y => (gmax (wr x) (wr y))) (e := wr) (fun x y => pc44max hW x y) (fun x => pc45max hW x) h38 (fun _ => la_max_c) ?_
  refine al13 hH (g := fun x y => (gmax (wr x) (wr y))) (e := wr) (fun x y => pc44max hW x y) (fun x => pc45max hW x) h40 (fun _ => la_max_a) ?_
  refine al15 hH (g := fun x y => (gmax (wr x) (wr y))) (e := wr) (fun x y => pc44max hW x y) (fun x => pc45max hW x) h42 (fun _ => la_max_i) ?_
  refine al17 hH (g := fun x y => (gmax (wr x) (wr y))) (e := wr) (fun x y => pc44max hW x y) (fun x => pc45max hW x) h34 (fun _ => la_max_n) ?_
  exact WC.ofL (al20 hH (g := fun x y => (gmax (wr x) (wr y))) (e := wr) (fun x y => pc44max hW x y) (fun x => pc45max hW x) h36 (fun _ => la_max_z))
theorem kf38_eq (W : World) : pcT W 40 38 [.d (.str [101, 113])] = some (.d (.bool true)) := by kernel_rfl
theorem kf40_eq (W : World) : pcT W 40 40 [.d (.str [101, 113])] = some (.d (.bool false)) := by kernel_rfl
theorem kf42_eq (W : World) : pcT W 40 42 [.d (.str [101, 113])] = some (.d (.bool false)) := by kernel_rfl
theorem kf34_eq (W : World) : pcT W 40 34 [.d (.str [101, 113])] = some (.tuple [.d (.int .i64 0), .d (.bool false)]) := by kernel_rfl
theorem kf36_eq (W : World) : pcT W 40 36 [.d (.str [101, 113])] = some (.tuple [.d (.int .i64 0), .d (.bool false)]) := by kernel_rfl
theorem tail_eq (hW : W0 W) (a b c : Int) {H : Heap} (hH : heapLt H.length H = true) : WC P (gl W) tail10 (stA [101, 113] a b c H) (RetQ f10.res (.d (.bool true))) := by
  have h38 := pcT_ok hW 40 _ _ _ (kf38_eq W)
  have h40 := pcT_ok hW 40 _ _ _ (kf40_eq W)
  have h42 := pcT_ok hW 40 _ _ _ (kf42_eq W)
  have h34 := pcT_ok hW 40 _ _ _ (kf34_eq W)
  have h36 := pcT_ok hW 40 _ _ _ (kf36_eq W)
  refine al11 hH (g := fun x y => (geq (wr x) (wr y))) (e := wr) (fun x y => pc44eq hW x y) (fun x => pc45eq hW x) h38 (fun _ => la_eq_c) ?_
  refine al13 hH (g := fun x y => (geq (wr x) (wr y))) (e := wr) (fun x y => pc44eq hW x y) (fun x => pc45eq hW x) h40 (fun h => by cases h) ?_
  refine al15 hH (g := fun x y => (geq (wr x) (wr y))) (e := wr) (fun x y => pc44eq hW x y) (fun x => pc45eq hW x) h42 (fun h => by cases h) ?_
  refine al17 hH (g := fun x y => (geq (wr x) (wr y))) (e := wr) (fun x y => pc44eq hW x y) (fun x => pc45eq hW x) h34 (fun h => by cases h) ?_
  exact WC.ofL (al20 hH (g := fun x y => (geq (wr x) (wr y))) (e := wr) (fun x y => pc44eq hW x y) (fun x => pc45eq hW x) h36 (fun h => by cases h))
theorem kf38_ne (W : World) : pcT W 40 38 [.d (.str [110, 101])] = some (.d (.bool true)) := by kernel_rfl
theorem kf40_ne (W : World) : pcT W 40 40 [.d (.str [110, 101])] = some (.d (.bool false)) := by kernel_rfl
theorem kf42_ne (W : World) : pcT W 40 42 [.d (.str [110, 101])] = some (.d (.bool false)) := by kernel_rfl
theorem kf34_ne (W : World) : pcT W 40 34 [.d (.str [110, 101])] = some (.tuple [.d (.int .i64 0), .d (.bool false)]) := by kernel_rfl
theorem kf36_ne (W : World) : pcT W 40 36 [.d (.str [110, 101])] = some (.tuple [.d (.int .i64 0), .d (.bool false)]) := by kernel_rfl
theorem tail_ne (hW : W0 W) (a b c : Int) {H : Heap} (hH : heapLt H.length H = true) : WC P (gl W) tail10 (stA [110, 101] a b c H) (RetQ f10.res (.d (.bool true))) := by
  have h38 := pcT_ok hW 40 _ _ _ (kf38_ne W)
  have h40 := pcT_ok hW 40 _ _ _ (kf40_ne W)
  have h42 := pcT_ok hW 40 _ _ _ (kf42_ne W)
  have h34 := pcT_ok hW 40 _ _ _ (kf34_ne W)
  have h36 := pcT_ok hW 40 _ _ _ (kf36_ne W)
  refine al11 hH (g := fun x y => (gne (wr x) (wr y))) (e := wr) (fun x y => pc44ne hW x y) (fun x => pc45ne hW x) h38 (fun _ => la_ne_c) ?_
  refine al13 hH (g := fun x y => (gne (wr x) (wr y))) (e := wr) (fun x y => pc44ne hW x y) (fun x => pc45ne hW x) h40 (fun h => by cases h) ?_
  refine al15 hH (g := fun x y => (gne (wr x) (wr y))) (e := wr) (fun x y => pc44ne hW x y) (fun x => pc45ne hW x) h42 (fun h => by cases h) ?_
  refine al17 hH (g := fun x y => (gne (wr x) (wr y))) (e := wr) (fun x y => pc44ne hW x y) (fun x => pc45ne hW x) h34 (fun h => by cases h) ?_
  exact WC.ofL (al20 hH (g := fun x y => (gne (wr x) (wr y))) (e := wr) (fun x y => pc44ne hW x y) (fun x => pc45ne hW x) h36 (fun h => by cases h))
theorem kf38_xor (W : World) : pcT W 40 38 [.d (.str [120, 111, 114])] = some (.d (.bool true)) := by kernel_rfl
theorem kf40_xor (W : World) : pcT W 40 40 [.d (.str [120, 111, 114])] = some (.d (.bool true)) := by kernel_rfl
theorem kf42_xor (W : World) : pcT W 40 42 [.d (.str [120, 111, 114])] = some (.d (.bool false)) := by kernel_rfl
theorem kf34_xor (W : World) : pcT W 40 34 [.d (.str [120, 111, 114])] = some (.tuple [.d (.int .i64 0), .d (.bool true)]) := by kernel_rfl
theorem kf36_xor (W : World) : pcT W 40 36 [.d (.str [120, 111, 114])] = some (.tuple [.d (.int .i64 0), .d (.bool false)]) := by kernel_rfl
theorem tail_xor (hW : W0 W) (a b c : Int) {H : Heap} (hH : heapLt H.length H = true) : WC P (gl W) tail10 (stA [120, 111, 114] a b c H) (RetQ f10.res (.d (.bool true))) := by
  have h38 := pcT_ok hW 40 _ _ _ (kf38_xor W)
  have h40 := pcT_ok hW 40 _ _ _ (kf40_xor W)
  have h42 := pcT_ok hW 40 _ _ _ (kf42_xor W)
  have h34 := pcT_ok hW 40 _ _ _ (kf34_xor W)
  have h36 := pcT_ok hW 40 _ _ _ (kf36_xor W)
  refine al11 hH (g := fun x y => (gxor (an x) (an y))) (e := an) (fun x y => pc44xor hW x y) (fun x => pc45xor hW x) h38 (fun _ => la_xor_c) ?_
  refine al13 hH (g := fun x y => (gxor (an x) (an y))) (e := an) (fun x y => pc44xor hW x y) (fun x => pc45xor hW x) h40 (fun _ => la_xor_a) ?_
  refine al15 hH (g := fun x y => (gxor (an x) (an y))) (e := an) (fun x y => pc44xor hW x y) (fun x => pc45xor hW x) h42 (fun h => by cases h) ?_
  refine al17 hH (g := fun x y => (gxor (an x) (an y))) (e := an) (fun x y => pc44xor hW x y) (fun x => pc45xor hW x) h34 (fun _ => la_xor_n) ?_
  exact WC.ofL (al20 hH (g := fun x y => (gxor (an x) (an y))) (e := an) (fun x y => pc44xor hW x y) (fun x => pc45xor hW x) h36 (fun h => by cases h))
theorem kf38_and (W : World) : pcT W 40 38 [.d (.str [97, 110, 100])] = some (.d (.bool true)) := by kernel_rfl
theorem kf40_and (W : World) : pcT W 40 40 [.d (.str [97, 110, 100])] = some (.d (.bool true)) := by kernel_rfl
theorem kf42_and (W : World) : pcT W 40 42 [.d (.str [97, 110, 100])] = some (.d (.bool true)) := by kernel_rfl
theorem kf34_and (W : World) : pcT W 40 34 [.d (.str [97, 110, 100])] = some (.tuple [.d (.int .i64 1), .d (.bool true)]) := by kernel_rfl
theorem kf36_and (W : World) : pcT W 40 36 [.d (.str [97, 110, 100])] = some (.tuple [.d (.int .i64 0), .d (.bool true)]) := by kernel_rfl
theorem tail_and (hW : W0 W) (a b c : Int) {H : Heap} (hH : heapLt H.length H = true) : WC P (gl W) tail10 (stA [97, 110, 100] a b c H) (RetQ f10.res (.d (.bool true))) := by
  have h38 := pcT_ok hW 40 _ _ _ (kf38_and W)
  have h40 := pcT_ok hW 40 _ _ _ (kf40_and W)
  have h42 := pcT_ok hW 40 _ _ _ (kf42_and W)
  have h34 := pcT_ok hW 40 _ _ _ (kf34_and W)
  have h36 := pcT_ok hW 40 _ _ _ (kf36_and W)
  refine al11 hH (g := fun x y => (gand (an x) (an y))) (e := an) (fun x y => pc44and hW x y) (fun x => pc45and hW x) h38 (fun _ => la_and_c) ?_
  refine al13 hH (g := fun x y => (gand (an x) (an y))) (e := an) (fun x y => pc44and hW x y) (fun x => pc45and hW x) h40 (fun _ => la_and_a) ?_
  refine al15 hH (g := fun x y => (gand (an x) (an y))) (e := an) (fun x y => pc44and hW x y) (fun x => pc45and hW x) h42 (fun _ => la_and_i) ?_
  refine al17 hH (g := fun x y => (gand (an x) (an y))) (e := an) (fun x y => pc44and hW x y) (fun x => pc45and hW x) h34 (fun _ => la_and_n) ?_
  exact WC.ofL (al20 hH (g := fun x y => (gand (an x) (an y))) (e := an) (fun x y => pc44and hW x y) (fun x => pc45and hW x) h36 (fun _ => la_and_z))
theorem kf38_or (W : World) : pcT W 40 38 [.d (.str [111, 114])] = some (.d (.bool true)) := by kernel_rfl
theorem kf40_or (W : World) : pcT W 40 40 [.d (.str [111, 114])] = some (.d (.bool true)) := by kernel_rfl
theorem kf42_or (W : World) : pcT W 40 42 [.d (.str [111, 114])] = some (.d (.bool true)) := by kernel_rfl
theorem kf34_or (W : World) : pcT W 40 34 [.d (.str [111, 114])] = some (.tuple [.d (.int .i64 0), .d (.bool true)]) := by kernel_rfl
theorem kf36_or (W : World) : pcT W 40 36 [.d (.str [111, 114])] = some (.tuple [.d (.int .i64 1), .d (.bool true)]) := by kernel_rfl
theorem tail_or (hW : W0 W) (a b c : Int) {H : Heap} (hH : heapLt H.length H = true) : WC P (gl W) tail10 (stA [111, 114] a b c H) (RetQ f10.res (.d (.bool true))) := by
  have h38 := pcT_ok hW 40 _ _ _ (kf38_or W)
  have h40 := pcT_ok hW 40 _ _ _ (kf40_or W)
  have h42 := pcT_ok hW 40 _ _ _ (kf42_or W)
  have h34 := pcT_ok hW 40 _ _ _ (kf34_or W)
  have h36 := pcT_ok hW 40 _ _ _ (kf36_or W)
  refine al11 hH (g := fun x y => (gor (an x) (an y))) (e := an) (fun x y => pc44or hW x y) (fun x => pc45or hW x) h38 (fun _ => la_or_c) ?_
  refine al13 hH (g := fun x y => (gor (an x) (an y))) (e := an) (fun x y => pc44or hW x y) (fun x => pc45or hW x) h40 (fun _ => la_or_a) ?_
  refine al15 hH (g := fun x y => (gor (an x) (an y))) (e := an) (fun x y => pc44or hW x y) (fun x => pc45or hW x) h42 (fun _ => la_or_i) ?_
  refine al17 hH (g := fun x y => (gor (an x) (an y))) (e := an) (fun x y => pc44or hW x y) (fun x => pc45or hW x) h34 (fun _ => la_or_n) ?_
  exact WC.ofL (al20 hH (g := fun x y => (gor (an x) (an y))) (e := an) (fun x y => pc44or hW x y) (fun x => pc45or hW x) h36 (fun _ => la_or_z))
end Fw.Tz
