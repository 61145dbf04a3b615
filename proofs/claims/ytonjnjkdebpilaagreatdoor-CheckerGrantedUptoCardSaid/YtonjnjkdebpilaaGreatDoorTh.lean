/-
  CheckerGranted: the row.
-/
import Derived.Test.YtonjnjkdebpilaaGreatDoorTg
import Derived.Test.YtonjnjkdebpilaaGreatDoorTm
import Derived.Deep.DeepHandedRow

set_option linter.unusedSimpArgs false
set_option linter.unusedVariables false
set_option maxRecDepth 100000
namespace Fw.Tz
open Go Go.Proofs Fw.X Go.ChangeShapes Go.WideShapes Go.ChangeAt Go.RowKit
open Go.Proofs.YtonjnjkdebpilaaGreatDoor
theorem reads3 (os : Os) {H : Type} (enc : TypeId × Value → H) : ∃ places, DataW.whole enc Tryz.prog ((World.laidAll Tryz.prog os laidT).forCall (fun _ _ => 0) ⟨#[], #[.agg #[.int .i64 0, .slice none 0 0], .agg #[.slice none 0 0, .string ByteArray.empty, .string ByteArray.empty, .slice none 0 0, .slice none 0 0]], []⟩).memory Tryz.f3.params.toList (Rows.OpenSpec.upto Rows.checkerGrantedSpec).vars false (#[.agg #[.int .i64 0, .slice none 0 0], .agg #[.slice none 0 0, .string ByteArray.empty, .string ByteArray.empty, .slice none 0 0, .slice none 0 0]] : Array Value).toList 8 = some ([.agg [.lit (.int .i64 0), .nil], .agg [.nil, .agg [.lit (.string []), .agg [.lit (.string []), .nil]], .nil]], [], places) :=
  ⟨[], by kernel_rfl⟩
theorem witness3 (os : Os) {H : Type} (enc : TypeId × Value → H) : ∃ (w : World) (tape : Tape) (i : Input), w.os = os ∧ (w.forCall tape i).Shaped Tryz.checked.prog ∧ i.vars = [] ∧ Input.okWide Tryz.checked.prog (w.forCall tape i) .any w.heap.size 3 i ∧
      (Rows.OpenSpec.upto Rows.checkerGrantedSpec).preRow enc Tryz.checked.prog Tryz.f3 [] false laidT (w.forCall tape i).memory i.args ∧ ({} : Assume).holds Tryz.checked.prog (lone (Frame.enter Tryz.checked.prog 3 i.args .normal) [] (w.forCall tape i)) := by
  obtain ⟨places, hx⟩ := reads3 os enc
  have hok : Input.okWideB Tryz.prog ((World.laidAll Tryz.prog os laidT).forCall (fun _ _ => 0) ⟨#[], #[.agg #[.int .i64 0, .slice none 0 0], .agg #[.slice none 0 0, .string ByteArray.empty, .string ByteArray.empty, .slice none 0 0, .slice none 0 0]], []⟩) 3 ⟨#[], #[.agg #[.int .i64 0, .slice none 0 0], .agg #[.slice none 0 0, .string ByteArray.empty, .string ByteArray.empty, .slice none 0 0, .slice none 0 0]], []⟩ = true := by kernel_rfl
  refine ⟨World.laidAll Tryz.prog os laidT, fun _ _ => 0, ⟨#[], #[.agg #[.int .i64 0, .slice none 0 0], .agg #[.slice none 0 0, .string ByteArray.empty, .string ByteArray.empty, .slice none 0 0, .slice none 0 0]], []⟩, World.laidAll_os _ _ _, World.shaped_of_ZipB (by kernel_rfl) (by kernel_rfl), (Input.okWide_of_okWideB (base := 0) hok).1, (Input.okWide_of_okWideB hok).2,
    OpenSpec.preRow_of_cond 8 hx (by kernel_rfl) (fun k hk => by cases hk; kernel_rfl) (by kernel_rfl) (by rw [MakeChecks.laidMetH_plain _ _ _ (by kernel_rfl)]; exact laidMet_laidAll _ (by kernel_rfl) (by kernel_rfl)), ?_⟩
  simp only [Assume.holds]
  exact ⟨by simp, by simp, fun _ => Modest.zero, by simp, by simp⟩
theorem lifted_3 (os : Os) (started : os.Started) (H : Type) (enc : TypeId × Value → H) (F : Stop.Interp) :
    ReturnsInHanded {} Tryz.checked os 3 .any ((Rows.OpenSpec.upto Rows.checkerGrantedSpec).preRow enc Tryz.prog Tryz.f3 [] false laidT) (((Rows.OpenSpec.upto Rows.checkerGrantedSpec).at F).post enc Tryz.prog Tryz.f3 false true false false) := by
  refine returnsInHanded_of_row (C := Tryz.checked) (s := (Rows.OpenSpec.upto Rows.checkerGrantedSpec)) own started (by kernel_rfl) Tryz.func3 (witness3 os enc) ?_
  intro W base args ds gs before hval0 hW _ hcond _ hL hsh _
  have hval : ∀ (j : Nat) t v, Tryz.f3.params[j]? = some t → args[j]? = some v → Value.okWide Tryz.prog W .any base t v := hval0
  have hk : Rows.uptoSmall H (ds ++ gs) = true := hcond _ rfl
  have hW' := hW
  obtain ⟨p, q, hA0, hV, rfl, _, _⟩ := hW
  have hA : DataW.TrodAll enc Tryz.prog W 0 (fun _ => true) true Tryz.f3.params.toList args.toList ds p := hA0
  have hA1 := hA
  rw [Tryz.params3] at hA hval
  obtain ⟨v0, v1, d0, d1, p0, p1, rfl, rfl, rfl, h0, h1⟩ := trodAll_two hA
  obtain ⟨rfl, rfl⟩ := trodVars_none hV
  have hb : Rows.uptoBulkAll ([d0, d1] ++ []) ≤ 1048576 := of_decide_eq_true hk
  simp only [List.append_nil, Rows.uptoBulkAll] at hb
  obtain ⟨n0, k0⟩ := h0
  obtain ⟨cs, rfl, -⟩ := okWide_struct Tryz.underlying24 (hval 0 24 v0 rfl rfl)
  obtain ⟨l, hl, r0⟩ := bLin n0 _ _ k0 (by dsimp only; omega)
  obtain ⟨n1, k1⟩ := h1
  obtain ⟨ss, rfl, -⟩ := okWide_struct Tryz.underlying32 (hval 1 32 v1 rfl rfl)
  obtain ⟨s, hs, r1⟩ := bSch n1 _ _ k1 (by dsimp only; omega)
  simp only [List.append_nil] at hW'
  refine (calls_of_pc (Gm.pc_law (w0_of hL hsh) l s hl hs.1 hs.2) (vs := #[.agg cs, .agg ss]) ?_).mono fun e W' hp => ?_
  · simp only [RVs, and_true]
    exact ⟨rv_agg r0 rfl, rv_agg r1 rfl⟩
  · obtain ⟨x, rfl, hb, hx⟩ := hp
    rw [RV.bool hx]
    exact ⟨_, rfl, _, _, _, [], _, [], hW', trodAll_mk1 (shut_bool Tryz.underlying4 _), trodAll_again hb (by rw [Tryz.params3]; decide) hA1, rfl, hb.frame _, fun h => by cases h⟩
end Fw.Tz
