/-
  PrimsDims: the call returns true; three bytes of an array.
-/
import Derived.Test.YtlgnmcfckgokdaaGreatDoorSh
import Derived.Test.YtlgnmcfckgokdaaGreatDoorTg

set_option linter.unusedSimpArgs false
set_option maxRecDepth 100000
namespace Fw.Tz
open Go Go.Proofs Fw.X Go.ChangeShapes Go.WideShapes Go.ChangeAt Go.RowKit
open Go.Proofs.YtlgnmcfckgokdaaGreatDoor
variable {W : World}
theorem law6_calls (hW : W0 W) (n : Int) (hn : (Lit.int .u8 n).wf = true) (m : Int) (hm : (Lit.int .u8 m).wf = true) (x y z : Int) (hx : (Lit.int .u8 x).wf = true) (hy : (Lit.int .u8 y).wf = true) (hz : (Lit.int .u8 z).wf = true) :
    Calls Tryz.prog 6 #[.int .u8 n, .int .u8 m, .agg #[.int .u8 x, .int .u8 y, .int .u8 z]] W fun e w' => e = .returned (.bool true) ∧ Below W.heap.size W w' := by
  obtain ⟨a, ha, rfl⟩ := wf_u8 hn
  obtain ⟨b, hb, rfl⟩ := wf_u8 hm
  obtain ⟨x', kx, rfl⟩ := wf_u8 hx
  obtain ⟨y', ky, rfl⟩ := wf_u8 hy
  obtain ⟨z', kz, rfl⟩ := wf_u8 hz
  refine (calls_of_pc (A6.law6 hW a b x' y' z' ha hb kx ky kz) (vs := #[.int .u8 (Int.ofNat a), .int .u8 (Int.ofNat b),   .agg #[.int .u8 (Int.ofNat x'), .int .u8 (Int.ofNat y'), .int .u8 (Int.ofNat z')]]) (by simp [RVs, RV, Rd])).mono ?_
  rintro e w' ⟨x, rfl, hb, hx⟩
  exact ⟨by rw [RV.bool hx], hb⟩
section
variable {P : Program} {H : Type} {enc : TypeId × Value → H} {w : World} {base : Nat} {spare : Nat → Bool} {held : Bool}
theorem open_k3 {k : IntKind} {t e : TypeId} (ht : P.underlying t = some (.array 3 e)) (he : P.underlying e = some (.int k)) (hc : P.cellsOf t = 3) (hce : P.cellsOf e = 1) {v : Value} {d : DataW H} {ps : List MemPlace} (hd : DataW.Trod enc P w base spare held t v d ps) :
    ∃ a b c, v = .agg #[.int k a, .int k b, .int k c] ∧ d = .agg [.lit (.int k a), .lit (.int k b), .lit (.int k c)] ∧ ps = [] ∧ (Lit.int k a).wf = true ∧ (Lit.int k b).wf = true ∧ (Lit.int k c).wf = true := by
  obtain ⟨fuel, hf⟩ := hd
  cases fuel with
  | zero => simp [DataW.trod] at hf
  | succ m =>
    have hlen : v.cells.toList.length = 3 := by
      rw [DataW.trod_step] at hf
      unfold DataW.trodStep at hf
      simp only [ht] at hf
      split at hf
      · rename_i h; rw [hc] at h; exact h
      · cases hf
    obtain ⟨cs, hv⟩ : ∃ cs : Array Value, v = .agg cs := by
      cases v <;> first | exact ⟨_, rfl⟩ | (simp [Value.cells] at hlen)
    subst hv
    obtain ⟨l⟩ := cs
    simp only [Value.cells] at hlen hf
    match l, hlen with
    | [p, q, r], _ =>
      rw [DataW.trod_step] at hf
      unfold DataW.trodStep at hf
      simp only [ht] at hf
      rw [if_pos (by rw [hc]; rfl)] at hf
      simp only [hce, List.range, List.range.loop, List.mapM_cons, List.mapM_nil, Option.map_eq_some_iff, Option.bind_eq_bind, Option.bind_eq_some_iff, Option.pure_def, Option.some.injEq, Nat.mul_one, List.drop_zero, List.drop_succ_cons, List.take_succ_cons, List.take_zero] at hf
      obtain ⟨xs, ⟨y0, h0, ys, ⟨y1, h1, zs, ⟨y2, h2, us, rfl, rfl⟩, rfl⟩, rfl⟩, he2⟩ := hf
      obtain ⟨n0, e0, rfl, w0⟩ := DataW.trod_int he h0
      obtain ⟨n1, e1, rfl, w1⟩ := DataW.trod_int he h1
      obtain ⟨n2, e2, rfl, w2⟩ := DataW.trod_int he h2
      simp only [List.cons.injEq, and_true] at e0 e1 e2
      subst e0; subst e1; subst e2
      simp only [List.map_cons, List.map_nil, List.flatMap_cons, List.flatMap_nil, List.append_nil, Prod.mk.injEq] at he2
      exact ⟨n0, n1, n2, rfl, he2.1.symm, he2.2.symm, w0, w1, w2⟩
theorem shut_k3 {k : IntKind} {t e : TypeId} (ht : P.underlying t = some (.array 3 e)) (he : P.underlying e = some (.int k)) (hc : P.cellsOf t = 3) (hce : P.cellsOf e = 1) {a b c : Int} (w0 : (Lit.int k a).wf = true) (w1 : (Lit.int k b).wf = true) (w2 : (Lit.int k c).wf = true) :
    DataW.Trod enc P w base spare held t (.agg #[.int k a, .int k b, .int k c]) (.agg [.lit (.int k a), .lit (.int k b), .lit (.int k c)]) [] :=
  ⟨2, by
    rw [DataW.trod_step]
    unfold DataW.trodStep
    simp only [ht]
    rw [if_pos (by rw [hc]; rfl)]
    simp [Value.cells, hce, List.range, List.range.loop, DataW.trod, he, w0, w1, w2]⟩
end
end Fw.Tz

/-
  PrimsDims: the row and the card.
-/
set_option linter.unusedSimpArgs false
set_option maxRecDepth 100000
namespace Fw.Tz
open Go Go.Proofs Fw.X Go.ChangeShapes Go.WideShapes Go.ChangeAt Go.RowKit
open Go.Proofs.YtlgnmcfckgokdaaGreatDoor
theorem lifted_6 (os : Os) (started : os.Started) (H : Type) (enc : TypeId × Value → H) :
    ReturnsInHanded {} Tryz.checked os 6 .any (fun w args => (Rows.primsDimsSpec.pre enc Tryz.prog Tryz.f6 [] false w args ∧ laidMetH Tryz.prog laidT w) ∧ sizedMet enc Tryz.prog Tryz.f6 (OpenSpec.ofChange Rows.primsDimsSpec) false w args)
      (Rows.primsDimsSpec.post enc Tryz.prog Tryz.f6 false true false false) := by
  refine wrap (C := Tryz.checked) (X := fun w _ => laidMetH Tryz.prog laidT w) (fun _ _ _ hh h => h.of_heap hh) own started (by kernel_rfl) Tryz.func6
    (ChangeSpec.witness_shaped (enc := enc) (C := Tryz.checked) (os := os) (X := fun w _ => laidMetH Tryz.prog laidT w) false (World.laidAll Tryz.prog os laidT) #[.int .u8 0, .int .u8 0, .agg #[.int .u8 0, .int .u8 0, .int .u8 0]] 8 (World.laidAll_os _ _ _)
      (World.shaped_of_ZipB (by kernel_rfl) (by kernel_rfl)) (by kernel_rfl) (by kernel_rfl) (by kernel_rfl)
      (by rw [MakeChecks.laidMetH_plain _ _ _ (by kernel_rfl)]; exact laidMet_laidAll _ (by kernel_rfl) (by kernel_rfl))) ?_
  intro W base args ds gs before hval0 hW hsh hL
  have hval : ∀ (j : Nat) t v, Tryz.f6.params[j]? = some t → args[j]? = some v → Value.okWide Tryz.prog W .any base t v := hval0
  have hW' := hW
  obtain ⟨p, q, hA0, hV, rfl, _, _⟩ := hW
  have hA : DataW.TrodAll enc Tryz.prog W 0 (fun _ => true) true Tryz.f6.params.toList args.toList ds p := hA0
  rw [Tryz.params6] at hA hval
  obtain ⟨v0, v1, v2, d0, d1, d2, p0, p1, p2, rfl, rfl, rfl, h0, h1, h2⟩ := trodAll_three hA
  obtain ⟨rfl, rfl⟩ := trodVars_none hV
  obtain ⟨x0, rfl, rfl, rfl, w0⟩ := open_int Tryz.underlying5 (hval 0 5 v0 rfl rfl) h0
  obtain ⟨x1, rfl, rfl, rfl, w1⟩ := open_int Tryz.underlying5 (hval 1 5 v1 rfl rfl) h1
  obtain ⟨a2, b2, c2, rfl, rfl, rfl, wa2, wb2, wc2⟩ := open_k3 Tryz.underlying58 Tryz.underlying5 (by kernel_rfl) (by kernel_rfl) h2
  simp only [List.append_nil] at hW'
  refine (law6_calls (w0_of hL hsh) x0 w0 x1 w1 a2 b2 c2 wa2 wb2 wc2).mono fun e W' ⟨he, hb⟩ => ?_
  subst he
  exact ⟨_, rfl, _, _, _, [], [], [], hW', trodAll_mk1 (shut_bool Tryz.underlying4 _), trodAll_mk3 (shut_int Tryz.underlying5 w0) (shut_int Tryz.underlying5 w1) (shut_k3 Tryz.underlying58 Tryz.underlying5 (by kernel_rfl) (by kernel_rfl) wa2 wb2 wc2), rfl, hb.frame _, fun h => by cases h⟩
end Fw.Tz
