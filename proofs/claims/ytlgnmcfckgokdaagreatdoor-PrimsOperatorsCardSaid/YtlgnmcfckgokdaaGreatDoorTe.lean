import Derived.Test.YtlgnmcfckgokdaaGreatDoorTc
/-
  PrimsLaws: what its callees answer of a name that none of them knows.
-/
set_option linter.unusedSimpArgs false
set_option maxRecDepth 1000000
set_option maxHeartbeats 4000000
namespace Fw.Tz
open Go Go.Proofs Fw.X
variable {W : World}

/-- the names and signs that the law's callees look for -/
def known : List (List UInt8) := [[45], [33], [124, 124], [38, 38], [61, 61], [33, 61], [60], [60, 61], [62], [62, 61], [43], [42], [47], [37], [97, 100, 100], [111, 114], [120, 111, 114], [109, 117, 108], [97, 110, 100], [109, 105, 110], [109, 97, 120], [101, 113], [110, 101]]
def nC (s : List UInt8) : Bool := known.all fun c => !Fw.bytesEq s c

theorem bytesEq_comm : ∀ (x y : List UInt8), Fw.bytesEq x y = Fw.bytesEq y x
  | [], [] => rfl
  | [], _ :: _ => rfl
  | _ :: _, [] => rfl
  | a :: x, b :: y => by
    simp only [Fw.bytesEq]
    rw [bytesEq_comm x y]
    have : Nat.beq a.toNat b.toNat = Nat.beq b.toNat a.toNat := by
      rw [Bool.eq_iff_iff]
      constructor <;> intro h <;> (rw [Nat.eq_of_beq_eq_true h]; exact Nat.beq_refl _)
    rw [this]
theorem nC_eqs {s : List UInt8} (h : nC s = true) : (Fw.bytesEq s [45] = false ∧ Fw.bytesEq [45] s = false) ∧ (Fw.bytesEq s [33] = false ∧ Fw.bytesEq [33] s = false) ∧ (Fw.bytesEq s [124, 124] = false ∧ Fw.bytesEq [124, 124] s = false) ∧ (Fw.bytesEq s [38, 38] = false ∧ Fw.bytesEq [38, 38] s = false) ∧ (Fw.bytesEq s [61, 61] = false ∧ Fw.bytesEq [61, 61] s = false) ∧ (Fw.bytesEq s [33, 61] = false ∧ Fw.bytesEq [33, 61] s = false) ∧ (Fw.bytesEq s [60] = false ∧ Fw.bytesEq [60] s = false) ∧ (Fw.bytesEq s [60, 61] = false ∧ Fw.bytesEq [60, 61] s = false) ∧ (Fw.bytesEq s [62] = false ∧ Fw.bytesEq [62] s = false) ∧ (Fw.bytesEq s [62, 61] = false ∧ Fw.bytesEq [62, 61] s = false) ∧ (Fw.bytesEq s [43] = false ∧ Fw.bytesEq [43] s = false) ∧ (Fw.bytesEq s [42] = false ∧ Fw.bytesEq [42] s = false) ∧ (Fw.bytesEq s [47] = false ∧ Fw.bytesEq [47] s = false) ∧ (Fw.bytesEq s [37] = false ∧ Fw.bytesEq [37] s = false) ∧ (Fw.bytesEq s [97, 100, 100] = false ∧ Fw.bytesEq [97, 100, 100] s = false) ∧ (Fw.bytesEq s [111, 114] = false ∧ Fw.bytesEq [111, 114] s = false) ∧ (Fw.bytesEq s [120, 111, 114] = false ∧ Fw.bytesEq [120, 111, 114] s = false) ∧ (Fw.bytesEq s [109, 117, 108] = false ∧ Fw.bytesEq [109, 117, 108] s = false) ∧ (Fw.bytesEq s [97, 110, 100] = false ∧ Fw.bytesEq [97, 110, 100] s = false) ∧ (Fw.bytesEq s [109, 105, 110] = false ∧ Fw.bytesEq [109, 105, 110] s = false) ∧ (Fw.bytesEq s [109, 97, 120] = false ∧ Fw.bytesEq [109, 97, 120] s = false) ∧ (Fw.bytesEq s [101, 113] = false ∧ Fw.bytesEq [101, 113] s = false) ∧ (Fw.bytesEq s [110, 101] = false ∧ Fw.bytesEq [110, 101] s = false) := by
  simp only [nC, known, List.all_cons, List.all_nil, Bool.and_true, Bool.and_eq_true, Bool.not_eq_true'] at h
  obtain ⟨h0, h1, h2, h3, h4, h5, h6, h7, h8, h9, h10, h11, h12, h13, h14, h15, h16, h17, h18, h19, h20, h21, h22⟩ := h
  exact ⟨⟨h0, (bytesEq_comm _ _).trans h0⟩, ⟨h1, (bytesEq_comm _ _).trans h1⟩, ⟨h2, (bytesEq_comm _ _).trans h2⟩, ⟨h3, (bytesEq_comm _ _).trans h3⟩, ⟨h4, (bytesEq_comm _ _).trans h4⟩, ⟨h5, (bytesEq_comm _ _).trans h5⟩, ⟨h6, (bytesEq_comm _ _).trans h6⟩, ⟨h7, (bytesEq_comm _ _).trans h7⟩, ⟨h8, (bytesEq_comm _ _).trans h8⟩, ⟨h9, (bytesEq_comm _ _).trans h9⟩, ⟨h10, (bytesEq_comm _ _).trans h10⟩, ⟨h11, (bytesEq_comm _ _).trans h11⟩, ⟨h12, (bytesEq_comm _ _).trans h12⟩, ⟨h13, (bytesEq_comm _ _).trans h13⟩, ⟨h14, (bytesEq_comm _ _).trans h14⟩, ⟨h15, (bytesEq_comm _ _).trans h15⟩, ⟨h16, (bytesEq_comm _ _).trans h16⟩, ⟨h17, (bytesEq_comm _ _).trans h17⟩, ⟨h18, (bytesEq_comm _ _).trans h18⟩, ⟨h19, (bytesEq_comm _ _).trans h19⟩, ⟨h20, (bytesEq_comm _ _).trans h20⟩, ⟨h21, (bytesEq_comm _ _).trans h21⟩, ⟨h22, (bytesEq_comm _ _).trans h22⟩⟩
def callP (p : PCallF) : CallF := fun f args H => match p f args with
  | some v => some (v, H)
  | none => none
theorem callP_ok {p : PCallF} (h : PCallOk P (gl W) p) : CallOk P (gl W) (callP p) := by
  intro f args H v H' hc
  unfold callP at hc
  split at hc
  · rename_i x hx
    simp only [Option.some.injEq, Prod.mk.injEq] at hc
    obtain ⟨rfl, rfl⟩ := hc
    exact WF.ofPC (h _ _ _ hx) ⟨rfl, rfl⟩
  · cases hc
/-- a call of one string, answered the same for each that nobody knows -/
def oneN (v : V) : List V → Option V
  | [.d (.str t)] => bif nC t then some v else none
  | _ => none
theorem oneN_ok {f : FuncId} {v : V} (h : ∀ s, nC s = true → PC P (gl W) f [.d (.str s)] v) : ∀ args r, oneN v args = some r → PC P (gl W) f args r := by
  intro args r hr
  unfold oneN at hr
  split at hr
  · rename_i t
    cases hn : nC t with
    | false => rw [hn] at hr; cases hr
    | true =>
      rw [hn] at hr
      simp only [cond_true, Option.some.injEq] at hr; subst hr
      exact h t hn
  · cases hr
def twoN (v : V) : List V → Option V
  | [.d (.str t), .d (.bool _)] => bif nC t then some v else none
  | _ => none
theorem twoN_ok {f : FuncId} {v : V} (h : ∀ s u, nC s = true → PC P (gl W) f [.d (.str s), .d (.bool u)] v) : ∀ args r, twoN v args = some r → PC P (gl W) f args r := by
  intro args r hr
  unfold twoN at hr
  split at hr
  · rename_i t u
    cases hn : nC t with
    | false => rw [hn] at hr; cases hr
    | true =>
      rw [hn] at hr
      simp only [cond_true, Option.some.injEq] at hr; subst hr
      exact h t u hn
  · cases hr
theorem pr_nil : PCallOk P (gl W) (pr []) := fun f args v hv => by simp [pr] at hv
theorem prL_cons {k : FuncId} {s : List V → Option V} {l : Sums} (h : ∀ args v, s args = some v → PC P (gl W) k args v) (hl : PCallOk P (gl W) (pr l)) : PCallOk P (gl W) (pr ((k, s) :: l)) := by
  intro f args v hv
  simp only [pr] at hv
  cases hb : Nat.beq k f with
  | true =>
    rw [hb] at hv
    have := Nat.eq_of_beq_eq_true hb; subst this
    exact h _ _ hv
  | false => rw [hb] at hv; exact hl _ _ _ hv
def v73 : V := (.agg [(.d (.str [124, 124])), (.d (.bool false)), (.d (.str [111, 114])), (.d (.int .i64 1)), (.d (.str [38, 38])), (.d (.bool false)), (.d (.str [97, 110, 100])), (.d (.int .i64 2)), (.d (.str [61, 61])), (.d (.bool false)), (.d (.str [101, 113])), (.d (.int .i64 3)), (.d (.str [33, 61])), (.d (.bool false)), (.d (.str [110, 101])), (.d (.int .i64 3)), (.d (.str [60])), (.d (.bool false)), (.d (.str [108, 116])), (.d (.int .i64 3)), (.d (.str [60, 61])), (.d (.bool false)), (.d (.str [108, 101])), (.d (.int .i64 3)), (.d (.str [62])), (.d (.bool false)), (.d (.str [103, 116])), (.d (.int .i64 3)), (.d (.str [62, 61])), (.d (.bool false)), (.d (.str [103, 101])), (.d (.int .i64 3)), (.d (.str [43])), (.d (.bool false)), (.d (.str [97, 100, 100])), (.d (.int .i64 4)), (.d (.str [45])), (.d (.bool false)), (.d (.str [115, 117, 98])), (.d (.int .i64 4)), (.d (.str [42])), (.d (.bool false)), (.d (.str [109, 117, 108])), (.d (.int .i64 5)), (.d (.str [47])), (.d (.bool false)), (.d (.str [100, 105, 118])), (.d (.int .i64 5)), (.d (.str [37])), (.d (.bool false)), (.d (.str [109, 111, 100])), (.d (.int .i64 5)), (.d (.str [45])), (.d (.bool true)), (.d (.str [110, 101, 103])), (.d (.int .i64 6)), (.d (.str [33])), (.d (.bool true)), (.d (.str [110, 111, 116])), (.d (.int .i64 6))])
theorem k73 (W : World) : pcT W 40 73 [] = some v73 := by kernel_rfl
theorem n34 {s : List UInt8} (h : nC s = true) : PC P (gl W) 34 [.d (.str s)] (.tuple [.d (.int .i64 0), .d (.bool false)]) := by
  obtain ⟨⟨h0, g0⟩, ⟨h1, g1⟩, ⟨h2, g2⟩, ⟨h3, g3⟩, ⟨h4, g4⟩, ⟨h5, g5⟩, ⟨h6, g6⟩, ⟨h7, g7⟩, ⟨h8, g8⟩, ⟨h9, g9⟩, ⟨h10, g10⟩, ⟨h11, g11⟩, ⟨h12, g12⟩, ⟨h13, g13⟩, ⟨h14, g14⟩, ⟨h15, g15⟩, ⟨h16, g16⟩, ⟨h17, g17⟩, ⟨h18, g18⟩, ⟨h19, g19⟩, ⟨h20, g20⟩, ⟨h21, g21⟩, ⟨h22, g22⟩⟩ := nC_eqs h
  refine PC.runF (own := []) (call := noC) (pcall := fun _ _ => none) (n := 10) (by kernel_rfl) noC_ok (fun _ _ _ h => by cases h) is34 ca34 (by simp [f34]) rfl ?_
  simp [Fw.runF, f34, runC, mkTm, f34.r0, f34.r1, f34.r2, f34.r3, f34.r4, f34.r5, f34.r6, f34.r7, f34.r8, f34.r9, f34.r10, f34.r11, f34.r12, f34.r13, runO, asData, guardB, eff, evo, get_cons, put_cons, put_nil, stput_some, happ, binD, binS, resV, mapO, resOne, deepV, deepA, eqV, unV, *]
  rfl
theorem n35 {s : List UInt8} (h : nC s = true) : PC P (gl W) 35 [.d (.str s)] (.tuple [.d (.int .i64 0), .d (.bool false)]) := by
  obtain ⟨⟨h0, g0⟩, ⟨h1, g1⟩, ⟨h2, g2⟩, ⟨h3, g3⟩, ⟨h4, g4⟩, ⟨h5, g5⟩, ⟨h6, g6⟩, ⟨h7, g7⟩, ⟨h8, g8⟩, ⟨h9, g9⟩, ⟨h10, g10⟩, ⟨h11, g11⟩, ⟨h12, g12⟩, ⟨h13, g13⟩, ⟨h14, g14⟩, ⟨h15, g15⟩, ⟨h16, g16⟩, ⟨h17, g17⟩, ⟨h18, g18⟩, ⟨h19, g19⟩, ⟨h20, g20⟩, ⟨h21, g21⟩, ⟨h22, g22⟩⟩ := nC_eqs h
  refine PC.runF (own := []) (call := noC) (pcall := fun _ _ => none) (n := 10) (by kernel_rfl) noC_ok (fun _ _ _ h => by cases h) is35 ca35 (by simp [f35]) rfl ?_
  simp [Fw.runF, f35, runC, mkTm, f35.r0, f35.r1, f35.r2, f35.r3, f35.r4, f35.r5, f35.r6, f35.r7, f35.r8, f35.r9, f35.r10, f35.r11, f35.r12, f35.r13, runO, asData, guardB, eff, evo, get_cons, put_cons, put_nil, stput_some, happ, binD, binS, resV, mapO, resOne, deepV, deepA, eqV, unV, *]
  rfl
theorem n36 {s : List UInt8} (h : nC s = true) : PC P (gl W) 36 [.d (.str s)] (.tuple [.d (.int .i64 0), .d (.bool false)]) := by
  obtain ⟨⟨h0, g0⟩, ⟨h1, g1⟩, ⟨h2, g2⟩, ⟨h3, g3⟩, ⟨h4, g4⟩, ⟨h5, g5⟩, ⟨h6, g6⟩, ⟨h7, g7⟩, ⟨h8, g8⟩, ⟨h9, g9⟩, ⟨h10, g10⟩, ⟨h11, g11⟩, ⟨h12, g12⟩, ⟨h13, g13⟩, ⟨h14, g14⟩, ⟨h15, g15⟩, ⟨h16, g16⟩, ⟨h17, g17⟩, ⟨h18, g18⟩, ⟨h19, g19⟩, ⟨h20, g20⟩, ⟨h21, g21⟩, ⟨h22, g22⟩⟩ := nC_eqs h
  refine PC.runF (own := []) (call := noC) (pcall := fun _ _ => none) (n := 10) (by kernel_rfl) noC_ok (fun _ _ _ h => by cases h) is36 ca36 (by simp [f36]) rfl ?_
  simp [Fw.runF, f36, runC, mkTm, f36.r0, f36.r1, f36.r2, f36.r3, f36.r4, f36.r5, f36.r6, f36.r7, f36.r8, f36.r9, f36.r10, f36.r11, runO, asData, guardB, eff, evo, get_cons, put_cons, put_nil, stput_some, happ, binD, binS, resV, mapO, resOne, deepV, deepA, eqV, unV, *]
  rfl
theorem n37 {s : List UInt8} (h : nC s = true) : PC P (gl W) 37 [.d (.str s)] (.tuple [.d (.int .i64 0), .d (.bool false)]) := by
  obtain ⟨⟨h0, g0⟩, ⟨h1, g1⟩, ⟨h2, g2⟩, ⟨h3, g3⟩, ⟨h4, g4⟩, ⟨h5, g5⟩, ⟨h6, g6⟩, ⟨h7, g7⟩, ⟨h8, g8⟩, ⟨h9, g9⟩, ⟨h10, g10⟩, ⟨h11, g11⟩, ⟨h12, g12⟩, ⟨h13, g13⟩, ⟨h14, g14⟩, ⟨h15, g15⟩, ⟨h16, g16⟩, ⟨h17, g17⟩, ⟨h18, g18⟩, ⟨h19, g19⟩, ⟨h20, g20⟩, ⟨h21, g21⟩, ⟨h22, g22⟩⟩ := nC_eqs h
  refine PC.runF (own := []) (call := noC) (pcall := fun _ _ => none) (n := 10) (by kernel_rfl) noC_ok (fun _ _ _ h => by cases h) is37 ca37 (by simp [f37]) rfl ?_
  simp [Fw.runF, f37, runC, mkTm, f37.r0, f37.r1, f37.r2, f37.r3, f37.r4, f37.r5, f37.r6, f37.r7, f37.r8, f37.r9, f37.r10, f37.r11, runO, asData, guardB, eff, evo, get_cons, put_cons, put_nil, stput_some, happ, binD, binS, resV, mapO, resOne, deepV, deepA, eqV, unV, *]
  rfl
theorem n38 {s : List UInt8} (h : nC s = true) : PC P (gl W) 38 [.d (.str s)] (.d (.bool false)) := by
  obtain ⟨⟨h0, g0⟩, ⟨h1, g1⟩, ⟨h2, g2⟩, ⟨h3, g3⟩, ⟨h4, g4⟩, ⟨h5, g5⟩, ⟨h6, g6⟩, ⟨h7, g7⟩, ⟨h8, g8⟩, ⟨h9, g9⟩, ⟨h10, g10⟩, ⟨h11, g11⟩, ⟨h12, g12⟩, ⟨h13, g13⟩, ⟨h14, g14⟩, ⟨h15, g15⟩, ⟨h16, g16⟩, ⟨h17, g17⟩, ⟨h18, g18⟩, ⟨h19, g19⟩, ⟨h20, g20⟩, ⟨h21, g21⟩, ⟨h22, g22⟩⟩ := nC_eqs h
  refine PC.runF (own := []) (call := noC) (pcall := fun _ _ => none) (n := 10) (by kernel_rfl) noC_ok (fun _ _ _ h => by cases h) is38 ca38 (by simp [f38]) rfl ?_
  simp [Fw.runF, f38, runC, mkTm, f38.r0, f38.r1, f38.r2, f38.r3, f38.r4, f38.r5, f38.r6, f38.r7, f38.r8, f38.r9, f38.r10, f38.r11, f38.r12, runO, asData, guardB, eff, evo, get_cons, put_cons, put_nil, stput_some, happ, binD, binS, resV, mapO, resOne, deepV, deepA, eqV, unV, *]
  rfl
theorem n41 {s : List UInt8} (h : nC s = true) : PC P (gl W) 41 [.d (.str s)] (.d (.bool false)) := by
  obtain ⟨⟨h0, g0⟩, ⟨h1, g1⟩, ⟨h2, g2⟩, ⟨h3, g3⟩, ⟨h4, g4⟩, ⟨h5, g5⟩, ⟨h6, g6⟩, ⟨h7, g7⟩, ⟨h8, g8⟩, ⟨h9, g9⟩, ⟨h10, g10⟩, ⟨h11, g11⟩, ⟨h12, g12⟩, ⟨h13, g13⟩, ⟨h14, g14⟩, ⟨h15, g15⟩, ⟨h16, g16⟩, ⟨h17, g17⟩, ⟨h18, g18⟩, ⟨h19, g19⟩, ⟨h20, g20⟩, ⟨h21, g21⟩, ⟨h22, g22⟩⟩ := nC_eqs h
  refine PC.runF (own := []) (call := noC) (pcall := fun _ _ => none) (n := 10) (by kernel_rfl) noC_ok (fun _ _ _ h => by cases h) is41 ca41 (by simp [f41]) rfl ?_
  simp [Fw.runF, f41, runC, mkTm, f41.r0, f41.r1, f41.r2, f41.r3, f41.r4, f41.r5, f41.r6, f41.r7, f41.r8, f41.r9, f41.r10, runO, asData, guardB, eff, evo, get_cons, put_cons, put_nil, stput_some, happ, binD, binS, resV, mapO, resOne, deepV, deepA, eqV, unV, *]
  rfl
theorem n42 {s : List UInt8} (h : nC s = true) : PC P (gl W) 42 [.d (.str s)] (.d (.bool false)) := by
  obtain ⟨⟨h0, g0⟩, ⟨h1, g1⟩, ⟨h2, g2⟩, ⟨h3, g3⟩, ⟨h4, g4⟩, ⟨h5, g5⟩, ⟨h6, g6⟩, ⟨h7, g7⟩, ⟨h8, g8⟩, ⟨h9, g9⟩, ⟨h10, g10⟩, ⟨h11, g11⟩, ⟨h12, g12⟩, ⟨h13, g13⟩, ⟨h14, g14⟩, ⟨h15, g15⟩, ⟨h16, g16⟩, ⟨h17, g17⟩, ⟨h18, g18⟩, ⟨h19, g19⟩, ⟨h20, g20⟩, ⟨h21, g21⟩, ⟨h22, g22⟩⟩ := nC_eqs h
  refine PC.runF (own := []) (call := noC) (pcall := fun _ _ => none) (n := 10) (by kernel_rfl) noC_ok (fun _ _ _ h => by cases h) is42 ca42 (by simp [f42]) rfl ?_
  simp [Fw.runF, f42, runC, mkTm, f42.r0, f42.r1, runO, asData, guardB, eff, evo, get_cons, put_cons, put_nil, stput_some, happ, binD, binS, resV, mapO, resOne, deepV, deepA, eqV, unV, *]
  rfl
theorem n43 {s : List UInt8} (h : nC s = true) : PC P (gl W) 43 [.d (.str s)] (.d (.bool false)) := by
  obtain ⟨⟨h0, g0⟩, ⟨h1, g1⟩, ⟨h2, g2⟩, ⟨h3, g3⟩, ⟨h4, g4⟩, ⟨h5, g5⟩, ⟨h6, g6⟩, ⟨h7, g7⟩, ⟨h8, g8⟩, ⟨h9, g9⟩, ⟨h10, g10⟩, ⟨h11, g11⟩, ⟨h12, g12⟩, ⟨h13, g13⟩, ⟨h14, g14⟩, ⟨h15, g15⟩, ⟨h16, g16⟩, ⟨h17, g17⟩, ⟨h18, g18⟩, ⟨h19, g19⟩, ⟨h20, g20⟩, ⟨h21, g21⟩, ⟨h22, g22⟩⟩ := nC_eqs h
  refine PC.runF (own := []) (call := noC) (pcall := fun _ _ => none) (n := 10) (by kernel_rfl) noC_ok (fun _ _ _ h => by cases h) is43 ca43 (by simp [f43]) rfl ?_
  simp [Fw.runF, f43, runC, mkTm, f43.r0, f43.r1, runO, asData, guardB, eff, evo, get_cons, put_cons, put_nil, stput_some, happ, binD, binS, resV, mapO, resOne, deepV, deepA, eqV, unV, *]
  rfl
theorem n39 {s : List UInt8} (h : nC s = true) : PC P (gl W) 39 [.d (.str s)] (.d (.bool false)) := by
  have hl : PCallOk P (gl W) (pr [(41, oneN (.d (.bool false)))]) := prL_cons (oneN_ok fun _ h => n41 h) pr_nil
  obtain ⟨⟨h0, g0⟩, ⟨h1, g1⟩, ⟨h2, g2⟩, ⟨h3, g3⟩, ⟨h4, g4⟩, ⟨h5, g5⟩, ⟨h6, g6⟩, ⟨h7, g7⟩, ⟨h8, g8⟩, ⟨h9, g9⟩, ⟨h10, g10⟩, ⟨h11, g11⟩, ⟨h12, g12⟩, ⟨h13, g13⟩, ⟨h14, g14⟩, ⟨h15, g15⟩, ⟨h16, g16⟩, ⟨h17, g17⟩, ⟨h18, g18⟩, ⟨h19, g19⟩, ⟨h20, g20⟩, ⟨h21, g21⟩, ⟨h22, g22⟩⟩ := nC_eqs h
  refine PC.runF (own := []) (call := callP (pr [(41, oneN (.d (.bool false)))])) (pcall := fun _ _ => none) (n := 10) (by kernel_rfl) (callP_ok hl) (fun _ _ _ h => by cases h) is39 ca39 (by simp [f39]) rfl ?_
  simp [Fw.runF, f39, runC, mkTm, callP, pr, oneN, mlist, f39.r0, f39.r1, runO, asData, guardB, eff, evo, get_cons, put_cons, put_nil, stput_some, happ, binD, binS, resV, mapO, resOne, deepV, deepA, eqV, unV, *]
  rfl
theorem n40 {s : List UInt8} (h : nC s = true) : PC P (gl W) 40 [.d (.str s)] (.d (.bool false)) := by
  have hl : PCallOk P (gl W) (pr [(38, oneN (.d (.bool false)))]) := prL_cons (oneN_ok fun _ h => n38 h) pr_nil
  obtain ⟨⟨h0, g0⟩, ⟨h1, g1⟩, ⟨h2, g2⟩, ⟨h3, g3⟩, ⟨h4, g4⟩, ⟨h5, g5⟩, ⟨h6, g6⟩, ⟨h7, g7⟩, ⟨h8, g8⟩, ⟨h9, g9⟩, ⟨h10, g10⟩, ⟨h11, g11⟩, ⟨h12, g12⟩, ⟨h13, g13⟩, ⟨h14, g14⟩, ⟨h15, g15⟩, ⟨h16, g16⟩, ⟨h17, g17⟩, ⟨h18, g18⟩, ⟨h19, g19⟩, ⟨h20, g20⟩, ⟨h21, g21⟩, ⟨h22, g22⟩⟩ := nC_eqs h
  refine PC.runF (own := []) (call := callP (pr [(38, oneN (.d (.bool false)))])) (pcall := fun _ _ => none) (n := 10) (by kernel_rfl) (callP_ok hl) (fun _ _ _ h => by cases h) is40 ca40 (by simp [f40]) rfl ?_
  simp [Fw.runF, f40, runC, mkTm, callP, pr, oneN, mlist, f40.r0, f40.r1, runO, asData, guardB, eff, evo, get_cons, put_cons, put_nil, stput_some, happ, binD, binS, resV, mapO, resOne, deepV, deepA, eqV, unV, *]
  rfl
theorem n33 {s : List UInt8} (u : Bool) (h : nC s = true) : PC P (gl W) 33 [.d (.str s), .d (.bool u)] (.tuple [.d (.str []), .d (.int .i64 0), .d (.bool false)]) := by
  obtain ⟨⟨h0, g0⟩, ⟨h1, g1⟩, ⟨h2, g2⟩, ⟨h3, g3⟩, ⟨h4, g4⟩, ⟨h5, g5⟩, ⟨h6, g6⟩, ⟨h7, g7⟩, ⟨h8, g8⟩, ⟨h9, g9⟩, ⟨h10, g10⟩, ⟨h11, g11⟩, ⟨h12, g12⟩, ⟨h13, g13⟩, ⟨h14, g14⟩, ⟨h15, g15⟩, ⟨h16, g16⟩, ⟨h17, g17⟩, ⟨h18, g18⟩, ⟨h19, g19⟩, ⟨h20, g20⟩, ⟨h21, g21⟩, ⟨h22, g22⟩⟩ := nC_eqs h
  refine PC.runF (own := []) (call := noC) (pcall := fun _ _ => none) (n := 10) (by kernel_rfl) noC_ok (fun _ _ _ h => by cases h) is33 ca33 (by simp [f33]) rfl ?_
  cases u <;> (simp [Fw.runF, f33, runC, mkTm, f33.r0, f33.r1, f33.r2, f33.r3, f33.r4, f33.r5, f33.r6, f33.r7, f33.r8, f33.r9, f33.r10, f33.r11, f33.r12, f33.r13, f33.r14, f33.r15, f33.r16, f33.r17, f33.r18, f33.r19, f33.r20, f33.r21, f33.r22, f33.r23, f33.r24, f33.r25, f33.r26, f33.r27, f33.r28, f33.r29, f33.r30, f33.r31, f33.r32, f33.r33, f33.r34, f33.r35, runO, asData, guardB, eff, evo, get_cons, put_cons, put_nil, stput_some, happ, binD, binS, resV, mapO, resOne, deepV, deepA, eqV, unV, *]; rfl)
end Fw.Tz

/-
  PrimsLaws: Operator at an unknown name; the law.
-/
set_option linter.unusedSimpArgs false
set_option maxRecDepth 1000000
set_option maxHeartbeats 10000000
namespace Fw.Tz
open Go Go.Proofs Fw.X
variable {W : World}
def cells73 : List V := [(.d (.str [124, 124])), (.d (.bool false)), (.d (.str [111, 114])), (.d (.int .i64 1)), (.d (.str [38, 38])), (.d (.bool false)), (.d (.str [97, 110, 100])), (.d (.int .i64 2)), (.d (.str [61, 61])), (.d (.bool false)), (.d (.str [101, 113])), (.d (.int .i64 3)), (.d (.str [33, 61])), (.d (.bool false)), (.d (.str [110, 101])), (.d (.int .i64 3)), (.d (.str [60])), (.d (.bool false)), (.d (.str [108, 116])), (.d (.int .i64 3)), (.d (.str [60, 61])), (.d (.bool false)), (.d (.str [108, 101])), (.d (.int .i64 3)), (.d (.str [62])), (.d (.bool false)), (.d (.str [103, 116])), (.d (.int .i64 3)), (.d (.str [62, 61])), (.d (.bool false)), (.d (.str [103, 101])), (.d (.int .i64 3)), (.d (.str [43])), (.d (.bool false)), (.d (.str [97, 100, 100])), (.d (.int .i64 4)), (.d (.str [45])), (.d (.bool false)), (.d (.str [115, 117, 98])), (.d (.int .i64 4)), (.d (.str [42])), (.d (.bool false)), (.d (.str [109, 117, 108])), (.d (.int .i64 5)), (.d (.str [47])), (.d (.bool false)), (.d (.str [100, 105, 118])), (.d (.int .i64 5)), (.d (.str [37])), (.d (.bool false)), (.d (.str [109, 111, 100])), (.d (.int .i64 5)), (.d (.str [45])), (.d (.bool true)), (.d (.str [110, 101, 103])), (.d (.int .i64 6)), (.d (.str [33])), (.d (.bool true)), (.d (.str [110, 111, 116])), (.d (.int .i64 6))]
theorem v73_eq : v73 = .agg cells73 := rfl
theorem len73 : cells73.length = 60 := rfl
theorem row73 : ∀ i, i < 15 → ∃ c b n p, (cells73.drop (i * 4)).take 4 = [.d (.str c), .d (.bool b), .d (.str n), .d (.int .i64 p)] ∧ c ∈ known
  | 0, _ => ⟨_, _, _, _, rfl, by simp [known]⟩
  | 1, _ => ⟨_, _, _, _, rfl, by simp [known]⟩
  | 2, _ => ⟨_, _, _, _, rfl, by simp [known]⟩
  | 3, _ => ⟨_, _, _, _, rfl, by simp [known]⟩
  | 4, _ => ⟨_, _, _, _, rfl, by simp [known]⟩
  | 5, _ => ⟨_, _, _, _, rfl, by simp [known]⟩
  | 6, _ => ⟨_, _, _, _, rfl, by simp [known]⟩
  | 7, _ => ⟨_, _, _, _, rfl, by simp [known]⟩
  | 8, _ => ⟨_, _, _, _, rfl, by simp [known]⟩
  | 9, _ => ⟨_, _, _, _, rfl, by simp [known]⟩
  | 10, _ => ⟨_, _, _, _, rfl, by simp [known]⟩
  | 11, _ => ⟨_, _, _, _, rfl, by simp [known]⟩
  | 12, _ => ⟨_, _, _, _, rfl, by simp [known]⟩
  | 13, _ => ⟨_, _, _, _, rfl, by simp [known]⟩
  | 14, _ => ⟨_, _, _, _, rfl, by simp [known]⟩
  | n + 15, h => by omega
theorem nC_mem {s c : List UInt8} (h : nC s = true) (hc : c ∈ known) : Fw.bytesEq c s = false := by
  rw [bytesEq_comm]
  have := List.all_eq_true.1 h c hc
  simpa using this
def I32 (s : List UInt8) (u : Bool) (i : Nat) : St := ⟨28, [(0, .d (.str s)), (1, .d (.bool u)), (4, .d (.str [])), (5, .d (.int .i64 0)), (6, .d (.bool false)), (9, .agg cells73), (10, .d (.int .i64 i))], []⟩
theorem n32 (hW : W0 W) {s : List UInt8} (u : Bool) (h : nC s = true) : PC P (gl W) 32 [.d (.str s), .d (.bool u)] (.tuple [.d (.str []), .d (.int .i64 0), .d (.bool false)]) := by
  refine PC.body is32 ca32 (by simp [f32]) rfl ?_
  show WC P (gl W) (.seq (.region f32.r0) (.seq (.seq (.region f32.r1) (.block 0 (.loop f32.l7))) (.seq (.region f32.r8) .ret))) ⟨28, [(0, .d (.str s)), (1, .d (.bool u))], []⟩ _
  refine WC.seq (WC.reg (own := []) (by simp [f32.r0, runO, asData, guardB, eff, evo, get_cons, put_cons, put_nil, stput_some, happ]; rfl) ?_)
  have hl : PCallOk P (gl W) (pr [(73, fun args => match args with | [] => some (.agg cells73) | _ => none)]) := prL_cons (fun args v hv => by
    split at hv
    · simp only [Option.some.injEq] at hv; subst hv; rw [← v73_eq]; exact pcT_ok hW 40 _ _ _ (k73 W)
    · cases hv) pr_nil
  refine WC.seq (WC.seq (WC.region (runO_ok (own := []) (callP_ok hl) (by simp [f32.r1, runO, callP, pr, mlist, asData, guardB, eff, evo, get_cons, put_cons, put_nil, stput_some, happ]; rfl) ?_)))
  refine WC.block (WC.loopK (α := {i : Nat // i ≤ 15}) [0, 1, 4, 5, 6, 9, 10] (fun i => I32 s u i.1) (fun i => 15 - i.1) ?_ ⟨0, by omega⟩ (by rfl))
  rintro ⟨i, hi⟩
  show WC P (gl W) (.seq (.region f32.r2) (.seq (.cond (.t 11) .skip (.exit 0)) (.seq (.block 1 (.seq (.region f32.r3) (.seq (.region f32.r4) (.cond (.t 22) (.seq (.draw f32.r5) .ret) .skip)))) (.region f32.r6)))) (I32 s u i) _
  unfold I32
  refine WC.seq (WC.reg (own := []) (by simp [f32.r2, runO, asData, guardB, eff, evo, get_cons, put_cons, put_nil, stput_some, happ, binD, binI]; rfl) ?_)
  by_cases hlt : i < 15
  · refine WC.seq (WC.cond (t := true) (by simp [evo, get_cons]; omega) (WC.skip ?_))
    obtain ⟨c, b, nm, p, hrow, hk⟩ := row73 i hlt
    have hne := nC_mem h hk
    have hw : IntKind.i64.wrap ((i : Int) + 1) = ((i + 1 : Nat) : Int) := by rw [IntKind.wrap_i64]; omega
    refine WC.seq (WC.block (WC.seq (WC.reg (own := []) (by simp [f32.r3, runO, asData, guardB, eff, evo, get_cons, put_cons, put_nil, stput_some, happ, natOf, nblt, nble, nbeq, len73, hrow, hlt, mkV, hput, hget, storeC, putCells, cellsV, okC]; rfl) ?_)))
    refine WC.seq (WC.reg (own := []) (by simp [f32.r4, runO, asData, guardB, eff, evo, get_cons, put_cons, put_nil, stput_some, happ, natOf, nblt, nble, nbeq, mkV, hput, hget, loadC, binD, binS, hne]; rfl) ?_)
    refine WC.cond (t := false) (by simp [evo, get_cons]) (WC.skip ?_)
    refine WC.reg (own := []) (by simp [f32.r6, runO, asData, guardB, eff, evo, get_cons, put_cons, put_nil, stput_some, happ, binD, binI, hw]; rfl) ?_
    exact ⟨⟨i + 1, by omega⟩, by simp; omega, rfl⟩
  · refine WC.seq (WC.cond (t := false) (by simp [evo, get_cons]; omega) (WC.exit ?_))
    refine (if_pos rfl).mpr ?_
    refine WC.seq (WC.reg (own := []) (by simp [f32.r8, runO, asData, guardB, eff, evo, get_cons, put_cons, put_nil, stput_some, happ]; rfl) (WC.ret ?_))
    simp [resV, f32, mapO, resOne, get_cons, deepV, deepA]
    rfl
end Fw.Tz
