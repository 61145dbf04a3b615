/-
  Frames.
-/
import Derived.Test.YtgfgckimecpmlaaGreatDoorTf
import Derived.Test.YtgfgckimecpmlaaGreatDoorTd
import Derived.Test.YtgfgckimecpmlaaGreatDoorFg
import Derived.Test.YtgfgckimecpmlaaGreatDoorTe
import Derived.Test.YtgfgckimecpmlaaGreatDoorTc

set_option linter.unusedSimpArgs false
set_option maxRecDepth 1000000
set_option maxHeartbeats 4000000
namespace Fw.Tz.Fg
open Go Go.Proofs Fw.X Fw.Tz Fw.Nu Fw.Tz.Sd Fw.Tz.Na Fw.Tz.El Fw.Tz.Va Fw.Tz.Vb Fw.Tz.Vc Fw.Tz.Vf Fw.Tz.Vh Fw.Tz.Vi
variable {W : World}
structure Fit (c : Con) : Prop where
  len : c.gs.length = c.ws.length
  le : c.gs.length ≤ 16
  row : ∀ t ∈ c.gs, t.row = []
  shp : ∀ t ∈ c.gs, shpB t.row t.dims = true
end Fw.Tz.Fg

/-
  Small constraints are small enough.
-/
set_option linter.unusedSimpArgs false
set_option linter.unusedVariables false
namespace Fw.Tz
open Go Fw.Tz.Va Fw.Tz.Vb Fw.Tz.Vc Fw.Tz.Ve
theorem fewL_sm {x : Lin} (h : fewL x = true) : Lin.sm x ∧ x.ts.length < 1073741824 := by
  simp only [fewL, Bool.and_eq_true, List.all_eq_true, decide_eq_true_eq] at h
  refine ⟨⟨by omega, fun t ht => ?_⟩, by omega⟩
  have := h.1 t ht
  simp only [fewV, decide_eq_true_eq] at this
  omega
theorem fewS_sm {row : List UInt8} {dims : List Lin} (h : fewS row dims = true) : (row.length < 1099511627776 ∧ dims.length < 1099511627776 ∧ ∀ x ∈ dims, Lin.sm x) ∧ dims.length < 1073741824 ∧ ∀ x ∈ dims, x.ts.length < 1073741824 := by
  simp only [fewS, Bool.and_eq_true, List.all_eq_true, decide_eq_true_eq] at h
  exact ⟨⟨by omega, by omega, fun x hx => (fewL_sm (h.1.1 x hx)).1⟩, by omega, fun x hx => (fewL_sm (h.1.1 x hx)).2⟩
theorem fewT_sm {t : Ty} (h : fewT t = true) : Ty.sm t ∧ t.dims.length < 1073741824 ∧ ∀ x ∈ t.dims, x.ts.length < 1073741824 := by
  simp only [fewT, Bool.and_eq_true, decide_eq_true_eq] at h
  have := fewS_sm h.2
  exact ⟨⟨by omega, this.1⟩, this.2⟩
theorem fewC_all {c : Con} (h : fewC c = true) : (∀ t ∈ c.gs, fewT t = true) ∧ (∀ t ∈ c.ws, fewT t = true) ∧ c.gs.length ≤ 17 ∧ c.ws.length ≤ 17 ∧ fewT c.r = true ∧ fewT c.x = true ∧ fewT c.ta = true ∧ fewT c.tb = true ∧ fewL c.lin = true := by
  simp only [fewC, Bool.and_eq_true, decide_eq_true_eq] at h
  obtain ⟨⟨⟨⟨⟨⟨⟨⟨h1, h2⟩, h3⟩, h4⟩, h5⟩, h6⟩, h7⟩, h8⟩, h9⟩ := h
  rw [List.take_of_length_le (by omega)] at h1 h2
  rw [List.all_eq_true] at h1 h2
  simp only [fewS, Bool.and_eq_true, List.all_cons, List.all_nil] at h9
  exact ⟨h1, h2, h3, h4, h5, h6, h7, h8, h9.1.1.1⟩
theorem fewC_sm {c : Con} (h : fewC c = true) : Con.sm c ∧ (∀ t ∈ c.gs, t.dims.length < 1073741824 ∧ ∀ x ∈ t.dims, x.ts.length < 1073741824) ∧ (∀ t ∈ c.ws, t.dims.length < 1073741824 ∧ ∀ x ∈ t.dims, x.ts.length < 1073741824) := by
  obtain ⟨h1, h2, h3, h4, h5, h6, h7, h8, h9⟩ := fewC_all h
  exact ⟨⟨by omega, by omega, (fewT_sm h7).1, (fewT_sm h8).1, fun t ht => (fewT_sm (h1 t ht)).1, fun t ht => (fewT_sm (h2 t ht)).1, (fewT_sm h5).1, (fewT_sm h6).1⟩, fun t ht => (fewT_sm (h1 t ht)).2, fun t ht => (fewT_sm (h2 t ht)).2⟩
end Fw.Tz

/-
  Pairs of an application, whether it holds, and its only frame: the plain law.
-/
set_option linter.unusedSimpArgs false
set_option linter.unusedVariables false
namespace Fw.Tz.Pp
open Go Fw.Tz.Va Fw.Tz.Vb Fw.Tz.Vc Fw.Tz.Fg Fw.Tz.Eq
def liftB (row : List UInt8) (dims : List Lin) (t : Ty) (b : Bool) : Option Ty := bif b then (bif decide (dims.length + t.dims.length ≤ 6) then some ⟨t.elem, row, dims ++ t.dims⟩ else none) else some t
def prs (row : List UInt8) (dims : List Lin) : List (Ty × Ty) → List Ty → List Ty → List Bool → Option (List (Ty × Ty))
  | acc, g :: gs, w :: ws, b :: bs => match liftB row dims w b with
    | none => none
    | some t => prs row dims (acc ++ [(g, t)]) gs ws bs
  | acc, _, _, _ => some acc
theorem prs_snoc (row : List UInt8) (dims : List Lin) (r x : Ty) (s : Bool) : ∀ (gs ws : List Ty) (bs : List Bool) (acc : List (Ty × Ty)), gs.length = ws.length → bs.length = gs.length → prs row dims acc (gs ++ [r]) (ws ++ [x]) (bs ++ [s]) =
    (prs row dims acc gs ws bs).bind fun l => (liftB row dims x s).map fun t => l ++ [(r, t)]
  | [], [], [], acc, _, _ => by
    simp only [List.nil_append, prs, Option.bind_some]
    cases liftB row dims x s <;> rfl
  | g :: gs, w :: ws, b :: bs, acc, h1, h2 => by
    simp only [List.cons_append, prs]
    cases liftB row dims w b with
    | none => rfl
    | some t => exact prs_snoc row dims r x s gs ws bs _ (by simpa using h1) (by simpa using h2)
def badP (c : Con) (row : List UInt8) (dims : List Lin) (bs : List Bool) : Bool := !conB c || !shpB row dims || !decide (bs.length = c.gs.length) || (!bs.any id && !shEq row dims [] [])
def pairsO (c : Con) (row : List UInt8) (dims : List Lin) (bs : List Bool) : Option (List (Ty × Ty)) := prs row dims [] (c.gs ++ [c.r]) (c.ws ++ [c.x]) (bs ++ [bs.any id])
def eqP (p : Ty × Ty) : Bool := tyEq p.1 p.2
def holdsB (c : Con) (row : List UInt8) (dims : List Lin) (bs : List Bool) : Bool := !badP c row dims bs && match pairsO c row dims bs with
  | none => false
  | some l => l.all eqP
def fits (row : List UInt8) (dims : List Lin) : List Ty → List Ty → List Bool → Prop
  | g :: gs, w :: ws, b :: bs => liftB row dims w b = some g ∧ fits row dims gs ws bs
  | _, _, _ => True
theorem lift_some {row : List UInt8} {dims : List Lin} {w g : Ty} {b : Bool} (h : liftB row dims w b = some g) : (b = true ∧ dims.length + w.dims.length ≤ 6 ∧ g = ⟨w.elem, row, dims ++ w.dims⟩) ∨ (b = false ∧ g = w) := by
  cases b with
  | false => exact .inr ⟨rfl, by simpa [liftB] using h.symm⟩
  | true =>
    by_cases h6 : dims.length + w.dims.length ≤ 6
    · simp only [liftB, cond_true, decide_eq_true h6, Option.some.injEq] at h
      exact .inl ⟨rfl, h6, h.symm⟩
    · simp only [liftB, cond_true, decide_eq_false h6, cond_false] at h
      cases h
end Fw.Tz.Pp

/-
  Concatenated shapes and lifted cells, of the program.
-/
set_option linter.unusedSimpArgs false
set_option maxRecDepth 1000000
set_option maxHeartbeats 4000000
namespace Fw.Tz.Pa
open Go Go.Proofs Fw.X Fw.Tz Fw.Nu Fw.Tz.Sd Fw.Tz.Na Fw.Tz.El Fw.Tz.Va Fw.Tz.Vb Fw.Tz.Vc Fw.Tz.Vh Fw.Tz.Eq Fw.Tz.Ew Fw.Tz.Fg Fw.Tz.Pp
variable {W : World}
def outS (row : List UInt8) (dims : List Lin) (e : Int) : V := .tuple [vS row dims, .d (.int .i64 e)]
theorem pc_catL (hW : W0 W) (a b : List Lin) (ha : a.length < 1048576) (hb : b.length < 1048576) : PC P (gl W) 176 [.d (.list [[.list (a.map Lin.enc)], [.list (b.map Lin.enc)]])] (.d (.list ((a ++ b).map Lin.enc))) := by
  refine CG.start is176 ca176 rfl ?_
  refine s1 hW 30 0 [true] 1 [(2, .nils), (3, (io (wrapF IntKind.i64 (iAdd 0 (Int.ofNat (List.length (List.map Lin.enc a))))))), (9, (.d (.list [[(.list (List.map Lin.enc a))], [(.list (List.map Lin.enc b))]]))), (10, (io 2)), (11, (io 0)), (20, (bo (iLt (wrapF IntKind.i64 (iAdd 0 (Int.ofNat (List.length (List.map Lin.enc a))))) 0)))] ?_
  rw [show wrapF .i64 (iAdd 0 (Int.ofNat (List.length (List.map Lin.enc a)))) = Int.ofNat a.length from by rw [wrapF_eq, iAdd_eq, IntKind.wrap_i64, List.length_map]; simp only [Int.ofNat_eq_natCast]; omega]
  refine s1 hW 24 0 [false, true] 27 [(3, (io (wrapF IntKind.i64 (iAdd (Int.ofNat (List.length a)) (Int.ofNat (List.length (List.map Lin.enc b))))))), (11, (io 1)), (20, (bo (iLt (wrapF IntKind.i64 (iAdd (Int.ofNat (List.length a)) (Int.ofNat (List.length (List.map Lin.enc b))))) 0)))] ?_
  rw [show wrapF .i64 (iAdd (Int.ofNat a.length) (Int.ofNat (List.length (List.map Lin.enc b)))) = Int.ofNat (a.length + b.length) from by rw [wrapF_eq, iAdd_eq, IntKind.wrap_i64, List.length_map]; simp only [Int.ofNat_eq_natCast]; omega]
  refine s1 hW 17 1 [false, false] 3 [(23, (no (List.length a + List.length b)))] ?_
  rotate_left
  refine CG.wfR (w248 (a.length + b.length) (by omega)) rfl rfl (by kernel_rfl) rfl ?_
  rintro v H' ⟨rfl, rfl⟩
  by_cases h0 : a.length + b.length = 0
  · rw [row248, if_pos h0, heap248, if_pos h0]
    obtain rfl := List.length_eq_zero_iff.1 (show a.length = 0 by omega)
    obtain rfl := List.length_eq_zero_iff.1 (show b.length = 0 by omega)
    refine CG.tidyO (Tidy.nilS 24 2 (tm' := [(0, (.d (.list [[(.list [])], [(.list [])]]))), (2, .nils), (23, (io 0)), (24, .sl 0 0 0 0 2)]) (Nat.le_refl _) (by kernel_rfl) (by kernel_rfl)) ?_
    refine CG.isH ([some .nil]) (by kernel_rfl) ?_
    refine CG.is [(0, (.d (.list [[(.list [])], [(.list [])]]))), (2, .nils), (23, (io 0)), (24, .sl 0 (List.length ([] : List Lin) * 2) 0 (List.length ([] : List Lin)) 2)] ([some (rowE Lin.enc ([] : List Lin))]) (by kernel_rfl) ?_
    refine s1 hW 55 0 [true, true, false] 0 [(2, (.sl 0 0 0 0 2))] ?_
    refine CG.ret (v' := (.d (.list []))) (by kernel_rfl) ?_
    rfl
  · rw [row248, if_neg h0, heap248, if_neg h0]
    refine CG.is [(0, (.d (.list [[(.list (List.map Lin.enc a))], [(.list (List.map Lin.enc b))]]))), (2, .nils), (23, (no (List.length a + List.length b))), (24, .sl 1 (List.length ([] : List Lin) * 2) 0 (List.length ([] : List Lin)) 2)] ([none, some (cellE Lin.enc ([] : List Lin))]) (by kernel_rfl) ?_
    refine s1 hW 20 2 [true] 2 [(6, (.sl 1 0 0 0 2)), (25, (.d (.list [[(.list (List.map Lin.enc a))], [(.list (List.map Lin.enc b))]]))), (26, (io 2)), (27, (io 0)), (31, (.sl 1 0 0 0 2)), (32, (lo Lin.enc a))] ?_
    refine CG.apC Lin.enc [] a 1 (fun _ => rfl) rfl (by kernel_rfl) (sliceC_map (enc := Lin.enc) (fun _ => rfl) _ a) (by (try simp only [zz] at *) <;> omega) ?_
    refine s1 hW 17 2 [true] 13 [(6, (.sl 1 (List.length ([] ++ a) * 2) 0 (List.length ([] ++ a)) 2)), (27, (io 1)), (31, (.sl 1 (List.length ([] ++ a) * 2) 0 (List.length ([] ++ a)) 2)), (32, (lo Lin.enc b))] ?_
    refine CG.apC Lin.enc ([] ++ a) b 1 (fun _ => rfl) rfl (by kernel_rfl) (sliceC_map (enc := Lin.enc) (fun _ => rfl) _ b) (by (try simp only [zz] at *) <;> omega) ?_
    refine s1 hW 18 0 [false] 0 [(2, (.sl 1 (List.length ([] ++ a ++ b) * 2) 0 (List.length ([] ++ a ++ b)) 2))] ?_
    rotate_left
    refine CG.tidy (Tidy.frzC (sz := 2) Lin.enc ([] ++ a ++ b) 1 2 (tm' := [(2, (.d (.list (List.map Lin.enc ([] ++ a ++ b)))))]) (H' := [none, none]) (fun _ => rfl) (by kernel_rfl) (by kernel_rfl) ⟨.inr trivial, ⟨.inl rfl, trivial⟩⟩ (by kernel_rfl) (by kernel_rfl)) ?_
    refine CG.ret (v' := (lo Lin.enc ([] ++ a ++ b))) (by kernel_rfl) ?_
    rfl
theorem pc_catT (hW : W0 W) (a b : List Ty) (ha : a.length < 1048576) (hb : b.length < 1048576) : PC P (gl W) 60 [.d (.list [[.list (a.map Ty.enc)], [.list (b.map Ty.enc)]])] (.d (.list ((a ++ b).map Ty.enc))) := by
  refine CG.start is60 ca60 rfl ?_
  refine s1 hW 30 0 [true] 1 [(2, .nils), (3, (io (wrapF IntKind.i64 (iAdd 0 (Int.ofNat (List.length (List.map Ty.enc a))))))), (9, (.d (.list [[(.list (List.map Ty.enc a))], [(.list (List.map Ty.enc b))]]))), (10, (io 2)), (11, (io 0)), (20, (bo (iLt (wrapF IntKind.i64 (iAdd 0 (Int.ofNat (List.length (List.map Ty.enc a))))) 0)))] ?_
  rw [show wrapF .i64 (iAdd 0 (Int.ofNat (List.length (List.map Ty.enc a)))) = Int.ofNat a.length from by rw [wrapF_eq, iAdd_eq, IntKind.wrap_i64, List.length_map]; simp only [Int.ofNat_eq_natCast]; omega]
  refine s1 hW 24 0 [false, true] 27 [(3, (io (wrapF IntKind.i64 (iAdd (Int.ofNat (List.length a)) (Int.ofNat (List.length (List.map Ty.enc b))))))), (11, (io 1)), (20, (bo (iLt (wrapF IntKind.i64 (iAdd (Int.ofNat (List.length a)) (Int.ofNat (List.length (List.map Ty.enc b))))) 0)))] ?_
  rw [show wrapF .i64 (iAdd (Int.ofNat a.length) (Int.ofNat (List.length (List.map Ty.enc b)))) = Int.ofNat (a.length + b.length) from by rw [wrapF_eq, iAdd_eq, IntKind.wrap_i64, List.length_map]; simp only [Int.ofNat_eq_natCast]; omega]
  refine s1 hW 17 1 [false, false] 3 [(23, (no (List.length a + List.length b)))] ?_
  rotate_left
  refine CG.wfR (w118 (a.length + b.length) (by omega)) rfl rfl (by kernel_rfl) rfl ?_
  rintro v H' ⟨rfl, rfl⟩
  by_cases h0 : a.length + b.length = 0
  · rw [row118, if_pos h0, heap118, if_pos h0]
    obtain rfl := List.length_eq_zero_iff.1 (show a.length = 0 by omega)
    obtain rfl := List.length_eq_zero_iff.1 (show b.length = 0 by omega)
    refine CG.tidyO (Tidy.nilS 24 3 (tm' := [(0, (.d (.list [[(.list [])], [(.list [])]]))), (2, .nils), (23, (io 0)), (24, .sl 0 0 0 0 3)]) (Nat.le_refl _) (by kernel_rfl) (by kernel_rfl)) ?_
    refine CG.isH ([some .nil]) (by kernel_rfl) ?_
    refine CG.is [(0, (.d (.list [[(.list [])], [(.list [])]]))), (2, .nils), (23, (io 0)), (24, .sl 0 (List.length ([] : List Ty) * 3) 0 (List.length ([] : List Ty)) 3)] ([some (rowE Ty.enc ([] : List Ty))]) (by kernel_rfl) ?_
    refine s1 hW 55 0 [true, true, false] 0 [(2, (.sl 0 0 0 0 3))] ?_
    refine CG.ret (v' := (.d (.list []))) (by kernel_rfl) ?_
    rfl
  · rw [row118, if_neg h0, heap118, if_neg h0]
    refine CG.is [(0, (.d (.list [[(.list (List.map Ty.enc a))], [(.list (List.map Ty.enc b))]]))), (2, .nils), (23, (no (List.length a + List.length b))), (24, .sl 1 (List.length ([] : List Ty) * 3) 0 (List.length ([] : List Ty)) 3)] ([none, some (cellE Ty.enc ([] : List Ty))]) (by kernel_rfl) ?_
    refine s1 hW 20 2 [true] 2 [(6, (.sl 1 0 0 0 3)), (25, (.d (.list [[(.list (List.map Ty.enc a))], [(.list (List.map Ty.enc b))]]))), (26, (io 2)), (27, (io 0)), (31, (.sl 1 0 0 0 3)), (32, (lo Ty.enc a))] ?_
    refine CG.apC Ty.enc [] a 1 (fun _ => rfl) rfl (by kernel_rfl) (sliceC_map (enc := Ty.enc) (fun _ => rfl) _ a) (by (try simp only [zz] at *) <;> omega) ?_
    refine s1 hW 17 2 [true] 13 [(6, (.sl 1 (List.length ([] ++ a) * 3) 0 (List.length ([] ++ a)) 3)), (27, (io 1)), (31, (.sl 1 (List.length ([] ++ a) * 3) 0 (List.length ([] ++ a)) 3)), (32, (lo Ty.enc b))] ?_
    refine CG.apC Ty.enc ([] ++ a) b 1 (fun _ => rfl) rfl (by kernel_rfl) (sliceC_map (enc := Ty.enc) (fun _ => rfl) _ b) (by (try simp only [zz] at *) <;> omega) ?_
    refine s1 hW 18 0 [false] 0 [(2, (.sl 1 (List.length ([] ++ a ++ b) * 3) 0 (List.length ([] ++ a ++ b)) 3))] ?_
    rotate_left
    refine CG.tidy (Tidy.frzC (sz := 3) Ty.enc ([] ++ a ++ b) 1 2 (tm' := [(2, (.d (.list (List.map Ty.enc ([] ++ a ++ b)))))]) (H' := [none, none]) (fun _ => rfl) (by kernel_rfl) (by kernel_rfl) ⟨.inr trivial, ⟨.inl rfl, trivial⟩⟩ (by kernel_rfl) (by kernel_rfl)) ?_
    refine CG.ret (v' := (lo Ty.enc ([] ++ a ++ b))) (by kernel_rfl) ?_
    rfl
end Fw.Tz.Pa

/-
  Concatenated shapes and lifted cells.
-/
set_option linter.unusedSimpArgs false
set_option maxRecDepth 1000000
set_option maxHeartbeats 4000000
namespace Fw.Tz.Pc
open Go Go.Proofs Fw.X Fw.Tz Fw.Nu Fw.Tz.Sd Fw.Tz.Na Fw.Tz.El Fw.Tz.Va Fw.Tz.Vb Fw.Tz.Vc Fw.Tz.Vh Fw.Tz.Eq Fw.Tz.Ew Fw.Tz.Fg Fw.Tz.Pp Fw.Tz.Pa
variable {W : World}
theorem pc_made (hW : W0 W) (row : List UInt8) (dims : List Lin) (hl : dims.length ≤ 6) (hd : ∀ x ∈ dims, x.ts.length < 1073741824) : PC P (gl W) 175 [.d (.str row), .d (.list (dims.map Lin.enc))] (outS row dims 0) := by
  refine CG.start is175 ca175 rfl ?_
  have hl2 : dims.length < 1073741824 := by omega
  refine s4 hW 7 0 [] 3 [(4, (.ptr 0 2 0)), (5, (io 0)), (8, (bo (iLt 6 (Int.ofNat (List.length (List.map Lin.enc dims))))))] [(0, (.cells [(so []), .nils]))] ?_
  refine CG.condF (show (iLt 6 (Int.ofNat (List.length (List.map Lin.enc dims)))) = false from f_lt (by (try simp only [zz] at *) <;> omega)) (by kernel_rfl) ?_
  refine s1 hW 3 2 [] 12 [(10, (so row)), (11, (lo Lin.enc dims))] ?_
  refine CG.pg (pc_clones hW _ hl2 hd) rfl (by kernel_rfl) ?_
  refine s4 hW 2 0 [] 3 [] [(0, (.cells [(so row), (lo Lin.enc dims)]))] ?_
  refine CG.ret (v' := (.tuple [(.agg [(so row), (lo Lin.enc dims)]), (io 0)])) (by kernel_rfl) ?_
  rfl
theorem pc_madeL (hW : W0 W) (row : List UInt8) (dims : List Lin) (hl : 6 < dims.length) (hl2 : dims.length < 1073741824) : PC P (gl W) 175 [.d (.str row), .d (.list (dims.map Lin.enc))] (outS [] [] 3) := by
  refine CG.start is175 ca175 rfl ?_
  refine s4 hW 7 0 [] 3 [(4, (.ptr 0 2 0)), (5, (io 0)), (8, (bo (iLt 6 (Int.ofNat (List.length (List.map Lin.enc dims))))))] [(0, (.cells [(so []), .nils]))] ?_
  refine CG.condT (show (iLt 6 (Int.ofNat (List.length (List.map Lin.enc dims)))) = true from t_lt (by (try simp only [zz] at *) <;> omega)) (by kernel_rfl) ?_
  refine s1 hW 3 0 [] 7 [(5, (io 3))] ?_
  refine CG.ret (v' := (.tuple [(.agg [(so []), (.d (.list []))]), (io 3)])) (by kernel_rfl) ?_
  rfl
def okD (l : List Lin) : Prop := l.length < 1048576 ∧ ∀ x ∈ l, Lin.sm x ∧ x.ts.length < 1073741824
theorem pc_cat (hW : W0 W) (r1 : List UInt8) (d1 d2 : List Lin) (h1 : okD d1) (h2 : okD d2) (hr : r1.length < 1099511627776) (v1 : shpB r1 d1 = true) (v2 : shpB [] d2 = true) (hl : d1.length + d2.length ≤ 6) : PC P (gl W) 119 [vS r1 d1, vS [] d2] (outS r1 (d1 ++ d2) 0) := by
  refine CG.start is119 ca119 rfl ?_
  have k1 := pc_shp hW r1 d1 hr (by have := h1.1; omega) (fun x hx => (h1.2 x hx).1)
  have k2 := pc_shp hW [] d2 (by simp) (by have := h2.1; omega) (fun x hx => (h2.2 x hx).1)
  rw [v1] at k1
  rw [v2] at k2
  have k3 := pc_made hW r1 (d1 ++ d2) (by simp; omega) (fun x hx => by rcases List.mem_append.1 hx with hx | hx; exact (h1.2 x hx).2; exact (h2.2 x hx).2)
  have k4 := pc_catL hW d1 d2 h1.1 h2.1
  unfold outS at k3
  refine s4 hW 6 1 [] 0 [(2, (.ptr 0 2 0)), (3, (.ptr 1 2 0)), (4, (.ptr 2 2 0)), (5, (io 0)), (7, (.agg [(so r1), (lo Lin.enc d1)]))] [(0, (.cells [(so r1), (lo Lin.enc d1)])), (1, (.cells [(so []), (lo Lin.enc d2)])), (2, (.cells [(so []), .nils]))] ?_
  refine CG.pg (k1) rfl (by kernel_rfl) ?_
  refine s1 hW 0 3 [] 15 [(10, (bo false)), (11, (.agg [(so []), (lo Lin.enc d2)]))] ?_
  refine CG.pg (k2) rfl (by kernel_rfl) ?_
  refine s1 hW 11 0 [false, false] 15 [] ?_
  refine dg hW [] [(7, (lo Lin.enc (d1 ++ d2))), (8, (.tuple [(.agg [(so r1), (lo Lin.enc (d1 ++ d2))]), (io 0)]))] (tm' := [(4, (.ptr 2 2 0)), (5, (io 0))]) (H' := [some (.cells [(so r1), (lo Lin.enc d1)]), some (.cells [(so []), (lo Lin.enc d2)]), some (.cells [(so r1), (lo Lin.enc (d1 ++ d2))])] ++ nn 13 ([])) (cs := []) (calls := [(176, [(.d (.list [[(.list (List.map Lin.enc d1))], [(.list (List.map Lin.enc d2))]]))], (lo Lin.enc (d1 ++ d2))), (175, [(so r1), (lo Lin.enc (d1 ++ d2))], (.tuple [(.agg [(so r1), (lo Lin.enc (d1 ++ d2))]), (io 0)]))]) (by kernel_rfl) trivial ⟨k4, ⟨k3, trivial⟩⟩ ?_
  refine s1 hW 1 0 [] 3 [] ?_
  refine CG.ret (v' := (.tuple [(.agg [(so r1), (lo Lin.enc (d1 ++ d2))]), (io 0)])) (by kernel_rfl) ?_
  rfl
theorem pc_catX (hW : W0 W) (r1 : List UInt8) (d1 d2 : List Lin) (h1 : okD d1) (h2 : okD d2) (hr : r1.length < 1099511627776) (v1 : shpB r1 d1 = true) (v2 : shpB [] d2 = true) (hl : 6 < d1.length + d2.length) : PC P (gl W) 119 [vS r1 d1, vS [] d2] (outS [] [] 3) := by
  refine CG.start is119 ca119 rfl ?_
  have k1 := pc_shp hW r1 d1 hr (by have := h1.1; omega) (fun x hx => (h1.2 x hx).1)
  have k2 := pc_shp hW [] d2 (by simp) (by have := h2.1; omega) (fun x hx => (h2.2 x hx).1)
  rw [v1] at k1
  rw [v2] at k2
  have e1 := h1.1
  have e2 := h2.1
  have k3 := pc_madeL hW r1 (d1 ++ d2) (by simp; omega) (by simp; omega)
  have k4 := pc_catL hW d1 d2 h1.1 h2.1
  unfold outS at k3
  refine s4 hW 6 1 [] 0 [(2, (.ptr 0 2 0)), (3, (.ptr 1 2 0)), (4, (.ptr 2 2 0)), (5, (io 0)), (7, (.agg [(so r1), (lo Lin.enc d1)]))] [(0, (.cells [(so r1), (lo Lin.enc d1)])), (1, (.cells [(so []), (lo Lin.enc d2)])), (2, (.cells [(so []), .nils]))] ?_
  refine CG.pg (k1) rfl (by kernel_rfl) ?_
  refine s1 hW 0 3 [] 15 [(10, (bo false)), (11, (.agg [(so []), (lo Lin.enc d2)]))] ?_
  refine CG.pg (k2) rfl (by kernel_rfl) ?_
  refine s1 hW 11 0 [false, false] 15 [] ?_
  refine dg hW [] [(7, (lo Lin.enc (d1 ++ d2))), (8, (.tuple [(.agg [(so []), (.d (.list []))]), (io 3)]))] (tm' := [(4, (.ptr 2 2 0)), (5, (io 3))]) (H' := [some (.cells [(so r1), (lo Lin.enc d1)]), some (.cells [(so []), (lo Lin.enc d2)]), some (.cells [(so []), (.d (.list []))])] ++ nn 13 ([])) (cs := []) (calls := [(176, [(.d (.list [[(.list (List.map Lin.enc d1))], [(.list (List.map Lin.enc d2))]]))], (lo Lin.enc (d1 ++ d2))), (175, [(so r1), (lo Lin.enc (d1 ++ d2))], (.tuple [(.agg [(so []), (.d (.list []))]), (io 3)]))]) (by kernel_rfl) trivial ⟨k4, ⟨k3, trivial⟩⟩ ?_
  refine s1 hW 1 0 [] 3 [] ?_
  refine CG.ret (v' := (.tuple [(.agg [(so []), (.d (.list []))]), (io 3)])) (by kernel_rfl) ?_
  rfl
def outT (t : Ty) (e : Int) : V := .tuple [vT t, .d (.int .i64 e)]
theorem pc_lift (hW : W0 W) (row : List UInt8) (dims : List Lin) (t : Ty) (h1 : okD dims) (h2 : okD t.dims) (hr : row.length < 1099511627776) (v1 : shpB row dims = true) (v2 : shpB [] t.dims = true) (hw : t.row = []) (hl : dims.length + t.dims.length ≤ 6) : PC P (gl W) 61 [vS row dims, vT t] (outT ⟨t.elem, row, dims ++ t.dims⟩ 0) := by
  refine CG.start is61 ca61 rfl ?_
  have k := pc_cat hW row dims t.dims h1 h2 hr v1 v2 hl
  unfold outS at k
  obtain ⟨te, tr, td⟩ := t
  simp only at hw
  subst hw
  refine s4 hW 4 3 [] 0 [(3, (.ptr 1 3 0)), (4, (.ptr 2 3 0)), (5, (io 0)), (9, (.agg [(so row), (lo Lin.enc dims)])), (11, (.agg [(so []), (lo Lin.enc (Ty.dims { elem := te, row := [], dims := td }))]))] [(0, (.cells [(so row), (lo Lin.enc dims)])), (1, (.cells [(so (Ty.elem { elem := te, row := [], dims := td })), (so []), (lo Lin.enc (Ty.dims { elem := te, row := [], dims := td }))])), (2, (.cells [(so []), (so []), .nils]))] ?_
  refine CG.pg (k) rfl (by kernel_rfl) ?_
  refine s4 hW 5 0 [] 6 [] [(2, (.cells [(so (Ty.elem { elem := te, row := [], dims := td })), (so row), (lo Lin.enc (dims ++ Ty.dims { elem := te, row := [], dims := td }))])), (3, (.cells [(so row), (lo Lin.enc (dims ++ Ty.dims { elem := te, row := [], dims := td }))]))] ?_
  refine CG.ret (v' := (.tuple [(.agg [(so (Ty.elem { elem := te, row := [], dims := td })), (so row), (lo Lin.enc (dims ++ Ty.dims { elem := te, row := [], dims := td }))]), (io 0)])) (by kernel_rfl) ?_
  rfl
theorem pc_liftX (hW : W0 W) (row : List UInt8) (dims : List Lin) (t : Ty) (h1 : okD dims) (h2 : okD t.dims) (hr : row.length < 1099511627776) (v1 : shpB row dims = true) (v2 : shpB [] t.dims = true) (hw : t.row = []) (hl : 6 < dims.length + t.dims.length) : PC P (gl W) 61 [vS row dims, vT t] (outT ⟨t.elem, [], []⟩ 3) := by
  refine CG.start is61 ca61 rfl ?_
  have k := pc_catX hW row dims t.dims h1 h2 hr v1 v2 hl
  unfold outS at k
  obtain ⟨te, tr, td⟩ := t
  simp only at hw
  subst hw
  refine s4 hW 4 3 [] 0 [(3, (.ptr 1 3 0)), (4, (.ptr 2 3 0)), (5, (io 0)), (9, (.agg [(so row), (lo Lin.enc dims)])), (11, (.agg [(so []), (lo Lin.enc (Ty.dims { elem := te, row := [], dims := td }))]))] [(0, (.cells [(so row), (lo Lin.enc dims)])), (1, (.cells [(so (Ty.elem { elem := te, row := [], dims := td })), (so []), (lo Lin.enc (Ty.dims { elem := te, row := [], dims := td }))])), (2, (.cells [(so []), (so []), .nils]))] ?_
  refine CG.pg (k) rfl (by kernel_rfl) ?_
  refine s4 hW 5 0 [] 2 [(5, (io 3))] [(2, (.cells [(so (Ty.elem { elem := te, row := [], dims := td })), (so []), (.d (.list []))])), (3, (.cells [(so []), (.d (.list []))]))] ?_
  refine CG.ret (v' := (.tuple [(.agg [(so (Ty.elem { elem := te, row := [], dims := td })), (so []), (.d (.list []))]), (io 3)])) (by kernel_rfl) ?_
  rfl
end Fw.Tz.Pc

/-
  Pairs of an application.
-/
set_option linter.unusedSimpArgs false
set_option maxRecDepth 1000000
set_option maxHeartbeats 4000000
namespace Fw.Tz.Pb
open Go Go.Proofs Fw.X Fw.Tz Fw.Nu Fw.Tz.Sd Fw.Tz.Na Fw.Tz.El Fw.Tz.Va Fw.Tz.Vb Fw.Tz.Vc Fw.Tz.Vd Fw.Tz.Vf Fw.Tz.Vh Fw.Tz.Eq Fw.Tz.Ew Fw.Tz.Fg Fw.Tz.Pp Fw.Tz.Pa Fw.Tz.Pc
variable {W : World}
def encP (p : Ty × Ty) : List D := Ty.enc p.1 ++ Ty.enc p.2
def outP (l : List (Ty × Ty)) (e : Int) : V := .tuple [.d (.list (l.map encP)), .d (.int .i64 e)]
def prV : Option (List (Ty × Ty)) → V
  | none => outP [] 3
  | some l => outP l 0
def pairsV (c : Con) (row : List UInt8) (dims : List Lin) (bs : List Bool) : V := bif badP c row dims bs then outP [] 1 else prV (pairsO c row dims bs)
theorem shEq_nil (row : List UInt8) (dims : List Lin) : shEq row dims [] [] = (bytesEq row [] && decide (dims.length = 0)) := by
  cases dims with
  | nil => rfl
  | cons a l => simp [shEq, lEq]
theorem pc_any1 (hW : W0 W) (l : List Bool) (hl : l.length < 1099511627776) : PC P (gl W) 62 [.d (.list (l.map encB))] (.d (.bool (l.any id))) := by
  refine CG.start is62 ca62 rfl ?_
  refine s1 hW 8 0 [] 1 [(2, (bo false)), (3, (io 0))] ?_
  rotate_left
  refine CG.loopL l (fun i u => [(0, (lo encB l)), (2, (bo false)), (3, .d (.int .i64 (.ofNat i)))]) (fun i u => []) (fun i u r => (l.any id = r.any id)) () ?_ (Tidy.refl _ _) ?_ ?_
  · rfl
  · intro i u hi hdr hinv
    refine s1 hW 4 0 [] 7 [(7, (bo (iLt (Int.ofNat i) (Int.ofNat (List.length (List.map encB l))))))] ?_
    refine CG.condF (show (iLt (Int.ofNat i) (Int.ofNat (List.length (List.map encB l)))) = false from f_lt (by (try simp only [zz] at *) <;> omega)) (by kernel_rfl) ?_
    refine CG.exitL (by decide) ?_
    refine s1 hW 5 0 [] 2 [] ?_
    refine CG.ret (v' := (bo false)) (by kernel_rfl) ?_
    rotate_left
    rw [hinv]; rfl
  · intro i u y r hdr hy hlt hinv
    rw [List.any_cons] at hinv
    cases y with
    | true =>
      refine s1 hW 4 0 [] 7 [(7, (bo (iLt (Int.ofNat i) (Int.ofNat (List.length (List.map encB l))))))] ?_
      refine CG.condT (show (iLt (Int.ofNat i) (Int.ofNat (List.length (List.map encB l)))) = true from t_lt (by (try simp only [zz] at *) <;> omega)) (by kernel_rfl) ?_
      refine s1 hW 5 2 [] 7 [(10, (lo encB l)), (11, (no i))] ?_
      refine CG.ix (idx_map (enc := encB) hy) rfl (by kernel_rfl) ?_
      refine s1 hW 6 0 [true] 5 [(2, (bo true))] ?_
      refine CG.retL (v' := (bo true)) (by kernel_rfl) ?_
      rotate_left
      rw [hinv]; rfl
    | false =>
      refine s1 hW 4 0 [] 7 [(7, (bo (iLt (Int.ofNat i) (Int.ofNat (List.length (List.map encB l))))))] ?_
      refine CG.condT (show (iLt (Int.ofNat i) (Int.ofNat (List.length (List.map encB l)))) = true from t_lt (by (try simp only [zz] at *) <;> omega)) (by kernel_rfl) ?_
      refine s1 hW 5 2 [] 7 [(10, (lo encB l)), (11, (no i))] ?_
      refine CG.ix (idx_map (enc := encB) hy) rfl (by kernel_rfl) ?_
      refine s3 hW 6 3 [false] [(0, (lo encB l)), (2, (bo false)), (3, (io (wrapF IntKind.i64 (iAdd (Int.ofNat i) 1))))] ([]) ?_
      refine CG.endL rfl ?_
      rw [wrapI (by omega)]
      rotate_left
      exact ⟨(), by rw [hinv]; rfl, Tidy.refl _ _⟩
theorem pc_idxB (hW : W0 W) (l : List Bool) (hl : l.length < 1099511627776) : PC P (gl W) 114 [.d (.list (l.map encB)), .d (.bool true)] (fiV (l.findIdx? id)) := by
  refine CG.start is114 ca114 rfl ?_
  refine s1 hW 8 0 [] 3 [(4, (io 0)), (7, (no (List.length (List.map encB l)))), (8, (io 0))] ?_
  rotate_left
  refine CG.loopL l (fun i u => [(0, (lo encB l)), (1, (bo true)), (4, (io 0)), (7, (no (List.length (List.map encB l)))), (8, .d (.int .i64 (.ofNat i)))]) (fun i u => []) (fun i u r => (fiV (l.findIdx? id) = fiV ((r.findIdx? id).map (· + i)))) () ?_ (Tidy.refl _ _) ?_ ?_
  · cases l.findIdx? id <;> rfl
  · intro i u hi hdr hinv
    refine s1 hW 4 0 [] 23 [(9, (bo (iLt (Int.ofNat i) (Int.ofNat (List.length (List.map encB l))))))] ?_
    refine CG.condF (show (iLt (Int.ofNat i) (Int.ofNat (List.length (List.map encB l)))) = false from f_lt (by (try simp only [zz] at *) <;> omega)) (by kernel_rfl) ?_
    refine CG.exitL (by decide) ?_
    refine s1 hW 5 0 [] 0 [(4, (io (-1)))] ?_
    refine CG.ret (v' := (io (-1))) (by kernel_rfl) ?_
    rotate_left
    rw [hinv]; rfl
  · intro i u y r hdr hy hlt hinv
    rw [List.findIdx?_cons] at hinv
    cases y with
    | true =>
      refine s1 hW 4 0 [] 31 [(9, (bo (iLt (Int.ofNat i) (Int.ofNat (List.length (List.map encB l))))))] ?_
      refine CG.condT (show (iLt (Int.ofNat i) (Int.ofNat (List.length (List.map encB l)))) = true from t_lt (by (try simp only [zz] at *) <;> omega)) (by kernel_rfl) ?_
      refine s1 hW 8 3 [] 31 [(5, (no i)), (11, (bo true)), (12, (lo encB l)), (13, (no i))] ?_
      refine CG.ix (idx_map (enc := encB) hy) rfl (by kernel_rfl) ?_
      refine s1 hW 6 0 [true] 51 [(4, (no i))] ?_
      refine CG.retL (v' := (no i)) (by kernel_rfl) ?_
      rotate_left
      rw [hinv]; simp [fiV]
    | false =>
      refine s1 hW 4 0 [] 31 [(9, (bo (iLt (Int.ofNat i) (Int.ofNat (List.length (List.map encB l))))))] ?_
      refine CG.condT (show (iLt (Int.ofNat i) (Int.ofNat (List.length (List.map encB l)))) = true from t_lt (by (try simp only [zz] at *) <;> omega)) (by kernel_rfl) ?_
      refine s1 hW 8 3 [] 31 [(5, (no i)), (11, (bo true)), (12, (lo encB l)), (13, (no i))] ?_
      refine CG.ix (idx_map (enc := encB) hy) rfl (by kernel_rfl) ?_
      refine s3 hW 6 2 [false] [(0, (lo encB l)), (1, (bo true)), (4, (io 0)), (7, (no (List.length (List.map encB l)))), (8, (io (wrapF IntKind.i64 (iAdd (Int.ofNat i) 1))))] ([]) ?_
      refine CG.endL rfl ?_
      rw [wrapI (by omega)]
      rotate_left
      refine ⟨(), ?_, Tidy.refl _ _⟩
      rw [hinv]
      cases r.findIdx? id with
      | none => rfl
      | some j => simp only [id, Bool.false_eq_true, if_false, Option.map_some, fiV]; rw [show j + 1 + i = j + (i + 1) by omega]
theorem pc_contB (hW : W0 W) (l : List Bool) (hl : l.length < 1099511627776) : PC P (gl W) 58 [.d (.list (l.map encB)), .d (.bool true)] (.d (.bool (l.any id))) := by
  refine CG.start is58 ca58 rfl ?_
  refine s1 hW 4 2 [] 0 [(4, (bo false)), (5, (lo encB l)), (6, (bo true))] ?_
  refine CG.pg (pc_idxB hW _ hl) rfl (by kernel_rfl) ?_
  rotate_left
  have : l.any id = (l.findIdx? id).isSome := by rw [List.findIdx?_isSome]
  rw [this]
  cases l.findIdx? id with
  | none => refine s1 hW 2 0 [] 1 [] ?_
            refine CG.ret (v' := (bo false)) (by kernel_rfl) ?_
            rfl
  | some i => refine s1 hW 2 0 [] 0 [(4, (bo true))] ?_
              refine CG.ret (v' := (bo true)) (by kernel_rfl) ?_
              rfl
end Fw.Tz.Pb

/-
  Pairs, by the program.
-/
set_option linter.unusedSimpArgs false
set_option maxRecDepth 1000000
set_option maxHeartbeats 4000000
namespace Fw.Tz.Pd
open Go Go.Proofs Fw.X Fw.Tz Fw.Nu Fw.Tz.Sd Fw.Tz.Na Fw.Tz.El Fw.Tz.Va Fw.Tz.Vb Fw.Tz.Vc Fw.Tz.Vd Fw.Tz.Vf Fw.Tz.Vh Fw.Tz.Eq Fw.Tz.Ew Fw.Tz.Fg Fw.Tz.Pp Fw.Tz.Pa Fw.Tz.Pb Fw.Tz.Pc
variable {W : World}
structure Okc (c : Con) (row : List UInt8) (dims : List Lin) (bs : List Bool) : Prop where
  sm : Con.sm c
  ws : ∀ t ∈ c.ws, okD t.dims
  x : okD c.x.dims
  row : row.length < 1099511627776
  dims : okD dims
  bs : bs.length < 1099511627776
structure Okp (c : Con) (row : List UInt8) (dims : List Lin) (bs : List Bool) : Prop where
  con : conB c = true
  len : c.gs.length = c.ws.length
  le : c.gs.length ≤ 16
  wrow : ∀ t ∈ c.ws, t.row = []
  wshp : ∀ t ∈ c.ws, shpB [] t.dims = true
  xrow : c.x.row = []
  xshp : shpB [] c.x.dims = true
  shp : shpB row dims = true
  bsl : bs.length = c.gs.length
theorem okp_of {c : Con} {row : List UInt8} {dims : List Lin} {bs : List Bool} (h1 : conB c = true) (h2 : shpB row dims = true) (h3 : bs.length = c.gs.length) : Okp c row dims bs := by
  have h := h1
  simp only [conB, Bool.and_eq_true, decide_eq_true_eq, Bool.not_eq_true', List.any_eq_false] at h
  obtain ⟨⟨⟨⟨⟨⟨⟨_, k1⟩, k2⟩, k3⟩, k4⟩, k5⟩, _⟩, k6⟩ := h
  have e1 : ∀ t ∈ c.ws, t.row = [] := fun t ht => by
    have := k6 t ht
    simp only [badW, Bool.or_eq_true, not_or, Bool.not_eq_true] at this
    simpa [hasRow, Fw.bytesEq_iff] using this.2
  have e2 : c.x.row = [] := by simpa [hasRow, Fw.bytesEq_iff] using k5
  refine ⟨h1, k1, k2, e1, fun t ht => ?_, e2, ?_, h2, h3⟩
  · have := k6 t ht
    simp only [badW, badT, Bool.or_eq_true, not_or, Bool.not_eq_true, Bool.not_eq_false', tyB, Bool.and_eq_true] at this
    have k := this.1.2
    rwa [e1 t ht] at k
  · simp only [tyB, Bool.and_eq_true] at k4
    have k := k4.2
    rwa [e2] at k
theorem drop_snoc {α : Type} {l : List α} {y x : α} {i : Nat} (h : l[i]? = some x) : (l ++ [y]).drop i = x :: (l ++ [y]).drop (i + 1) := by
  obtain ⟨hi, _⟩ := List.getElem?_eq_some_iff.1 h
  exact drop_at (by rw [List.getElem?_append_left hi]; exact h)
theorem pr_loop (hW : W0 W) (c : Con) (row : List UInt8) (dims : List Lin) (bs : List Bool) (hs : Okc c row dims bs) (hp : Okp c row dims bs) : CG P (gl W) (.code (.loop f23.l19)) [.block 0, .seq (.seq (.region f23.r20) .ret)] f23.ntmps
    [(2, lo encB bs), (3, .ptr 0 18 0), (4, .ptr 1 2 0), (6, .nils), (7, io 0), (8, bo (bs.any id)), (9, .nils), (55, lo Ty.enc (c.gs ++ [c.r])), (56, no (List.length (List.map Ty.enc (c.gs ++ [c.r])))), (57, io 0)] [some (.cells (Con.cells c)), some (.cells [so row, lo Lin.enc dims])] (RetQ f23.res (prV (pairsO c row dims bs))) := by
  have hlen := hp.len
  have hle := hp.le
  have hbl := hp.bsl
  have hdl := hs.dims.1
  refine CG.tidy (Tidy.nilS 9 6 (tm' := [(2, (lo encB bs)), (3, (.ptr 0 18 0)), (4, (.ptr 1 2 0)), (6, .nils), (7, (io 0)), (8, (bo (List.any bs id))), (9, .sl 2 0 0 0 6), (55, (lo Ty.enc (Con.gs c ++ [Con.r c]))), (56, (no (List.length (List.map Ty.enc (Con.gs c ++ [Con.r c]))))), (57, (io 0))]) (Nat.le_refl _) (by kernel_rfl) (by kernel_rfl)) ?_
  refine CG.isH ([some (.cells (Con.cells c)), some (.cells [(so row), (lo Lin.enc dims)]), some .nil]) (by kernel_rfl) ?_
  refine CG.is [(2, (lo encB bs)), (3, (.ptr 0 18 0)), (4, (.ptr 1 2 0)), (6, .nils), (7, (io 0)), (8, (bo (List.any bs id))), (9, .sl 2 (List.length ([] : List (Ty × Ty)) * 6) 0 (List.length ([] : List (Ty × Ty))) 6), (55, (lo Ty.enc (Con.gs c ++ [Con.r c]))), (56, (no (List.length (List.map Ty.enc (Con.gs c ++ [Con.r c]))))), (57, (io 0))] ([some (.cells (Con.cells c)), some (.cells [(so row), (lo Lin.enc dims)]), some (rowE encP ([] : List (Ty × Ty)))]) (by kernel_rfl) ?_
  refine CG.loopL (c.gs ++ [c.r]) (fun i a => [(2, (lo encB bs)), (3, (.ptr 0 18 0)), (4, (.ptr 1 2 0)), (6, .nils), (7, (io 0)), (8, (bo (List.any bs id))), (9, .sl 2 (a.length * 6) 0 a.length 6), (55, (lo Ty.enc (Con.gs c ++ [Con.r c]))), (56, (no (List.length (List.map Ty.enc (Con.gs c ++ [Con.r c]))))), (57, .d (.int .i64 (.ofNat i)))]) (fun i a => [some (.cells (Con.cells c)), some (.cells [(so row), (lo Lin.enc dims)]), some (rowE encP a)]) (fun i a r => (pairsO c row dims bs = prs row dims a r ((c.ws ++ [c.x]).drop i) ((bs ++ [bs.any id]).drop i) ∧ a.length = i)) ([] : List (Ty × Ty)) ?_ (Tidy.refl _ _) ?_ ?_
  · exact ⟨rfl, rfl⟩
  · rintro i a hi hd ⟨hinv, ha⟩
    have hR : prV (pairsO c row dims bs) = outP a 0 := by rw [hinv]; simp [prs, prV]
    rw [hR]
    refine s1 hW 4 0 [] 767 [(58, (bo (iLt (Int.ofNat i) (Int.ofNat (List.length (List.map Ty.enc (Con.gs c ++ [Con.r c])))))))] ?_
    refine CG.condF (show (iLt (Int.ofNat i) (Int.ofNat (List.length (List.map Ty.enc (Con.gs c ++ [Con.r c]))))) = false from f_lt (by (try simp only [zz] at *) <;> omega)) (by kernel_rfl) ?_
    refine CG.exitL (by decide) ?_
    refine s1 hW 5 0 [] 16 [(6, (.sl 2 (List.length a * 6) 0 (List.length a) 6))] ?_
    rotate_left
    refine CG.tidy (Tidy.frzE (sz := 6) encP a 2 6 (tm' := [(6, (.d (.list (List.map encP a)))), (7, (io 0))]) (H' := [some (.cells (Con.cells c)), some (.cells [(so row), (lo Lin.enc dims)]), none]) (fun _ => rfl) (by kernel_rfl) (by kernel_rfl) ⟨.inr rfl, ⟨.inr rfl, ⟨.inl rfl, trivial⟩⟩⟩ (by kernel_rfl) (by kernel_rfl)) ?_
    refine CG.ret (v' := (.tuple [(lo encP a), (io 0)])) (by kernel_rfl) ?_
    rfl
  · rintro i a x r hd hx hlt ⟨hinv, ha⟩
    rw [List.length_append] at hlt
    simp only [List.length_cons, List.length_nil] at hlt
    by_cases hlast : i < c.gs.length
    · obtain ⟨w, hw⟩ : ∃ w, c.ws[i]? = some w := ⟨_, List.getElem?_eq_getElem (by omega)⟩
      obtain ⟨b, hb⟩ : ∃ b, bs[i]? = some b := ⟨_, List.getElem?_eq_getElem (by omega)⟩
      have hwm := List.mem_of_getElem? hw
      have hwd := hs.ws w hwm
      have hwl := hwd.1
      rw [drop_snoc hw, drop_snoc hb, prs] at hinv
      cases b with
      | false =>
        refine s1 hW 4 0 [] 1023 [(58, (bo (iLt (Int.ofNat i) (Int.ofNat (List.length (List.map Ty.enc (Con.gs c ++ [Con.r c])))))))] ?_
        refine CG.condT (show (iLt (Int.ofNat i) (Int.ofNat (List.length (List.map Ty.enc (Con.gs c ++ [Con.r c]))))) = true from t_lt (by (try simp only [zz] at *) <;> omega)) (by kernel_rfl) ?_
        refine s1 hW 5 1 [] 1023 [(59, (no i))] ?_
        refine CG.ix (idx_map (enc := Ty.enc) hx) rfl (by kernel_rfl) ?_
        refine s4 hW 12 0 [] 1023 [(10, (no i)), (11, (.ptr 3 3 0)), (13, (.ptr 4 3 0)), (14, (bo (List.any bs id))), (71, (bo (!iEq (Int.ofNat i) (Int.ofNat (List.length (List.map Ty.enc (Con.gs c)))))))] [(3, (.cells [(so (Ty.elem x)), (so (Ty.row x)), (lo Lin.enc (Ty.dims x))])), (4, (.cells [(so (Ty.elem (Con.x c))), (so (Ty.row (Con.x c))), (lo Lin.enc (Ty.dims (Con.x c)))]))] ?_
        have q29 : (iEq (Int.ofNat i) (Int.ofNat (List.length (List.map Ty.enc (Con.gs c))))) = false := f_eq (by (try simp only [zz] at *) <;> omega)
        refine CG.condT (b := (!iEq (Int.ofNat i) (Int.ofNat (List.length (List.map Ty.enc (Con.gs c)))))) (by rw [q29]; rfl) (by kernel_rfl) ?_
        refine CG.drawW orders (by kernel_rfl) ?_
        refine AW.rk 3 [(72, (.ptr 0 18 9)), (73, (lo Ty.enc (Con.ws c))), (74, (no i))] [] (by kernel_rfl) ?_
        refine AW.idx (idx_map (enc := Ty.enc) hw) rfl (by kernel_rfl) (by kernel_rfl) (by kernel_rfl) rfl ?_
        refine AW.rk 3 [(76, (.agg [(so (Ty.elem w)), (so (Ty.row w)), (lo Lin.enc (Ty.dims w))])), (77, (lo encB bs)), (78, (no i))] [] (by kernel_rfl) ?_
        refine AW.idx (idx_map (enc := encB) hb) rfl (by kernel_rfl) (by kernel_rfl) (by kernel_rfl) rfl ?_
        refine AW.rk 3 [(14, (bo false)), (80, (bo false))] [(4, (.cells [(so (Ty.elem w)), (so (Ty.row w)), (lo Lin.enc (Ty.dims w))]))] (by kernel_rfl) ?_
        refine AW.nil rfl ⟨by kernel_rfl, AW.fin (H2 := [some (.cells (Con.cells c)), some (.cells [(so row), (lo Lin.enc dims)]), some (rowE encP a), some (.cells [(so (Ty.elem x)), (so (Ty.row x)), (lo Lin.enc (Ty.dims x))]), some (.cells [(so (Ty.elem w)), (so (Ty.row w)), (lo Lin.enc (Ty.dims w))])]) 5 [2, 3, 4, 6, 7, 8, 9, 11, 13, 14, 55, 56, 57] (by kernel_rfl) rfl (by kernel_rfl) (by kernel_rfl) (by simp [nn, heapLt, boxLt_row, boxLt_cell, boxLt_cs, boxLt_nil, refsLtL, refsLt, Con.cells]) ?_⟩
        refine s1 hW 8 5 [false] 7295 [(91, (.sl 2 (List.length a * 6) 0 (List.length a) 6)), (95, (.d (.list [[(.str (Ty.elem x)), (.str (Ty.row x)), (.list (List.map Lin.enc (Ty.dims x))), (.str (Ty.elem w)), (.str (Ty.row w)), (.list (List.map Lin.enc (Ty.dims w)))]])))] ?_
        refine CG.apE encP a (((x, w)) :: []) 2 (fun _ => rfl) rfl (by kernel_rfl) (by kernel_rfl) (by (try simp only [zz] at *) <;> omega) ?_
        refine s3 hW 3 2 [] [(2, (lo encB bs)), (3, (.ptr 0 18 0)), (4, (.ptr 1 2 0)), (6, .nils), (7, (io 0)), (8, (bo (List.any bs id))), (9, (.sl 2 (List.length (a ++ [(x, w)]) * 6) 0 (List.length (a ++ [(x, w)])) 6)), (55, (lo Ty.enc (Con.gs c ++ [Con.r c]))), (56, (no (List.length (List.map Ty.enc (Con.gs c ++ [Con.r c]))))), (57, (io (wrapF IntKind.i64 (iAdd (Int.ofNat i) 1))))] ([some (.cells (Con.cells c)), some (.cells [(so row), (lo Lin.enc dims)]), some (rowE encP (a ++ [(x, w)])), some (.cells [(so (Ty.elem x)), (so (Ty.row x)), (lo Lin.enc (Ty.dims x))]), some (.cells [(so (Ty.elem w)), (so (Ty.row w)), (lo Lin.enc (Ty.dims w))])]) ?_
        refine CG.endL rfl ?_
        rw [wrapI (by omega)]
        rotate_left
        exact ⟨a ++ [(x, w)], ⟨hinv, by simp [ha]⟩, Tidy.trim 3 [2, 3, 4, 6, 7, 8, 9, 55, 56, 57] rfl rfl rfl rfl (by simp only [List.take_succ_cons, List.take_zero, heapLt, boxLt_row]; rfl)⟩
      | true =>
        by_cases h6 : dims.length + w.dims.length ≤ 6
        · have hl := pc_lift hW row dims w hs.dims hwd hs.row hp.shp (hp.wshp w hwm) (hp.wrow w hwm) h6
          unfold outT at hl
          rw [show liftB row dims w true = some ⟨w.elem, row, dims ++ w.dims⟩ from by simp [liftB, h6]] at hinv
          refine s1 hW 4 0 [] 1023 [(58, (bo (iLt (Int.ofNat i) (Int.ofNat (List.length (List.map Ty.enc (Con.gs c ++ [Con.r c])))))))] ?_
          refine CG.condT (show (iLt (Int.ofNat i) (Int.ofNat (List.length (List.map Ty.enc (Con.gs c ++ [Con.r c]))))) = true from t_lt (by (try simp only [zz] at *) <;> omega)) (by kernel_rfl) ?_
          refine s1 hW 5 1 [] 1023 [(59, (no i))] ?_
          refine CG.ix (idx_map (enc := Ty.enc) hx) rfl (by kernel_rfl) ?_
          refine s4 hW 12 0 [] 1023 [(10, (no i)), (11, (.ptr 3 3 0)), (13, (.ptr 4 3 0)), (14, (bo (List.any bs id))), (71, (bo (!iEq (Int.ofNat i) (Int.ofNat (List.length (List.map Ty.enc (Con.gs c)))))))] [(3, (.cells [(so (Ty.elem x)), (so (Ty.row x)), (lo Lin.enc (Ty.dims x))])), (4, (.cells [(so (Ty.elem (Con.x c))), (so (Ty.row (Con.x c))), (lo Lin.enc (Ty.dims (Con.x c)))]))] ?_
          have q31 : (iEq (Int.ofNat i) (Int.ofNat (List.length (List.map Ty.enc (Con.gs c))))) = false := f_eq (by (try simp only [zz] at *) <;> omega)
          refine CG.condT (b := (!iEq (Int.ofNat i) (Int.ofNat (List.length (List.map Ty.enc (Con.gs c)))))) (by rw [q31]; rfl) (by kernel_rfl) ?_
          refine CG.drawW orders (by kernel_rfl) ?_
          refine AW.rk 3 [(72, (.ptr 0 18 9)), (73, (lo Ty.enc (Con.ws c))), (74, (no i))] [] (by kernel_rfl) ?_
          refine AW.idx (idx_map (enc := Ty.enc) hw) rfl (by kernel_rfl) (by kernel_rfl) (by kernel_rfl) rfl ?_
          refine AW.rk 3 [(76, (.agg [(so (Ty.elem w)), (so (Ty.row w)), (lo Lin.enc (Ty.dims w))])), (77, (lo encB bs)), (78, (no i))] [] (by kernel_rfl) ?_
          refine AW.idx (idx_map (enc := encB) hb) rfl (by kernel_rfl) (by kernel_rfl) (by kernel_rfl) rfl ?_
          refine AW.rk 3 [(14, (bo true)), (80, (bo true))] [(4, (.cells [(so (Ty.elem w)), (so (Ty.row w)), (lo Lin.enc (Ty.dims w))]))] (by kernel_rfl) ?_
          refine AW.nil rfl ⟨by kernel_rfl, AW.fin (H2 := [some (.cells (Con.cells c)), some (.cells [(so row), (lo Lin.enc dims)]), some (rowE encP a), some (.cells [(so (Ty.elem x)), (so (Ty.row x)), (lo Lin.enc (Ty.dims x))]), some (.cells [(so (Ty.elem w)), (so (Ty.row w)), (lo Lin.enc (Ty.dims w))])]) 5 [2, 3, 4, 6, 7, 8, 9, 11, 13, 14, 55, 56, 57] (by kernel_rfl) rfl (by kernel_rfl) (by kernel_rfl) (by simp [nn, heapLt, boxLt_row, boxLt_cell, boxLt_cs, boxLt_nil, refsLtL, refsLt, Con.cells]) ?_⟩
          refine s1 hW 10 2 [true] 7679 [(15, (io 0)), (83, (.agg [(so row), (lo Lin.enc dims)])), (84, (.agg [(so (Ty.elem w)), (so (Ty.row w)), (lo Lin.enc (Ty.dims w))]))] ?_
          refine CG.pg (hl) rfl (by kernel_rfl) ?_
          refine s4 hW 8 5 [false] 7295 [(91, (.sl 2 (List.length a * 6) 0 (List.length a) 6)), (95, (.d (.list [[(.str (Ty.elem x)), (.str (Ty.row x)), (.list (List.map Lin.enc (Ty.dims x))), (.str (Ty.elem { elem := Ty.elem w, row := row, dims := dims ++ Ty.dims w })), (.str (Ty.row { elem := Ty.elem w, row := row, dims := dims ++ Ty.dims w })), (.list (List.map Lin.enc (Ty.dims { elem := Ty.elem w, row := row, dims := dims ++ Ty.dims w })))]])))] [(4, (.cells [(so (Ty.elem { elem := Ty.elem w, row := row, dims := dims ++ Ty.dims w })), (so (Ty.row { elem := Ty.elem w, row := row, dims := dims ++ Ty.dims w })), (lo Lin.enc (Ty.dims { elem := Ty.elem w, row := row, dims := dims ++ Ty.dims w }))]))] ?_
          refine CG.apE encP a (((x, { elem := Ty.elem w, row := row, dims := dims ++ Ty.dims w })) :: []) 2 (fun _ => rfl) rfl (by kernel_rfl) (by kernel_rfl) (by (try simp only [zz] at *) <;> omega) ?_
          refine s3 hW 3 2 [] [(2, (lo encB bs)), (3, (.ptr 0 18 0)), (4, (.ptr 1 2 0)), (6, .nils), (7, (io 0)), (8, (bo (List.any bs id))), (9, (.sl 2 (List.length (a ++ [(x, { elem := Ty.elem w, row := row, dims := dims ++ Ty.dims w })]) * 6) 0 (List.length (a ++ [(x, { elem := Ty.elem w, row := row, dims := dims ++ Ty.dims w })])) 6)), (55, (lo Ty.enc (Con.gs c ++ [Con.r c]))), (56, (no (List.length (List.map Ty.enc (Con.gs c ++ [Con.r c]))))), (57, (io (wrapF IntKind.i64 (iAdd (Int.ofNat i) 1))))] ([some (.cells (Con.cells c)), some (.cells [(so row), (lo Lin.enc dims)]), some (rowE encP (a ++ [(x, { elem := Ty.elem w, row := row, dims := dims ++ Ty.dims w })])), some (.cells [(so (Ty.elem x)), (so (Ty.row x)), (lo Lin.enc (Ty.dims x))]), some (.cells [(so (Ty.elem { elem := Ty.elem w, row := row, dims := dims ++ Ty.dims w })), (so (Ty.row { elem := Ty.elem w, row := row, dims := dims ++ Ty.dims w })), (lo Lin.enc (Ty.dims { elem := Ty.elem w, row := row, dims := dims ++ Ty.dims w }))])]) ?_
          refine CG.endL rfl ?_
          rw [wrapI (by omega)]
          rotate_left
          exact ⟨a ++ [(x, ⟨w.elem, row, dims ++ w.dims⟩)], ⟨hinv, by simp [ha]⟩, Tidy.trim 3 [2, 3, 4, 6, 7, 8, 9, 55, 56, 57] rfl rfl rfl rfl (by simp only [List.take_succ_cons, List.take_zero, heapLt, boxLt_row]; rfl)⟩
        · have hl := pc_liftX hW row dims w hs.dims hwd hs.row hp.shp (hp.wshp w hwm) (hp.wrow w hwm) (by omega)
          unfold outT at hl
          rw [show liftB row dims w true = none from by simp [liftB, h6]] at hinv
          refine s1 hW 4 0 [] 1023 [(58, (bo (iLt (Int.ofNat i) (Int.ofNat (List.length (List.map Ty.enc (Con.gs c ++ [Con.r c])))))))] ?_
          refine CG.condT (show (iLt (Int.ofNat i) (Int.ofNat (List.length (List.map Ty.enc (Con.gs c ++ [Con.r c]))))) = true from t_lt (by (try simp only [zz] at *) <;> omega)) (by kernel_rfl) ?_
          refine s1 hW 5 1 [] 1023 [(59, (no i))] ?_
          refine CG.ix (idx_map (enc := Ty.enc) hx) rfl (by kernel_rfl) ?_
          refine s4 hW 12 0 [] 1023 [(10, (no i)), (11, (.ptr 3 3 0)), (13, (.ptr 4 3 0)), (14, (bo (List.any bs id))), (71, (bo (!iEq (Int.ofNat i) (Int.ofNat (List.length (List.map Ty.enc (Con.gs c)))))))] [(3, (.cells [(so (Ty.elem x)), (so (Ty.row x)), (lo Lin.enc (Ty.dims x))])), (4, (.cells [(so (Ty.elem (Con.x c))), (so (Ty.row (Con.x c))), (lo Lin.enc (Ty.dims (Con.x c)))]))] ?_
          have q31 : (iEq (Int.ofNat i) (Int.ofNat (List.length (List.map Ty.enc (Con.gs c))))) = false := f_eq (by (try simp only [zz] at *) <;> omega)
          refine CG.condT (b := (!iEq (Int.ofNat i) (Int.ofNat (List.length (List.map Ty.enc (Con.gs c)))))) (by rw [q31]; rfl) (by kernel_rfl) ?_
          refine CG.drawW orders (by kernel_rfl) ?_
          refine AW.rk 3 [(72, (.ptr 0 18 9)), (73, (lo Ty.enc (Con.ws c))), (74, (no i))] [] (by kernel_rfl) ?_
          refine AW.idx (idx_map (enc := Ty.enc) hw) rfl (by kernel_rfl) (by kernel_rfl) (by kernel_rfl) rfl ?_
          refine AW.rk 3 [(76, (.agg [(so (Ty.elem w)), (so (Ty.row w)), (lo Lin.enc (Ty.dims w))])), (77, (lo encB bs)), (78, (no i))] [] (by kernel_rfl) ?_
          refine AW.idx (idx_map (enc := encB) hb) rfl (by kernel_rfl) (by kernel_rfl) (by kernel_rfl) rfl ?_
          refine AW.rk 3 [(14, (bo true)), (80, (bo true))] [(4, (.cells [(so (Ty.elem w)), (so (Ty.row w)), (lo Lin.enc (Ty.dims w))]))] (by kernel_rfl) ?_
          refine AW.nil rfl ⟨by kernel_rfl, AW.fin (H2 := [some (.cells (Con.cells c)), some (.cells [(so row), (lo Lin.enc dims)]), some (rowE encP a), some (.cells [(so (Ty.elem x)), (so (Ty.row x)), (lo Lin.enc (Ty.dims x))]), some (.cells [(so (Ty.elem w)), (so (Ty.row w)), (lo Lin.enc (Ty.dims w))])]) 5 [2, 3, 4, 6, 7, 8, 9, 11, 13, 14, 55, 56, 57] (by kernel_rfl) rfl (by kernel_rfl) (by kernel_rfl) (by simp [nn, heapLt, boxLt_row, boxLt_cell, boxLt_cs, boxLt_nil, refsLtL, refsLt, Con.cells]) ?_⟩
          refine s1 hW 10 2 [true] 7679 [(15, (io 0)), (83, (.agg [(so row), (lo Lin.enc dims)])), (84, (.agg [(so (Ty.elem w)), (so (Ty.row w)), (lo Lin.enc (Ty.dims w))]))] ?_
          refine CG.pg (hl) rfl (by kernel_rfl) ?_
          refine s4 hW 9 0 [true] 7663 [(7, (io 3))] [(4, (.cells [(so (Ty.elem { elem := Ty.elem w, row := [], dims := [] })), (so []), (.d (.list []))]))] ?_
          refine CG.retL (v' := (.tuple [(.d (.list [])), (io 3)])) (by kernel_rfl) ?_
          rotate_left
          rw [hinv]; rfl
    · have hi : i = c.gs.length := by omega
      have hw : (c.ws ++ [c.x])[i]? = some c.x := by rw [hi, hlen]; simp
      have hb : (bs ++ [bs.any id])[i]? = some (bs.any id) := by rw [hi, ← hbl]; simp
      have hwl := hs.x.1
      rw [drop_at hw, drop_at hb, prs] at hinv
      cases hany : bs.any id with
      | false =>
        rw [hany] at hinv
        refine s1 hW 4 0 [] 1023 [(58, (bo (iLt (Int.ofNat i) (Int.ofNat (List.length (List.map Ty.enc (Con.gs c ++ [Con.r c])))))))] ?_
        refine CG.condT (show (iLt (Int.ofNat i) (Int.ofNat (List.length (List.map Ty.enc (Con.gs c ++ [Con.r c]))))) = true from t_lt (by (try simp only [zz] at *) <;> omega)) (by kernel_rfl) ?_
        refine s1 hW 5 1 [] 1023 [(59, (no i))] ?_
        refine CG.ix (idx_map (enc := Ty.enc) hx) rfl (by kernel_rfl) ?_
        refine s4 hW 12 0 [] 1023 [(10, (no i)), (11, (.ptr 3 3 0)), (13, (.ptr 4 3 0)), (14, (bo false)), (71, (bo (!iEq (Int.ofNat i) (Int.ofNat (List.length (List.map Ty.enc (Con.gs c)))))))] [(3, (.cells [(so (Ty.elem x)), (so (Ty.row x)), (lo Lin.enc (Ty.dims x))])), (4, (.cells [(so (Ty.elem (Con.x c))), (so (Ty.row (Con.x c))), (lo Lin.enc (Ty.dims (Con.x c)))]))] ?_
        have q28 : (iEq (Int.ofNat i) (Int.ofNat (List.length (List.map Ty.enc (Con.gs c))))) = true := t_eq (by (try simp only [zz] at *) <;> omega)
        refine CG.condF (b := (!iEq (Int.ofNat i) (Int.ofNat (List.length (List.map Ty.enc (Con.gs c)))))) (by rw [q28]; rfl) (by kernel_rfl) ?_
        refine s1 hW 9 5 [false] 14463 [(91, (.sl 2 (List.length a * 6) 0 (List.length a) 6)), (95, (.d (.list [[(.str (Ty.elem x)), (.str (Ty.row x)), (.list (List.map Lin.enc (Ty.dims x))), (.str (Ty.elem (Con.x c))), (.str (Ty.row (Con.x c))), (.list (List.map Lin.enc (Ty.dims (Con.x c))))]])))] ?_
        refine CG.apE encP a (((x, c.8)) :: []) 2 (fun _ => rfl) rfl (by kernel_rfl) (by kernel_rfl) (by (try simp only [zz] at *) <;> omega) ?_
        refine s3 hW 3 2 [] [(2, (lo encB bs)), (3, (.ptr 0 18 0)), (4, (.ptr 1 2 0)), (6, .nils), (7, (io 0)), (8, (bo false)), (9, (.sl 2 (List.length (a ++ [(x, Con.x c)]) * 6) 0 (List.length (a ++ [(x, Con.x c)])) 6)), (55, (lo Ty.enc (Con.gs c ++ [Con.r c]))), (56, (no (List.length (List.map Ty.enc (Con.gs c ++ [Con.r c]))))), (57, (io (wrapF IntKind.i64 (iAdd (Int.ofNat i) 1))))] ([some (.cells (Con.cells c)), some (.cells [(so row), (lo Lin.enc dims)]), some (rowE encP (a ++ [(x, Con.x c)])), some (.cells [(so (Ty.elem x)), (so (Ty.row x)), (lo Lin.enc (Ty.dims x))]), some (.cells [(so (Ty.elem (Con.x c))), (so (Ty.row (Con.x c))), (lo Lin.enc (Ty.dims (Con.x c)))])]) ?_
        refine CG.endL rfl ?_
        rw [wrapI (by omega)]
        rotate_left
        exact ⟨a ++ [(x, c.x)], ⟨hinv, by simp [ha]⟩, Tidy.trim 3 [2, 3, 4, 6, 7, 8, 9, 55, 56, 57] rfl rfl rfl rfl (by simp only [List.take_succ_cons, List.take_zero, heapLt, boxLt_row]; rfl)⟩
      | true =>
        rw [hany] at hinv
        by_cases h6 : dims.length + c.x.dims.length ≤ 6
        · have hl := pc_lift hW row dims c.x hs.dims hs.x hs.row hp.shp hp.xshp hp.xrow h6
          unfold outT at hl
          rw [show liftB row dims c.x true = some ⟨c.x.elem, row, dims ++ c.x.dims⟩ from by simp [liftB, h6]] at hinv
          refine s1 hW 4 0 [] 1023 [(58, (bo (iLt (Int.ofNat i) (Int.ofNat (List.length (List.map Ty.enc (Con.gs c ++ [Con.r c])))))))] ?_
          refine CG.condT (show (iLt (Int.ofNat i) (Int.ofNat (List.length (List.map Ty.enc (Con.gs c ++ [Con.r c]))))) = true from t_lt (by (try simp only [zz] at *) <;> omega)) (by kernel_rfl) ?_
          refine s1 hW 5 1 [] 1023 [(59, (no i))] ?_
          refine CG.ix (idx_map (enc := Ty.enc) hx) rfl (by kernel_rfl) ?_
          refine s4 hW 12 0 [] 1023 [(10, (no i)), (11, (.ptr 3 3 0)), (13, (.ptr 4 3 0)), (14, (bo true)), (71, (bo (!iEq (Int.ofNat i) (Int.ofNat (List.length (List.map Ty.enc (Con.gs c)))))))] [(3, (.cells [(so (Ty.elem x)), (so (Ty.row x)), (lo Lin.enc (Ty.dims x))])), (4, (.cells [(so (Ty.elem (Con.x c))), (so (Ty.row (Con.x c))), (lo Lin.enc (Ty.dims (Con.x c)))]))] ?_
          have q30 : (iEq (Int.ofNat i) (Int.ofNat (List.length (List.map Ty.enc (Con.gs c))))) = true := t_eq (by (try simp only [zz] at *) <;> omega)
          refine CG.condF (b := (!iEq (Int.ofNat i) (Int.ofNat (List.length (List.map Ty.enc (Con.gs c)))))) (by rw [q30]; rfl) (by kernel_rfl) ?_
          refine s1 hW 11 2 [true] 15231 [(15, (io 0)), (83, (.agg [(so row), (lo Lin.enc dims)])), (84, (.agg [(so (Ty.elem (Con.x c))), (so (Ty.row (Con.x c))), (lo Lin.enc (Ty.dims (Con.x c)))]))] ?_
          refine CG.pg (hl) rfl (by kernel_rfl) ?_
          refine s4 hW 8 5 [false] 7295 [(91, (.sl 2 (List.length a * 6) 0 (List.length a) 6)), (95, (.d (.list [[(.str (Ty.elem x)), (.str (Ty.row x)), (.list (List.map Lin.enc (Ty.dims x))), (.str (Ty.elem { elem := Ty.elem (Con.x c), row := row, dims := dims ++ Ty.dims (Con.x c) })), (.str (Ty.row { elem := Ty.elem (Con.x c), row := row, dims := dims ++ Ty.dims (Con.x c) })), (.list (List.map Lin.enc (Ty.dims { elem := Ty.elem (Con.x c), row := row, dims := dims ++ Ty.dims (Con.x c) })))]])))] [(4, (.cells [(so (Ty.elem { elem := Ty.elem (Con.x c), row := row, dims := dims ++ Ty.dims (Con.x c) })), (so (Ty.row { elem := Ty.elem (Con.x c), row := row, dims := dims ++ Ty.dims (Con.x c) })), (lo Lin.enc (Ty.dims { elem := Ty.elem (Con.x c), row := row, dims := dims ++ Ty.dims (Con.x c) }))]))] ?_
          refine CG.apE encP a (((x, { elem := Ty.elem (Con.x c), row := row, dims := dims ++ Ty.dims (Con.x c) })) :: []) 2 (fun _ => rfl) rfl (by kernel_rfl) (by kernel_rfl) (by (try simp only [zz] at *) <;> omega) ?_
          refine s3 hW 3 2 [] [(2, (lo encB bs)), (3, (.ptr 0 18 0)), (4, (.ptr 1 2 0)), (6, .nils), (7, (io 0)), (8, (bo true)), (9, (.sl 2 (List.length (a ++ [(x, { elem := Ty.elem (Con.x c), row := row, dims := dims ++ Ty.dims (Con.x c) })]) * 6) 0 (List.length (a ++ [(x, { elem := Ty.elem (Con.x c), row := row, dims := dims ++ Ty.dims (Con.x c) })])) 6)), (55, (lo Ty.enc (Con.gs c ++ [Con.r c]))), (56, (no (List.length (List.map Ty.enc (Con.gs c ++ [Con.r c]))))), (57, (io (wrapF IntKind.i64 (iAdd (Int.ofNat i) 1))))] ([some (.cells (Con.cells c)), some (.cells [(so row), (lo Lin.enc dims)]), some (rowE encP (a ++ [(x, { elem := Ty.elem (Con.x c), row := row, dims := dims ++ Ty.dims (Con.x c) })])), some (.cells [(so (Ty.elem x)), (so (Ty.row x)), (lo Lin.enc (Ty.dims x))]), some (.cells [(so (Ty.elem { elem := Ty.elem (Con.x c), row := row, dims := dims ++ Ty.dims (Con.x c) })), (so (Ty.row { elem := Ty.elem (Con.x c), row := row, dims := dims ++ Ty.dims (Con.x c) })), (lo Lin.enc (Ty.dims { elem := Ty.elem (Con.x c), row := row, dims := dims ++ Ty.dims (Con.x c) }))])]) ?_
          refine CG.endL rfl ?_
          rw [wrapI (by omega)]
          rotate_left
          exact ⟨a ++ [(x, ⟨c.x.elem, row, dims ++ c.x.dims⟩)], ⟨hinv, by simp [ha]⟩, Tidy.trim 3 [2, 3, 4, 6, 7, 8, 9, 55, 56, 57] rfl rfl rfl rfl (by simp only [List.take_succ_cons, List.take_zero, heapLt, boxLt_row]; rfl)⟩
        · have hl := pc_liftX hW row dims c.x hs.dims hs.x hs.row hp.shp hp.xshp hp.xrow (by omega)
          unfold outT at hl
          rw [show liftB row dims c.x true = none from by simp [liftB, h6]] at hinv
          refine s1 hW 4 0 [] 1023 [(58, (bo (iLt (Int.ofNat i) (Int.ofNat (List.length (List.map Ty.enc (Con.gs c ++ [Con.r c])))))))] ?_
          refine CG.condT (show (iLt (Int.ofNat i) (Int.ofNat (List.length (List.map Ty.enc (Con.gs c ++ [Con.r c]))))) = true from t_lt (by (try simp only [zz] at *) <;> omega)) (by kernel_rfl) ?_
          refine s1 hW 5 1 [] 1023 [(59, (no i))] ?_
          refine CG.ix (idx_map (enc := Ty.enc) hx) rfl (by kernel_rfl) ?_
          refine s4 hW 12 0 [] 1023 [(10, (no i)), (11, (.ptr 3 3 0)), (13, (.ptr 4 3 0)), (14, (bo true)), (71, (bo (!iEq (Int.ofNat i) (Int.ofNat (List.length (List.map Ty.enc (Con.gs c)))))))] [(3, (.cells [(so (Ty.elem x)), (so (Ty.row x)), (lo Lin.enc (Ty.dims x))])), (4, (.cells [(so (Ty.elem (Con.x c))), (so (Ty.row (Con.x c))), (lo Lin.enc (Ty.dims (Con.x c)))]))] ?_
          have q30 : (iEq (Int.ofNat i) (Int.ofNat (List.length (List.map Ty.enc (Con.gs c))))) = true := t_eq (by (try simp only [zz] at *) <;> omega)
          refine CG.condF (b := (!iEq (Int.ofNat i) (Int.ofNat (List.length (List.map Ty.enc (Con.gs c)))))) (by rw [q30]; rfl) (by kernel_rfl) ?_
          refine s1 hW 11 2 [true] 15231 [(15, (io 0)), (83, (.agg [(so row), (lo Lin.enc dims)])), (84, (.agg [(so (Ty.elem (Con.x c))), (so (Ty.row (Con.x c))), (lo Lin.enc (Ty.dims (Con.x c)))]))] ?_
          refine CG.pg (hl) rfl (by kernel_rfl) ?_
          refine s4 hW 9 0 [true] 7663 [(7, (io 3))] [(4, (.cells [(so (Ty.elem { elem := Ty.elem (Con.x c), row := [], dims := [] })), (so []), (.d (.list []))]))] ?_
          refine CG.retL (v' := (.tuple [(.d (.list [])), (io 3)])) (by kernel_rfl) ?_
          rotate_left
          rw [hinv]; rfl
theorem pc_pairs (hW : W0 W) (c : Con) (row : List UInt8) (dims : List Lin) (bs : List Bool) (hs : Okc c row dims bs) : PC P (gl W) 23 [.agg (Con.cells c), vS row dims, .d (.list (bs.map encB))] (pairsV c row dims bs) := by
  refine CG.start is23 ca23 rfl ?_
  have hbl := hs.bs
  have hgl := hs.sm.gl
  have k1 := pc_shp hW row dims hs.row (by have := hs.dims.1; omega) (fun x hx => (hs.dims.2 x hx).1)
  have k2 : ∀ h, PC P (gl W) 60 [.d (.list [[.list (c.gs.map Ty.enc)], [.list ([c.r].map Ty.enc)]])] (.d (.list ((c.gs ++ [c.r]).map Ty.enc))) := fun h => pc_catT hW c.gs [c.r] h (by simp)
  refine s4 hW 4 1 [] 4 [(3, (.ptr 0 18 0)), (4, (.ptr 1 2 0)), (6, .nils), (7, (io 0)), (16, (lo encB bs))] [(0, (.cells (Con.cells c))), (1, (.cells [(so row), (lo Lin.enc dims)]))] ?_
  refine CG.pg (pc_contB hW bs hbl) rfl (by kernel_rfl) ?_
  refine s1 hW 4 1 [] 31 [(8, (bo (List.any bs id))), (18, (.agg (Con.cells c)))] ?_
  refine CG.pg (pc_con hW c hs.sm) rfl (by kernel_rfl) ?_
  refine s1 hW 0 2 [] 63 [(21, (bo (!conB c)))] ?_
  refine sp (conB c) (fun q12 => ?_) (fun q12 => ?_)
  rw [q12]
  refine s1 hW 0 1 [] 127 [(22, (.agg [(so row), (lo Lin.enc dims)]))] ?_
  refine CG.pg (k1) rfl (by kernel_rfl) ?_
  refine s1 hW 0 3 [] 63 [(26, (bo (!shpB row dims)))] ?_
  refine sp (shpB row dims) (fun q13 => ?_) (fun q13 => ?_)
  rw [q13]
  refine s1 hW 0 8 [] 63 [(34, (bo (!iEq (Int.ofNat (List.length (List.map encB bs))) (Int.ofNat (List.length (List.map Ty.enc (Con.gs c)))))))] ?_
  refine spEqN (List.length (List.map encB bs)) (List.length (List.map Ty.enc (Con.gs c))) (fun q15 p15 => ?_) (fun q15 p15 => ?_) <;> simp only [zz] at p15
  rw [q15]
  refine s1 hW 0 3 [] 127 [(37, (bo (!List.any bs id)))] ?_
  refine sp (List.any bs id) (fun q16 => ?_) (fun q16 => ?_)
  rw [q16]
  refine s1 hW 10 6 [false] 63 [(9, .nils), (54, (.d (.list [[(.list (List.map Ty.enc (Con.gs c)))], [(.list [[(.str (Ty.elem (Con.r c))), (.str (Ty.row (Con.r c))), (.list (List.map Lin.enc (Ty.dims (Con.r c))))]])]])))] ?_
  rotate_left
  rw [q16]
  refine s1 hW 0 4 [] 255 [(41, (bo (!bytesEq row [])))] ?_
  refine sp (bytesEq row []) (fun q17 => ?_) (fun q17 => ?_)
  rw [q17]
  refine s1 hW 2 0 [] 63 [(48, (bo (iLt 0 (Int.ofNat (List.length (List.map Lin.enc dims))))))] ?_
  refine spLtN 0 (List.length (List.map Lin.enc dims)) (fun q18 p18 => ?_) (fun q18 p18 => ?_) <;> simp only [zz] at p18
  refine CG.condT (show (iLt 0 (Int.ofNat (List.length (List.map Lin.enc dims)))) = true from t_lt (by (try simp only [zz] at *) <;> omega)) (by kernel_rfl) ?_
  refine s1 hW 3 0 [] 47 [(7, (io 1))] ?_
  refine CG.ret (v' := (.tuple [(.d (.list [])), (io 1)])) (by kernel_rfl) ?_
  rotate_left
  refine CG.condF (show (iLt 0 (Int.ofNat (List.length (List.map Lin.enc dims)))) = false from f_lt (by (try simp only [zz] at *) <;> omega)) (by kernel_rfl) ?_
  refine s1 hW 7 6 [] 63 [(9, .nils), (54, (.d (.list [[(.list (List.map Ty.enc (Con.gs c)))], [(.list [[(.str (Ty.elem (Con.r c))), (.str (Ty.row (Con.r c))), (.list (List.map Lin.enc (Ty.dims (Con.r c))))]])]])))] ?_
  rotate_left
  rw [q17]
  refine s1 hW 6 0 [true] 47 [(7, (io 1))] ?_
  refine CG.ret (v' := (.tuple [(.d (.list [])), (io 1)])) (by kernel_rfl) ?_
  rotate_left
  rw [q15]
  refine s1 hW 6 0 [true] 47 [(7, (io 1))] ?_
  refine CG.ret (v' := (.tuple [(.d (.list [])), (io 1)])) (by kernel_rfl) ?_
  rotate_left
  rw [q13]
  refine s1 hW 6 0 [true] 47 [(7, (io 1))] ?_
  refine CG.ret (v' := (.tuple [(.d (.list [])), (io 1)])) (by kernel_rfl) ?_
  rotate_left
  rw [q12]
  refine s1 hW 6 0 [true] 47 [(7, (io 1))] ?_
  refine CG.ret (v' := (.tuple [(.d (.list [])), (io 1)])) (by kernel_rfl) ?_
  rotate_left
  · have hp : Okp c row dims bs := okp_of (by assumption) (by assumption) (by omega)
    have hle := hp.le
    have hnb : badP c row dims bs = false := by
      have hl : bs.length = c.gs.length := hp.bsl
      simp [badP, *]
    have h3 := k2 (by omega)
    rw [pairsV, hnb, cond_false]
    refine CG.pg (h3) rfl (by kernel_rfl) ?_
    refine s1 hW 3 0 [] 383 [(56, (no (List.length (List.map Ty.enc (Con.gs c ++ [Con.r c]))))), (57, (io 0))] ?_
    rotate_left
    refine CG.keep rfl [2, 3, 4, 6, 7, 8, 9, 55, 56, 57] ?_
    refine CG.is [(2, (lo encB bs)), (3, (.ptr 0 18 0)), (4, (.ptr 1 2 0)), (6, .nils), (7, (io 0)), (8, (bo true)), (9, .nils), (55, (lo Ty.enc (Con.gs c ++ [Con.r c]))), (56, (no (List.length (List.map Ty.enc (Con.gs c ++ [Con.r c]))))), (57, (io 0))] ([some (.cells (Con.cells c)), some (.cells [(so row), (lo Lin.enc dims)])]) (by kernel_rfl) ?_
    have h4 := pr_loop hW c row dims bs hs hp
    rw [show bs.any id = true by assumption] at h4
    exact h4
  · have hl2 : ¬ dims.length = 0 := by omega
    have hb : badP c row dims bs = true := by
      simp [badP, shEq_nil, *] at hl2 ⊢
    rw [pairsV, hb]; rfl
  · have hp : Okp c row dims bs := okp_of (by assumption) (by assumption) (by omega)
    have hle := hp.le
    have hnb : badP c row dims bs = false := by
      have hl : bs.length = c.gs.length := hp.bsl
      have hl2 : dims.length = 0 := by omega
      simp [badP, shEq_nil, *]
    have h3 := k2 (by omega)
    rw [pairsV, hnb, cond_false]
    refine CG.pg (h3) rfl (by kernel_rfl) ?_
    refine s1 hW 3 0 [] 383 [(56, (no (List.length (List.map Ty.enc (Con.gs c ++ [Con.r c]))))), (57, (io 0))] ?_
    rotate_left
    refine CG.keep rfl [2, 3, 4, 6, 7, 8, 9, 55, 56, 57] ?_
    refine CG.is [(2, (lo encB bs)), (3, (.ptr 0 18 0)), (4, (.ptr 1 2 0)), (6, .nils), (7, (io 0)), (8, (bo false)), (9, .nils), (55, (lo Ty.enc (Con.gs c ++ [Con.r c]))), (56, (no (List.length (List.map Ty.enc (Con.gs c ++ [Con.r c]))))), (57, (io 0))] ([some (.cells (Con.cells c)), some (.cells [(so row), (lo Lin.enc dims)])]) (by kernel_rfl) ?_
    have h4 := pr_loop hW c row dims bs hs hp
    rw [show bs.any id = false by assumption] at h4
    exact h4
  all_goals
    have hb : badP c row dims bs = true := by
      first
        | (simp [badP, shEq_nil, *]; done)
        | (have hl2 : ¬ dims.length = 0 := by omega
           simp [badP, shEq_nil, *]; done)
        | (have hl2 : ¬ bs.length = c.gs.length := by omega
           simp [badP, shEq_nil, *]; done)
    rw [pairsV, hb]; rfl
end Fw.Tz.Pd
