/-
  Schemes: the guards of the law, and what both sides say of any scheme's validity.
-/
import Derived.Test.YtonjnjkdebpilaaGreatDoorTe
import Derived.Test.YtonjnjkdebpilaaGreatDoorTd
import Derived.Test.YtonjnjkdebpilaaGreatDoorFh
import Derived.Test.YtonjnjkdebpilaaGreatDoorFg

set_option linter.unusedSimpArgs false
set_option maxRecDepth 1000000
set_option maxHeartbeats 4000000
namespace Fw.Tz.Ga
open Go Go.Proofs Fw.X Fw.Tz Fw.Nu Fw.Tz.Sd Fw.Tz.Na Fw.Tz.El Fw.Tz.Va Fw.Tz.Vb
variable {W : World}
structure Sch where
  ps : List Ty
  r : Ty
  wh : List Lin
abbrev vT (t : Ty) : V := .agg [.d (.str t.elem), .d (.str t.row), .d (.list (t.dims.map Lin.enc))]
abbrev vL (x : Lin) : V := .agg [.d (.int .i64 x.c), .d (.list (x.ts.map Cf.enc))]
abbrev vSc (s : Sch) : V := .agg [.d (.list (s.ps.map Ty.enc)), .d (.str s.r.elem), .d (.str s.r.row), .d (.list (s.r.dims.map Lin.enc)), .d (.list (s.wh.map Lin.enc))]
def Ty.sm (t : Ty) : Prop := t.elem.length < 1099511627776 ∧ t.row.length < 1099511627776 ∧ t.dims.length < 1048577 ∧ ∀ x ∈ t.dims, Lin.sm x
structure Sch.sm (s : Sch) : Prop where
  pl : s.ps.length < 1048577
  wl : s.wh.length < 1048577
  p : ∀ t ∈ s.ps, Ty.sm t
  r : Ty.sm s.r
  w : ∀ x ∈ s.wh, Lin.sm x
theorem Sch.sm.t {s : Sch} (h : Sch.sm s) : ∀ t ∈ s.ps ++ [s.r], Ty.sm t := by
  intro t ht
  rcases List.mem_append.1 ht with h1 | h1
  · exact h.p t h1
  · rw [List.mem_singleton.1 h1]; exact h.r
def few40 (t : Cf) : Bool := decide (t.var.length ≤ 40)
def few14 (x : Lin) : Bool := x.ts.all few40 && decide (x.ts.length ≤ 14)
def fewV (t : Cf) : Bool := decide (t.var.length ≤ 35)
def fewL (x : Lin) : Bool := x.ts.all fewV && decide (x.ts.length ≤ 14)
def fewS (row : List UInt8) (dims : List Lin) : Bool := dims.all fewL && decide (dims.length ≤ 8) && decide (row.length ≤ 35)
def fewT (t : Ty) : Bool := decide (t.elem.length ≤ 35) && fewS t.row t.dims
def fewSch (s : Sch) : Bool := (s.ps ++ [s.r]).all fewT && fewS [] (s.wh.take 8) && decide (s.ps.length ≤ 13) && (decide (s.wh.length ≤ 8) || decide (s.wh.length = 61))
theorem pc_few14 (hW : W0 W) (x : Lin) (hs : Lin.sm x) : PC P (gl W) 5 [vL x, .d (.int .i64 14)] (.d (.bool (few14 x))) := by
  refine CG.start is5 ca5 rfl ?_
  have hl : x.ts.length < 1099511627776 := hs.1
  refine s4 hW 8 0 [] 2 [(2, (.ptr 0 2 0)), (4, (bo false)), (5, (io 0))] [(0, (.cells [(io (Lin.c x)), (lo Cf.enc (Lin.ts x))]))] ?_
  rotate_left
  refine CG.loopL x.ts (fun i u => [(1, (io 14)), (2, (.ptr 0 2 0)), (4, (bo false)), (5, .d (.int .i64 (.ofNat i)))]) (fun i u => [some (.cells [(io (Lin.c x)), (lo Cf.enc (Lin.ts x))])]) (fun i u r => (x.ts.all few40 = r.all few40)) () ?_ (Tidy.refl _ _) ?_ ?_
  · rfl
  · intro i u hi hd hinv
    refine s1 hW 4 0 [] 15 [(10, (bo (iLt (Int.ofNat i) (Int.ofNat (List.length (List.map Cf.enc (Lin.ts x)))))))] ?_
    refine CG.condF (show (iLt (Int.ofNat i) (Int.ofNat (List.length (List.map Cf.enc (Lin.ts x))))) = false from f_lt (by (try simp only [zz] at *) <;> omega)) (by kernel_rfl) ?_
    refine CG.exitL (by decide) ?_
    refine s1 hW 5 0 [] 0 [(4, (bo (!iLt 14 (Int.ofNat (List.length (List.map Cf.enc (Lin.ts x)))))))] ?_
    refine CG.ret (v' := (bo (!iLt 14 (Int.ofNat (List.length (List.map Cf.enc (Lin.ts x))))))) (by kernel_rfl) ?_
    rotate_left
    rw [few14, hinv, iLt_eq, List.length_map, V.d.injEq, D.bool.injEq, Bool.eq_iff_iff]; simp; omega
  · intro i u t r hdr hx hlt hinv
    rw [List.all_cons] at hinv
    refine s1 hW 4 0 [] 15 [(10, (bo (iLt (Int.ofNat i) (Int.ofNat (List.length (List.map Cf.enc (Lin.ts x)))))))] ?_
    refine CG.condT (show (iLt (Int.ofNat i) (Int.ofNat (List.length (List.map Cf.enc (Lin.ts x))))) = true from t_lt (by (try simp only [zz] at *) <;> omega)) (by kernel_rfl) ?_
    refine s1 hW 5 3 [] 15 [(14, (lo Cf.enc (Lin.ts x))), (15, (no i))] ?_
    refine CG.ix (idx_map (enc := Cf.enc) hx) rfl (by kernel_rfl) ?_
    refine s1 hW 2 0 [] 15 [(20, (bo (iLt 40 (Int.ofNat (List.length (Cf.var t))))))] ?_
    refine spLtN 40 (List.length (Cf.var t)) (fun q14 p14 => ?_) (fun q14 p14 => ?_)
    refine CG.condT (show (iLt 40 (Int.ofNat (List.length (Cf.var t)))) = true from t_lt (by (try simp only [zz] at *) <;> omega)) (by kernel_rfl) ?_
    refine s1 hW 3 0 [] 15 [] ?_
    refine CG.retL (v' := (bo false)) (by kernel_rfl) ?_
    rotate_left
    refine CG.condF (show (iLt 40 (Int.ofNat (List.length (Cf.var t)))) = false from f_lt (by (try simp only [zz] at *) <;> omega)) (by kernel_rfl) ?_
    refine s3 hW 3 3 [] [(1, (io 14)), (2, (.ptr 0 2 0)), (4, (bo false)), (5, (io (wrapF IntKind.i64 (iAdd (Int.ofNat i) 1))))] ([some (.cells [(io (Lin.c x)), (lo Cf.enc (Lin.ts x))])]) ?_
    refine CG.endL rfl ?_
    rw [wrapI (by omega)]
    rotate_left
    all_goals first
      | (refine ⟨(), ?_, Tidy.refl _ _⟩; rw [hinv, show few40 t = true from decide_eq_true (by omega)]; rfl)
      | (rw [few14, hinv, show few40 t = false from decide_eq_false (by omega)]; rfl)
theorem pc_fewL (hW : W0 W) (x : Lin) (hs : Lin.sm x) : PC P (gl W) 38 [vL x] (.d (.bool (fewL x))) := by
  refine CG.start is38 ca38 rfl ?_
  have hl : x.ts.length < 1099511627776 := hs.1
  refine s4 hW 8 0 [] 0 [(1, (.ptr 0 2 0)), (2, (bo false)), (3, (io 0))] [(0, (.cells [(io (Lin.c x)), (lo Cf.enc (Lin.ts x))]))] ?_
  rotate_left
  refine CG.loopL x.ts (fun i u => [(1, (.ptr 0 2 0)), (2, (bo false)), (3, .d (.int .i64 (.ofNat i)))]) (fun i u => [some (.cells [(io (Lin.c x)), (lo Cf.enc (Lin.ts x))])]) (fun i u r => (x.ts.all fewV = r.all fewV)) () ?_ (Tidy.refl _ _) ?_ ?_
  · rfl
  · intro i u hi hd hinv
    refine s1 hW 4 0 [] 7 [(8, (bo (iLt (Int.ofNat i) (Int.ofNat (List.length (List.map Cf.enc (Lin.ts x)))))))] ?_
    refine CG.condF (show (iLt (Int.ofNat i) (Int.ofNat (List.length (List.map Cf.enc (Lin.ts x))))) = false from f_lt (by (try simp only [zz] at *) <;> omega)) (by kernel_rfl) ?_
    refine CG.exitL (by decide) ?_
    refine s1 hW 5 0 [] 0 [(2, (bo (!iLt 14 (Int.ofNat (List.length (List.map Cf.enc (Lin.ts x)))))))] ?_
    refine CG.ret (v' := (bo (!iLt 14 (Int.ofNat (List.length (List.map Cf.enc (Lin.ts x))))))) (by kernel_rfl) ?_
    rotate_left
    rw [fewL, hinv, iLt_eq, List.length_map, V.d.injEq, D.bool.injEq, Bool.eq_iff_iff]; simp; omega
  · intro i u t r hdr hx hlt hinv
    rw [List.all_cons] at hinv
    refine s1 hW 4 0 [] 7 [(8, (bo (iLt (Int.ofNat i) (Int.ofNat (List.length (List.map Cf.enc (Lin.ts x)))))))] ?_
    refine CG.condT (show (iLt (Int.ofNat i) (Int.ofNat (List.length (List.map Cf.enc (Lin.ts x))))) = true from t_lt (by (try simp only [zz] at *) <;> omega)) (by kernel_rfl) ?_
    refine s1 hW 5 3 [] 7 [(12, (lo Cf.enc (Lin.ts x))), (13, (no i))] ?_
    refine CG.ix (idx_map (enc := Cf.enc) hx) rfl (by kernel_rfl) ?_
    refine s1 hW 2 0 [] 7 [(18, (bo (iLt 35 (Int.ofNat (List.length (Cf.var t))))))] ?_
    refine spLtN 35 (List.length (Cf.var t)) (fun q14 p14 => ?_) (fun q14 p14 => ?_)
    refine CG.condT (show (iLt 35 (Int.ofNat (List.length (Cf.var t)))) = true from t_lt (by (try simp only [zz] at *) <;> omega)) (by kernel_rfl) ?_
    refine s1 hW 3 0 [] 7 [] ?_
    refine CG.retL (v' := (bo false)) (by kernel_rfl) ?_
    rotate_left
    refine CG.condF (show (iLt 35 (Int.ofNat (List.length (Cf.var t)))) = false from f_lt (by (try simp only [zz] at *) <;> omega)) (by kernel_rfl) ?_
    refine s3 hW 3 3 [] [(1, (.ptr 0 2 0)), (2, (bo false)), (3, (io (wrapF IntKind.i64 (iAdd (Int.ofNat i) 1))))] ([some (.cells [(io (Lin.c x)), (lo Cf.enc (Lin.ts x))])]) ?_
    refine CG.endL rfl ?_
    rw [wrapI (by omega)]
    rotate_left
    all_goals first
      | (refine ⟨(), ?_, Tidy.refl _ _⟩; rw [hinv, show fewV t = true from decide_eq_true (by omega)]; rfl)
      | (rw [fewL, hinv, show fewV t = false from decide_eq_false (by omega)]; rfl)
theorem pc_fewS (hW : W0 W) (row : List UInt8) (dims : List Lin) (hl : dims.length < 1099511627776) (hd : ∀ x ∈ dims, Lin.sm x) : PC P (gl W) 16 [.agg [.d (.str row), .d (.list (dims.map Lin.enc))]] (.d (.bool (fewS row dims))) := by
  refine CG.start is16 ca16 rfl ?_
  refine s4 hW 8 0 [] 0 [(1, (.ptr 0 2 0)), (2, (bo false)), (3, (io 0))] [(0, (.cells [(so row), (lo Lin.enc dims)]))] ?_
  rotate_left
  refine CG.loopL dims (fun i u => [(1, (.ptr 0 2 0)), (2, (bo false)), (3, .d (.int .i64 (.ofNat i)))]) (fun i u => [some (.cells [(so row), (lo Lin.enc dims)])]) (fun i u r => (dims.all fewL = r.all fewL)) () ?_ (Tidy.refl _ _) ?_ ?_
  · rfl
  · intro i u hi hdr hinv
    refine s1 hW 4 0 [] 7 [(8, (bo (iLt (Int.ofNat i) (Int.ofNat (List.length (List.map Lin.enc dims))))))] ?_
    refine CG.condF (show (iLt (Int.ofNat i) (Int.ofNat (List.length (List.map Lin.enc dims)))) = false from f_lt (by (try simp only [zz] at *) <;> omega)) (by kernel_rfl) ?_
    refine CG.exitL (by decide) ?_
    refine s1 hW 3 5 [] 3 [(22, (bo (!iLt 8 (Int.ofNat (List.length (List.map Lin.enc dims))))))] ?_
    refine spLtN 8 (List.length (List.map Lin.enc dims)) (fun q13 p13 => ?_) (fun q13 p13 => ?_) <;> simp only [zz] at p13
    have q14 : (iLt 8 (Int.ofNat (List.length (List.map Lin.enc dims)))) = true := t_lt (by (try simp only [zz] at *) <;> omega)
    rw [q14]
    refine s1 hW 2 0 [] 2 [] ?_
    refine CG.ret (v' := (bo false)) (by kernel_rfl) ?_
    rotate_left
    have q15 : (iLt 8 (Int.ofNat (List.length (List.map Lin.enc dims)))) = false := f_lt (by (try simp only [zz] at *) <;> omega)
    rw [q15]
    refine s1 hW 2 0 [] 0 [(2, (bo (!iLt 35 (Int.ofNat (List.length row)))))] ?_
    refine CG.ret (v' := (bo (!iLt 35 (Int.ofNat (List.length row))))) (by kernel_rfl) ?_
    rotate_left
    all_goals first
      | (rw [fewS, decide_eq_false (by omega)]; simp; done)
      | (rw [fewS, hinv, decide_eq_true (by omega : dims.length ≤ 8), iLt_eq, V.d.injEq, D.bool.injEq, Bool.eq_iff_iff]; simp; omega)
  · intro i u x r hdr hx hlt hinv
    have hs := hd x (List.mem_of_getElem? hx)
    rw [List.all_cons] at hinv
    refine s1 hW 4 0 [] 7 [(8, (bo (iLt (Int.ofNat i) (Int.ofNat (List.length (List.map Lin.enc dims))))))] ?_
    refine CG.condT (show (iLt (Int.ofNat i) (Int.ofNat (List.length (List.map Lin.enc dims)))) = true from t_lt (by (try simp only [zz] at *) <;> omega)) (by kernel_rfl) ?_
    refine s1 hW 5 3 [] 7 [(12, (lo Lin.enc dims)), (13, (no i))] ?_
    refine CG.ix (idx_map (enc := Lin.enc) hx) rfl (by kernel_rfl) ?_
    refine s1 hW 0 1 [] 7 [(15, (.agg [(io (Lin.c x)), (lo Cf.enc (Lin.ts x))]))] ?_
    refine CG.pg (pc_fewL hW x hs) rfl (by kernel_rfl) ?_
    refine s1 hW 2 0 [] 7 [(17, (bo (!fewL x)))] ?_
    refine sp (fewL x) (fun q16 => ?_) (fun q16 => ?_)
    refine CG.condF (b := (!fewL x)) (by rw [q16]; rfl) (by kernel_rfl) ?_
    refine s3 hW 3 3 [] [(1, (.ptr 0 2 0)), (2, (bo false)), (3, (io (wrapF IntKind.i64 (iAdd (Int.ofNat i) 1))))] ([some (.cells [(so row), (lo Lin.enc dims)])]) ?_
    refine CG.endL rfl ?_
    rw [wrapI (by omega)]
    rotate_left
    refine CG.condT (b := (!fewL x)) (by rw [q16]; rfl) (by kernel_rfl) ?_
    refine s1 hW 3 0 [] 7 [] ?_
    refine CG.retL (v' := (bo false)) (by kernel_rfl) ?_
    rotate_left
    all_goals first
      | (refine ⟨(), ?_, Tidy.refl _ _⟩; rw [hinv, show fewL x = true by assumption]; rfl)
      | (rw [fewS, hinv, show fewL x = false by assumption]; rfl)
theorem pc_fewT (hW : W0 W) (t : Ty) (hs : Ty.sm t) : PC P (gl W) 15 [vT t] (.d (.bool (fewT t))) := by
  refine CG.start is15 ca15 rfl ?_
  have hF := pc_fewS hW t.row t.dims (Nat.lt_trans hs.2.2.1 (by omega)) hs.2.2.2
  refine s4 hW 4 5 [] 0 [(1, (.ptr 0 3 0)), (2, (bo false)), (7, (bo (!iLt 35 (Int.ofNat (List.length (Ty.elem t))))))] [(0, (.cells [(so (Ty.elem t)), (so (Ty.row t)), (lo Lin.enc (Ty.dims t))]))] ?_
  refine spLtN 35 (List.length (Ty.elem t)) (fun q7 p7 => ?_) (fun q7 p7 => ?_)
  have q8 : (iLt 35 (Int.ofNat (List.length (Ty.elem t)))) = true := t_lt (by (try simp only [zz] at *) <;> omega)
  rw [q8]
  refine s1 hW 2 0 [] 2 [] ?_
  refine CG.ret (v' := (bo false)) (by kernel_rfl) ?_
  rotate_left
  have q9 : (iLt 35 (Int.ofNat (List.length (Ty.elem t)))) = false := f_lt (by (try simp only [zz] at *) <;> omega)
  rw [q9]
  refine s1 hW 0 2 [] 6 [(9, (.agg [(so (Ty.row t)), (lo Lin.enc (Ty.dims t))]))] ?_
  refine CG.pg (hF) rfl (by kernel_rfl) ?_
  refine s1 hW 2 0 [] 0 [(2, (bo (fewS (Ty.row t) (Ty.dims t))))] ?_
  refine CG.ret (v' := (bo (fewS (Ty.row t) (Ty.dims t)))) (by kernel_rfl) ?_
  rotate_left
  all_goals first
    | (rw [fewT, decide_eq_true (by omega)]; rfl)
    | (rw [fewT, decide_eq_false (by omega)]; rfl)
theorem pc_all (hW : W0 W) (s : Sch) (hs : s.ps.length < 1048577) : PC P (gl W) 14 [vSc s] (.d (.list ((s.ps ++ [s.r]).map Ty.enc))) := by
  refine CG.start is14 ca14 rfl ?_
  refine s4 hW 4 0 [] 0 [(1, (.ptr 0 5 0)), (2, .nils)] [(0, (.cells [(lo Ty.enc (Sch.ps s)), (so (Ty.elem (Sch.r s))), (so (Ty.row (Sch.r s))), (lo Lin.enc (Ty.dims (Sch.r s))), (lo Lin.enc (Sch.wh s))]))] ?_
  refine CG.drawW orders (by kernel_rfl) ?_
  refine AW.rk 3 [(3, (.sl 1 0 0 0 3)), (4, (.ptr 0 5 0)), (5, (lo Ty.enc (Sch.ps s)))] [(1, (.cells []))] (by kernel_rfl) ?_
  rotate_left
  refine AW.appC Ty.enc [] s.ps (sz := 3) 1 (fun _ => rfl) rfl (by kernel_rfl) (sliceC_map (enc := Ty.enc) (sz := 3) (fun _ => rfl) _ s.ps) (by simp only [List.length_nil]; omega) ?_
  refine AW.rk 3 [(7, (.ptr 0 5 1)), (8, (.agg [(so (Ty.elem (Sch.r s))), (so (Ty.row (Sch.r s))), (lo Lin.enc (Ty.dims (Sch.r s)))])), (9, (.sl 7 3 0 1 3))] [(7, (.cells [(so (Ty.elem (Sch.r s))), (so (Ty.row (Sch.r s))), (lo Lin.enc (Ty.dims (Sch.r s)))]))] (by kernel_rfl) ?_
  rotate_left
  refine AW.appC Ty.enc ([] ++ s.ps) [s.r] (sz := 3) 1 (fun _ => rfl) rfl (by kernel_rfl) (by kernel_rfl) (by simp; omega) ?_
  refine AW.rk 1 [(2, (.sl 1 (List.length ([] ++ Sch.ps s ++ [Sch.r s]) * 3) 0 (List.length ([] ++ Sch.ps s ++ [Sch.r s])) 3))] [] (by kernel_rfl) ?_
  refine AW.nil rfl ⟨by kernel_rfl, AW.fin (H2 := [some (.cells [(lo Ty.enc (Sch.ps s)), (so (Ty.elem (Sch.r s))), (so (Ty.row (Sch.r s))), (lo Lin.enc (Ty.dims (Sch.r s))), (lo Lin.enc (Sch.wh s))]), some (cellE Ty.enc ([] ++ Sch.ps s ++ [Sch.r s]))] ++ nn 5 ([some (.cells [(so (Ty.elem (Sch.r s))), (so (Ty.row (Sch.r s))), (lo Lin.enc (Ty.dims (Sch.r s)))])])) 8 [2] (by kernel_rfl) rfl (by kernel_rfl) (by kernel_rfl) (by simp [nn, heapLt, boxLt_row, boxLt_cell, boxLt_cs, boxLt_nil, refsLtL, refsLt]) ?_⟩
  refine s1 hW 1 0 [] 1 [] ?_
  rotate_left
  refine CG.tidy (Tidy.frzC (sz := 3) Ty.enc ([] ++ Sch.ps s ++ [Sch.r s]) 1 2 (tm' := [(2, (.d (.list (List.map Ty.enc ([] ++ Sch.ps s ++ [Sch.r s])))))]) (H' := [some (.cells [(lo Ty.enc (Sch.ps s)), (so (Ty.elem (Sch.r s))), (so (Ty.row (Sch.r s))), (lo Lin.enc (Ty.dims (Sch.r s))), (lo Lin.enc (Sch.wh s))])] ++ nn 6 ([some (.cells [(so (Ty.elem (Sch.r s))), (so (Ty.row (Sch.r s))), (lo Lin.enc (Ty.dims (Sch.r s)))])])) (fun _ => rfl) (by kernel_rfl) (by kernel_rfl) ⟨.inr rfl, ⟨.inl rfl, ⟨.inr trivial, ⟨.inr trivial, ⟨.inr trivial, ⟨.inr trivial, ⟨.inr trivial, ⟨.inr rfl, trivial⟩⟩⟩⟩⟩⟩⟩⟩ (by kernel_rfl) (by kernel_rfl)) ?_
  refine CG.ret (v' := (lo Ty.enc ([] ++ Sch.ps s ++ [Sch.r s]))) (by kernel_rfl) ?_
  rfl
theorem pc_few (hW : W0 W) (s : Sch) (hs : Sch.sm s) : PC P (gl W) 6 [vSc s] (.d (.bool (fewSch s))) := by
  refine CG.start is6 ca6 rfl ?_
  have hpl := hs.pl
  have hwl := hs.wl
  have hA := pc_all hW s hs.pl
  have hF := pc_fewS hW [] (s.wh.take 8) (by rw [List.length_take]; omega) (fun x hx => hs.w x (List.mem_of_mem_take hx))
  refine s4 hW 4 1 [] 0 [(1, (.ptr 0 5 0)), (2, (bo false)), (6, (.agg [(lo Ty.enc (Sch.ps s)), (so (Ty.elem (Sch.r s))), (so (Ty.row (Sch.r s))), (lo Lin.enc (Ty.dims (Sch.r s))), (lo Lin.enc (Sch.wh s))]))] [(0, (.cells [(lo Ty.enc (Sch.ps s)), (so (Ty.elem (Sch.r s))), (so (Ty.row (Sch.r s))), (lo Lin.enc (Ty.dims (Sch.r s))), (lo Lin.enc (Sch.wh s))]))] ?_
  refine CG.pg (hA) rfl (by kernel_rfl) ?_
  refine s1 hW 7 0 [] 3 [(3, (lo Ty.enc (Sch.ps s ++ [Sch.r s]))), (4, (io 0))] ?_
  rotate_left
  refine CG.loopL (s.ps ++ [s.r]) (fun i u => [(1, (.ptr 0 5 0)), (2, (bo false)), (3, (lo Ty.enc (Sch.ps s ++ [Sch.r s]))), (4, .d (.int .i64 (.ofNat i)))]) (fun i u => [some (.cells [(lo Ty.enc (Sch.ps s)), (so (Ty.elem (Sch.r s))), (so (Ty.row (Sch.r s))), (lo Lin.enc (Ty.dims (Sch.r s))), (lo Lin.enc (Sch.wh s))])]) (fun i u r => ((s.ps ++ [s.r]).all fewT = r.all fewT)) () ?_ (Tidy.refl _ _) ?_ ?_
  · rfl
  · intro i u hi hdr hinv
    have ha : (s.ps ++ [s.r]).all fewT = true := hinv
    have e8 : s.wh.length ≤ 8 → s.wh.take 8 = s.wh := fun h => List.take_of_length_le h
    refine s1 hW 4 0 [] 15 [(11, (bo (iLt (Int.ofNat i) (Int.ofNat (List.length (List.map Ty.enc (Sch.ps s ++ [Sch.r s])))))))] ?_
    refine CG.condF (show (iLt (Int.ofNat i) (Int.ofNat (List.length (List.map Ty.enc (Sch.ps s ++ [Sch.r s]))))) = false from f_lt (by (try simp only [zz] at *) <;> omega)) (by kernel_rfl) ?_
    refine CG.exitL (by decide) ?_
    refine s1 hW 3 6 [] 3 [(21, (lo Lin.enc (Sch.wh s))), (25, (io (if false = true then if Int.ofNat (List.length (List.map Lin.enc (Sch.wh s))) < 8 then 8 else Int.ofNat (List.length (List.map Lin.enc (Sch.wh s))) else if 8 < Int.ofNat (List.length (List.map Lin.enc (Sch.wh s))) then 8 else Int.ofNat (List.length (List.map Lin.enc (Sch.wh s))))))] ?_
    rotate_left
    rw [if_neg Bool.false_ne_true]
    by_cases h8 : 8 < s.wh.length
    · rw [if_pos (show (8 : Int) < Int.ofNat (List.length (List.map Lin.enc s.wh)) by rw [List.length_map]; show (8 : Int) < ((s.wh.length : Nat) : Int); omega)]
      refine CG.lsl Lin.enc (Sch.wh s) 0 8 (fun _ => rfl) rfl (by kernel_rfl) (by kernel_rfl) (by kernel_rfl) (by kernel_rfl) (by (try simp only [zz] at *) <;> omega) rfl ?_
      refine s1 hW 0 1 [] 3 [(27, (.agg [(so []), (lo Lin.enc (List.drop 0 (List.take 8 (Sch.wh s))))]))] ?_
      refine CG.pg (hF) rfl (by kernel_rfl) ?_
      refine s1 hW 3 2 [] 3 [(30, (bo (fewS [] (List.take 8 (Sch.wh s)))))] ?_
      refine sp (fewS [] (List.take 8 (Sch.wh s))) (fun q17 => ?_) (fun q17 => ?_)
      rw [q17]
      refine s1 hW 0 6 [] 3 [(36, (bo (!iLt 13 (Int.ofNat (List.length (List.map Ty.enc (Sch.ps s)))))))] ?_
      refine spLtN 13 (List.length (List.map Ty.enc (Sch.ps s))) (fun q19 p19 => ?_) (fun q19 p19 => ?_) <;> simp only [zz] at p19
      have q20 : (iLt 13 (Int.ofNat (List.length (List.map Ty.enc (Sch.ps s))))) = true := t_lt (by (try simp only [zz] at *) <;> omega)
      rw [q20]
      refine s1 hW 2 0 [] 2 [] ?_
      refine CG.ret (v' := (bo false)) (by kernel_rfl) ?_
      rotate_left
      have q21 : (iLt 13 (Int.ofNat (List.length (List.map Ty.enc (Sch.ps s))))) = false := f_lt (by (try simp only [zz] at *) <;> omega)
      rw [q21]
      refine s1 hW 0 5 [] 7 [(41, (bo (!iLt 8 (Int.ofNat (List.length (List.map Lin.enc (Sch.wh s)))))))] ?_
      have q22 : (iLt 8 (Int.ofNat (List.length (List.map Lin.enc (Sch.wh s))))) = true := t_lt (by (try simp only [zz] at *) <;> omega)
      rw [q22]
      refine s1 hW 2 0 [] 0 [(2, (bo (iEq (Int.ofNat (List.length (List.map Lin.enc (Sch.wh s)))) 61)))] ?_
      refine CG.ret (v' := (bo (iEq (Int.ofNat (List.length (List.map Lin.enc (Sch.wh s)))) 61))) (by kernel_rfl) ?_
      rotate_left
      rw [q17]
      refine s1 hW 2 0 [] 2 [] ?_
      refine CG.ret (v' := (bo false)) (by kernel_rfl) ?_
      rotate_left
      all_goals (rw [fewSch, ha, V.d.injEq, D.bool.injEq, Bool.eq_iff_iff]; first | (simp [*]; done) | (simp [*]; omega) | (simp [*, iEq_eq]; omega))
    · rw [if_neg (show ¬ (8 : Int) < Int.ofNat (List.length (List.map Lin.enc s.wh)) by rw [List.length_map]; show ¬ (8 : Int) < ((s.wh.length : Nat) : Int); omega)]
      rw [e8 (by omega)] at hF
      refine CG.lsl Lin.enc (Sch.wh s) 0 (List.length (List.map Lin.enc (Sch.wh s))) (fun _ => rfl) rfl (by kernel_rfl) (by kernel_rfl) (by kernel_rfl) (by kernel_rfl) (by (try simp only [zz] at *) <;> omega) rfl ?_
      refine s1 hW 0 1 [] 3 [(27, (.agg [(so []), (lo Lin.enc (List.drop 0 (List.take (List.length (List.map Lin.enc (Sch.wh s))) (Sch.wh s))))]))] ?_
      rotate_left
      rw [show List.drop 0 (List.take (List.length (List.map Lin.enc s.wh)) s.wh) = s.wh by simp]
      refine CG.pg (hF) rfl (by kernel_rfl) ?_
      refine s1 hW 3 2 [] 3 [(30, (bo (fewS [] (Sch.wh s))))] ?_
      refine sp (fewS [] (Sch.wh s)) (fun q17 => ?_) (fun q17 => ?_)
      rw [q17]
      refine s1 hW 0 6 [] 3 [(36, (bo (!iLt 13 (Int.ofNat (List.length (List.map Ty.enc (Sch.ps s)))))))] ?_
      refine spLtN 13 (List.length (List.map Ty.enc (Sch.ps s))) (fun q19 p19 => ?_) (fun q19 p19 => ?_) <;> simp only [zz] at p19
      have q20 : (iLt 13 (Int.ofNat (List.length (List.map Ty.enc (Sch.ps s))))) = true := t_lt (by (try simp only [zz] at *) <;> omega)
      rw [q20]
      refine s1 hW 2 0 [] 2 [] ?_
      refine CG.ret (v' := (bo false)) (by kernel_rfl) ?_
      rotate_left
      have q21 : (iLt 13 (Int.ofNat (List.length (List.map Ty.enc (Sch.ps s))))) = false := f_lt (by (try simp only [zz] at *) <;> omega)
      rw [q21]
      refine s1 hW 0 5 [] 7 [(41, (bo (!iLt 8 (Int.ofNat (List.length (List.map Lin.enc (Sch.wh s)))))))] ?_
      have q22 : (iLt 8 (Int.ofNat (List.length (List.map Lin.enc (Sch.wh s))))) = false := f_lt (by (try simp only [zz] at *) <;> omega)
      rw [q22]
      refine s1 hW 2 0 [] 0 [(2, (bo true))] ?_
      refine CG.ret (v' := (bo true)) (by kernel_rfl) ?_
      rotate_left
      rw [q17]
      refine s1 hW 2 0 [] 2 [] ?_
      refine CG.ret (v' := (bo false)) (by kernel_rfl) ?_
      rotate_left
      all_goals (rw [fewSch, ha, e8 (by omega), V.d.injEq, D.bool.injEq, Bool.eq_iff_iff]; first | (simp [*]; done) | (simp [*]; omega) | (simp [*, iEq_eq]; omega))
  · intro i u t r hdr hx hlt hinv
    have ht := hs.t t (List.mem_of_getElem? hx)
    have hT := pc_fewT hW t ht
    rw [List.all_cons] at hinv
    simp only [List.length_append, List.length_singleton] at hlt
    refine s1 hW 4 0 [] 15 [(11, (bo (iLt (Int.ofNat i) (Int.ofNat (List.length (List.map Ty.enc (Sch.ps s ++ [Sch.r s])))))))] ?_
    refine CG.condT (show (iLt (Int.ofNat i) (Int.ofNat (List.length (List.map Ty.enc (Sch.ps s ++ [Sch.r s]))))) = true from t_lt (by (try simp only [zz] at *) <;> omega)) (by kernel_rfl) ?_
    refine s1 hW 5 2 [] 15 [(14, (lo Ty.enc (Sch.ps s ++ [Sch.r s]))), (15, (no i))] ?_
    refine CG.ix (idx_map (enc := Ty.enc) hx) rfl (by kernel_rfl) ?_
    refine s1 hW 0 1 [] 15 [(17, (.agg [(so (Ty.elem t)), (so (Ty.row t)), (lo Lin.enc (Ty.dims t))]))] ?_
    refine CG.pg (hT) rfl (by kernel_rfl) ?_
    refine s1 hW 2 0 [] 15 [(19, (bo (!fewT t)))] ?_
    refine sp (fewT t) (fun q19 => ?_) (fun q19 => ?_)
    refine CG.condF (b := (!fewT t)) (by rw [q19]; rfl) (by kernel_rfl) ?_
    refine s3 hW 3 3 [] [(1, (.ptr 0 5 0)), (2, (bo false)), (3, (lo Ty.enc (Sch.ps s ++ [Sch.r s]))), (4, (io (wrapF IntKind.i64 (iAdd (Int.ofNat i) 1))))] ([some (.cells [(lo Ty.enc (Sch.ps s)), (so (Ty.elem (Sch.r s))), (so (Ty.row (Sch.r s))), (lo Lin.enc (Ty.dims (Sch.r s))), (lo Lin.enc (Sch.wh s))])]) ?_
    refine CG.endL rfl ?_
    rw [wrapI (by omega)]
    rotate_left
    refine CG.condT (b := (!fewT t)) (by rw [q19]; rfl) (by kernel_rfl) ?_
    refine s1 hW 3 0 [] 15 [] ?_
    refine CG.retL (v' := (bo false)) (by kernel_rfl) ?_
    rotate_left
    all_goals first
      | (refine ⟨(), ?_, Tidy.refl _ _⟩; rw [hinv, show fewT t = true by assumption]; rfl)
      | (rw [fewSch, hinv, show fewT t = false by assumption]; rfl)
end Fw.Tz.Ga

/-
  Valid schemes: what both sides say of any.
-/
namespace Fw.Tz.Gb
open Go Go.Proofs Fw.X Fw.Tz Fw.Nu Fw.Tz.Sd Fw.Tz.Na Fw.Tz.El Fw.Tz.Va Fw.Tz.Vb Fw.Tz.Ga
variable {W : World}
def badT (t : Ty) : Bool := !tyB t
def schB (s : Sch) : Bool := decide (s.ps.length ≤ 12) && decide (s.wh.length ≤ 60) && s.ps.all tyB && tyB s.r && s.wh.all Lin.ok
theorem Ty.sm.d {t : Ty} (h : Ga.Ty.sm t) : t.dims.length < 1099511627776 := Nat.lt_trans h.2.2.1 (by omega)
theorem pc_badT (hW : W0 W) (t : Ty) (hs : Ga.Ty.sm t) : PC P (gl W) 39 [vT t] (.d (.bool (badT t))) := by
  refine CG.start is39 ca39 rfl ?_
  have hT := pc_ty hW t.elem t.row t.dims hs.1 hs.2.1 (Ty.sm.d hs) hs.2.2.2
  refine s4 hW 4 1 [] 0 [(2, (bo false)), (3, (.agg [(so (Ty.elem t)), (so (Ty.row t)), (lo Lin.enc (Ty.dims t))]))] [(0, (.cells [(so (Ty.elem t)), (so (Ty.row t)), (lo Lin.enc (Ty.dims t))]))] ?_
  refine CG.pg (hT) rfl (by kernel_rfl) ?_
  refine s1 hW 2 0 [] 0 [(2, (bo (!tyB { elem := Ty.elem t, row := Ty.row t, dims := Ty.dims t })))] ?_
  refine CG.ret (v' := (bo (!tyB t))) (by kernel_rfl) ?_
  rfl
theorem pc_badTIdx (hW : W0 W) (l : List Ty) (hl : l.length < 1048577) (hd : ∀ x ∈ l, Ga.Ty.sm x) : PC P (gl W) 76 [.d (.list (l.map Ty.enc)), .func 39 [] []] (fiV (l.findIdx? badT)) := by
  refine CG.start is76 ca76 rfl ?_
  refine s1 hW 8 0 [] 3 [(4, (io 0)), (7, (no (List.length (List.map Ty.enc l)))), (8, (io 0))] ?_
  rotate_left
  refine CG.loopL l (fun i u => [(0, (lo Ty.enc l)), (1, (.func 39 [] [])), (4, (io 0)), (7, (no (List.length (List.map Ty.enc l)))), (8, .d (.int .i64 (.ofNat i)))]) (fun i u => []) (fun i u r => (fiV (l.findIdx? badT) = fiV ((r.findIdx? badT).map (· + i)))) () ?_ (Tidy.refl _ _) ?_ ?_
  · cases l.findIdx? badT <;> rfl
  · intro i u hi hd hinv
    refine s1 hW 4 0 [] 23 [(9, (bo (iLt (Int.ofNat i) (Int.ofNat (List.length (List.map Ty.enc l))))))] ?_
    refine CG.condF (show (iLt (Int.ofNat i) (Int.ofNat (List.length (List.map Ty.enc l)))) = false from f_lt (by (try simp only [zz] at *) <;> omega)) (by kernel_rfl) ?_
    refine CG.exitL (by decide) ?_
    refine s1 hW 5 0 [] 0 [(4, (io (-1)))] ?_
    refine CG.ret (v' := (io (-1))) (by kernel_rfl) ?_
    rotate_left
    rw [hinv]; rfl
  · intro i u x r hdr hx hlt hinv
    have hs := hd x (List.mem_of_getElem? hx)
    refine s1 hW 4 0 [] 31 [(9, (bo (iLt (Int.ofNat i) (Int.ofNat (List.length (List.map Ty.enc l))))))] ?_
    refine CG.condT (show (iLt (Int.ofNat i) (Int.ofNat (List.length (List.map Ty.enc l)))) = true from t_lt (by (try simp only [zz] at *) <;> omega)) (by kernel_rfl) ?_
    refine s1 hW 8 3 [] 31 [(5, (no i)), (11, (.func 39 [] [])), (12, (lo Ty.enc l)), (13, (no i))] ?_
    refine CG.ix (idx_map (enc := Ty.enc) hx) rfl (by kernel_rfl) ?_
    refine s1 hW 0 1 [] 127 [(15, (.agg [(so (Ty.elem x)), (so (Ty.row x)), (lo Lin.enc (Ty.dims x))]))] ?_
    refine CG.pcv (first := []) (cap := []) (pc_badT hW x hs) rfl (by kernel_rfl) (by kernel_rfl) (by kernel_rfl) rfl ?_
    refine s1 hW 2 0 [] 319 [] ?_
    refine sp (badT x) (fun q15 => ?_) (fun q15 => ?_)
    refine CG.condT q15 (by kernel_rfl) ?_
    refine s1 hW 3 0 [] 51 [(4, (no i))] ?_
    refine CG.retL (v' := (no i)) (by kernel_rfl) ?_
    rotate_left
    refine CG.condF q15 (by kernel_rfl) ?_
    refine s3 hW 3 2 [] [(0, (lo Ty.enc l)), (1, (.func 39 [] [])), (4, (io 0)), (7, (no (List.length (List.map Ty.enc l)))), (8, (io (wrapF IntKind.i64 (iAdd (Int.ofNat i) 1))))] ([]) ?_
    refine CG.endL rfl ?_
    rw [wrapI (by omega)]
    rotate_left
    all_goals first
      | (rw [hinv, List.findIdx?_cons, show badT x = true by assumption]; simp [fiV]; done)
      | (refine ⟨(), ?_, Tidy.refl _ _⟩
         rw [hinv, List.findIdx?_cons, show badT x = false by assumption]
         cases r.findIdx? badT with
         | none => rfl
         | some j => simp only [cond_false, Option.map_some, fiV, if_false, Bool.false_eq_true]; rw [show j + 1 + i = j + (i + 1) by omega])
theorem pc_badTAny (hW : W0 W) (l : List Ty) (hl : l.length < 1048577) (hd : ∀ x ∈ l, Ga.Ty.sm x) : PC P (gl W) 41 [.d (.list (l.map Ty.enc)), .func 39 [] []] (.d (.bool (l.any badT))) := by
  refine CG.start is41 ca41 rfl ?_
  refine s1 hW 4 2 [] 0 [(4, (bo false)), (5, (lo Ty.enc l)), (6, (.func 39 [] []))] ?_
  refine CG.pg (pc_badTIdx hW _ hl hd) rfl (by kernel_rfl) ?_
  rotate_left
  have : l.any badT = (l.findIdx? badT).isSome := by rw [List.findIdx?_isSome]
  rw [this]
  cases l.findIdx? badT with
  | none => refine s1 hW 2 0 [] 1 [] ?_
            refine CG.ret (v' := (bo false)) (by kernel_rfl) ?_
            rfl
  | some i => refine s1 hW 2 0 [] 0 [(4, (bo true))] ?_
              refine CG.ret (v' := (bo true)) (by kernel_rfl) ?_
              rfl
theorem pc_badL (hW : W0 W) (x : Lin) (hs : Lin.sm x) : PC P (gl W) 42 [vL x] (.d (.bool (bad x))) := by
  refine CG.start is42 ca42 rfl ?_
  have hV := pc_valid hW x.c x.ts hs.1 hs.2
  refine s4 hW 4 1 [] 0 [(2, (bo false)), (3, (.agg [(io (Lin.c x)), (lo Cf.enc (Lin.ts x))]))] [(0, (.cells [(io (Lin.c x)), (lo Cf.enc (Lin.ts x))]))] ?_
  refine CG.pg (hV) rfl (by kernel_rfl) ?_
  refine s1 hW 2 0 [] 0 [(2, (bo (!validL (Lin.c x) (Lin.ts x))))] ?_
  refine CG.ret (v' := (bo (!validL (Lin.c x) (Lin.ts x)))) (by kernel_rfl) ?_
  rfl
theorem pc_badLIdx (hW : W0 W) (l : List Lin) (hl : l.length < 1048577) (hd : ∀ x ∈ l, Lin.sm x) : PC P (gl W) 52 [.d (.list (l.map Lin.enc)), .func 42 [] []] (fiV (l.findIdx? bad)) := by
  refine CG.start is52 ca52 rfl ?_
  refine s1 hW 8 0 [] 3 [(4, (io 0)), (7, (no (List.length (List.map Lin.enc l)))), (8, (io 0))] ?_
  rotate_left
  refine CG.loopL l (fun i u => [(0, (lo Lin.enc l)), (1, (.func 42 [] [])), (4, (io 0)), (7, (no (List.length (List.map Lin.enc l)))), (8, .d (.int .i64 (.ofNat i)))]) (fun i u => []) (fun i u r => (fiV (l.findIdx? bad) = fiV ((r.findIdx? bad).map (· + i)))) () ?_ (Tidy.refl _ _) ?_ ?_
  · cases l.findIdx? bad <;> rfl
  · intro i u hi hd hinv
    refine s1 hW 4 0 [] 23 [(9, (bo (iLt (Int.ofNat i) (Int.ofNat (List.length (List.map Lin.enc l))))))] ?_
    refine CG.condF (show (iLt (Int.ofNat i) (Int.ofNat (List.length (List.map Lin.enc l)))) = false from f_lt (by (try simp only [zz] at *) <;> omega)) (by kernel_rfl) ?_
    refine CG.exitL (by decide) ?_
    refine s1 hW 5 0 [] 0 [(4, (io (-1)))] ?_
    refine CG.ret (v' := (io (-1))) (by kernel_rfl) ?_
    rotate_left
    rw [hinv]; rfl
  · intro i u x r hdr hx hlt hinv
    have hs := hd x (List.mem_of_getElem? hx)
    refine s1 hW 4 0 [] 31 [(9, (bo (iLt (Int.ofNat i) (Int.ofNat (List.length (List.map Lin.enc l))))))] ?_
    refine CG.condT (show (iLt (Int.ofNat i) (Int.ofNat (List.length (List.map Lin.enc l)))) = true from t_lt (by (try simp only [zz] at *) <;> omega)) (by kernel_rfl) ?_
    refine s1 hW 8 3 [] 31 [(5, (no i)), (11, (.func 42 [] [])), (12, (lo Lin.enc l)), (13, (no i))] ?_
    refine CG.ix (idx_map (enc := Lin.enc) hx) rfl (by kernel_rfl) ?_
    refine s1 hW 0 1 [] 127 [(15, (.agg [(io (Lin.c x)), (lo Cf.enc (Lin.ts x))]))] ?_
    refine CG.pcv (first := []) (cap := []) (pc_badL hW x hs) rfl (by kernel_rfl) (by kernel_rfl) (by kernel_rfl) rfl ?_
    refine s1 hW 2 0 [] 319 [] ?_
    refine sp (bad x) (fun q15 => ?_) (fun q15 => ?_)
    refine CG.condT q15 (by kernel_rfl) ?_
    refine s1 hW 3 0 [] 51 [(4, (no i))] ?_
    refine CG.retL (v' := (no i)) (by kernel_rfl) ?_
    rotate_left
    refine CG.condF q15 (by kernel_rfl) ?_
    refine s3 hW 3 2 [] [(0, (lo Lin.enc l)), (1, (.func 42 [] [])), (4, (io 0)), (7, (no (List.length (List.map Lin.enc l)))), (8, (io (wrapF IntKind.i64 (iAdd (Int.ofNat i) 1))))] ([]) ?_
    refine CG.endL rfl ?_
    rw [wrapI (by omega)]
    rotate_left
    all_goals first
      | (rw [hinv, List.findIdx?_cons, show bad x = true by assumption]; simp [fiV]; done)
      | (refine ⟨(), ?_, Tidy.refl _ _⟩
         rw [hinv, List.findIdx?_cons, show bad x = false by assumption]
         cases r.findIdx? bad with
         | none => rfl
         | some j => simp only [cond_false, Option.map_some, fiV, if_false, Bool.false_eq_true]; rw [show j + 1 + i = j + (i + 1) by omega])
theorem pc_badLAny (hW : W0 W) (l : List Lin) (hl : l.length < 1048577) (hd : ∀ x ∈ l, Lin.sm x) : PC P (gl W) 29 [.d (.list (l.map Lin.enc)), .func 42 [] []] (.d (.bool (l.any bad))) := by
  refine CG.start is29 ca29 rfl ?_
  refine s1 hW 4 2 [] 0 [(4, (bo false)), (5, (lo Lin.enc l)), (6, (.func 42 [] []))] ?_
  refine CG.pg (pc_badLIdx hW _ hl hd) rfl (by kernel_rfl) ?_
  rotate_left
  have : l.any bad = (l.findIdx? bad).isSome := by rw [List.findIdx?_isSome]
  rw [this]
  cases l.findIdx? bad with
  | none => refine s1 hW 2 0 [] 1 [] ?_
            refine CG.ret (v' := (bo false)) (by kernel_rfl) ?_
            rfl
  | some i => refine s1 hW 2 0 [] 0 [(4, (bo true))] ?_
              refine CG.ret (v' := (bo true)) (by kernel_rfl) ?_
              rfl
theorem any_badT (l : List Ty) : l.any badT = !l.all tyB := by
  induction l with
  | nil => rfl
  | cons x r ih => rw [List.any_cons, List.all_cons, ih, badT, Bool.not_and]
theorem pc_sch (hW : W0 W) (s : Sch) (hs : Sch.sm s) : PC P (gl W) 17 [vSc s] (.d (.bool (schB s))) := by
  refine CG.start is17 ca17 rfl ?_
  have hpl := hs.pl
  have hwl := hs.wl
  have h1 := pc_badTAny hW s.ps hs.pl hs.p
  have h2 := pc_ty hW s.r.elem s.r.row s.r.dims hs.r.1 hs.r.2.1 (Ty.sm.d hs.r) hs.r.2.2.2
  have h3 := pc_badLAny hW s.wh hs.wl hs.w
  rw [any_badT] at h1
  rw [any_bad] at h3
  refine s4 hW 7 5 [] 0 [(1, (.ptr 0 5 0)), (2, (bo false)), (3, (.func 39 [] [])), (8, (bo (!iLt 12 (Int.ofNat (List.length (List.map Ty.enc (Sch.ps s)))))))] [(0, (.cells [(lo Ty.enc (Sch.ps s)), (so (Ty.elem (Sch.r s))), (so (Ty.row (Sch.r s))), (lo Lin.enc (Ty.dims (Sch.r s))), (lo Lin.enc (Sch.wh s))]))] ?_
  refine spLtN 12 (List.length (List.map Ty.enc (Sch.ps s))) (fun q11 p11 => ?_) (fun q11 p11 => ?_) <;> simp only [zz] at p11
  have q12 : (iLt 12 (Int.ofNat (List.length (List.map Ty.enc (Sch.ps s))))) = true := t_lt (by (try simp only [zz] at *) <;> omega)
  rw [q12]
  refine s1 hW 2 0 [] 2 [] ?_
  refine CG.ret (v' := (bo false)) (by kernel_rfl) ?_
  rotate_left
  have q13 : (iLt 12 (Int.ofNat (List.length (List.map Ty.enc (Sch.ps s))))) = false := f_lt (by (try simp only [zz] at *) <;> omega)
  rw [q13]
  refine s1 hW 0 6 [] 7 [(14, (bo (!iLt 60 (Int.ofNat (List.length (List.map Lin.enc (Sch.wh s)))))))] ?_
  refine spLtN 60 (List.length (List.map Lin.enc (Sch.wh s))) (fun q15 p15 => ?_) (fun q15 p15 => ?_) <;> simp only [zz] at p15
  have q16 : (iLt 60 (Int.ofNat (List.length (List.map Lin.enc (Sch.wh s))))) = true := t_lt (by (try simp only [zz] at *) <;> omega)
  rw [q16]
  refine s1 hW 2 0 [] 2 [] ?_
  refine CG.ret (v' := (bo false)) (by kernel_rfl) ?_
  rotate_left
  have q17 : (iLt 60 (Int.ofNat (List.length (List.map Lin.enc (Sch.wh s))))) = false := f_lt (by (try simp only [zz] at *) <;> omega)
  rw [q17]
  refine s1 hW 0 3 [] 11 [(16, (lo Ty.enc (Sch.ps s))), (17, (.func 39 [] []))] ?_
  refine CG.pg (h1) rfl (by kernel_rfl) ?_
  refine s1 hW 0 3 [] 3 [(21, (bo (!!List.all (Sch.ps s) tyB)))] ?_
  refine sp (List.all (Sch.ps s) tyB) (fun q18 => ?_) (fun q18 => ?_)
  rw [q18]
  refine s1 hW 0 2 [] 7 [(23, (.agg [(so (Ty.elem (Sch.r s))), (so (Ty.row (Sch.r s))), (lo Lin.enc (Ty.dims (Sch.r s)))]))] ?_
  refine CG.pg (h2) rfl (by kernel_rfl) ?_
  refine s1 hW 0 2 [] 3 [(26, (bo (tyB { elem := Ty.elem (Sch.r s), row := Ty.row (Sch.r s), dims := Ty.dims (Sch.r s) })))] ?_
  refine sp (tyB (Sch.r s)) (fun q19 => ?_) (fun q19 => ?_)
  rw [q19]
  refine s1 hW 0 2 [] 6 [(28, (lo Lin.enc (Sch.wh s)))] ?_
  refine CG.pg (h3) rfl (by kernel_rfl) ?_
  refine s1 hW 2 0 [] 0 [(2, (bo (!!List.all (Sch.wh s) Lin.ok)))] ?_
  refine CG.ret (v' := (bo (!!List.all (Sch.wh s) Lin.ok))) (by kernel_rfl) ?_
  rotate_left
  rw [q19]
  refine s1 hW 2 0 [] 2 [] ?_
  refine CG.ret (v' := (bo false)) (by kernel_rfl) ?_
  rotate_left
  rw [q18]
  refine s1 hW 2 0 [] 2 [] ?_
  refine CG.ret (v' := (bo false)) (by kernel_rfl) ?_
  rotate_left
  all_goals (clear h1 h2 h3; rw [schB, V.d.injEq, D.bool.injEq, Bool.eq_iff_iff]; first | (simp [*]; done) | (simp [*]; omega) | (simp_all; done) | (simp_all; omega))
theorem pc_schR (hW : W0 W) (s : Sch) (hs : Sch.sm s) : PC P (gl W) 23 [vSc s] (.d (.bool (schB s))) := by
  refine CG.start is23 ca23 rfl ?_
  have hpl := hs.pl
  have hwl := hs.wl
  have hA := pc_all hW s hs.pl
  refine s4 hW 4 1 [] 0 [(1, (.ptr 0 5 0)), (2, (bo false)), (6, (.agg [(lo Ty.enc (Sch.ps s)), (so (Ty.elem (Sch.r s))), (so (Ty.row (Sch.r s))), (lo Lin.enc (Ty.dims (Sch.r s))), (lo Lin.enc (Sch.wh s))]))] [(0, (.cells [(lo Ty.enc (Sch.ps s)), (so (Ty.elem (Sch.r s))), (so (Ty.row (Sch.r s))), (lo Lin.enc (Ty.dims (Sch.r s))), (lo Lin.enc (Sch.wh s))]))] ?_
  refine CG.pg (hA) rfl (by kernel_rfl) ?_
  refine s1 hW 7 0 [] 3 [(3, (lo Ty.enc (Sch.ps s ++ [Sch.r s]))), (4, (io 0))] ?_
  rotate_left
  refine CG.loopL (s.ps ++ [s.r]) (fun i u => [(1, (.ptr 0 5 0)), (2, (bo false)), (3, (lo Ty.enc (Sch.ps s ++ [Sch.r s]))), (4, .d (.int .i64 (.ofNat i)))]) (fun i u => [some (.cells [(lo Ty.enc (Sch.ps s)), (so (Ty.elem (Sch.r s))), (so (Ty.row (Sch.r s))), (lo Lin.enc (Ty.dims (Sch.r s))), (lo Lin.enc (Sch.wh s))])]) (fun i u r => ((s.ps ++ [s.r]).all tyB = r.all tyB)) () ?_ (Tidy.refl _ _) ?_ ?_
  · rfl
  · intro i u hi hdr hinv
    have ha : (s.ps ++ [s.r]).all tyB = true := hinv
    refine s1 hW 4 0 [] 15 [(11, (bo (iLt (Int.ofNat i) (Int.ofNat (List.length (List.map Ty.enc (Sch.ps s ++ [Sch.r s])))))))] ?_
    refine CG.condF (show (iLt (Int.ofNat i) (Int.ofNat (List.length (List.map Ty.enc (Sch.ps s ++ [Sch.r s]))))) = false from f_lt (by (try simp only [zz] at *) <;> omega)) (by kernel_rfl) ?_
    refine CG.exitL (by decide) ?_
    refine s1 hW 7 0 [] 3 [(5, (io 0))] ?_
    rotate_left
    refine CG.loopL s.wh (fun j u2 => [(1, (.ptr 0 5 0)), (2, (bo false)), (5, .d (.int .i64 (.ofNat j)))]) (fun j u2 => [some (.cells [(lo Ty.enc (Sch.ps s)), (so (Ty.elem (Sch.r s))), (so (Ty.row (Sch.r s))), (lo Lin.enc (Ty.dims (Sch.r s))), (lo Lin.enc (Sch.wh s))])]) (fun j u2 r2 => (s.wh.all Lin.ok = r2.all Lin.ok)) () ?_ (Tidy.refl _ _) ?_ ?_
    · rfl
    · intro j u2 hj hdr2 hinv2
      have hb : s.wh.all Lin.ok = true := hinv2
      rw [List.all_append, Bool.and_eq_true, List.all_cons, List.all_nil, Bool.and_true] at ha
      refine s1 hW 4 0 [] 7 [(24, (bo (iLt (Int.ofNat j) (Int.ofNat (List.length (List.map Lin.enc (Sch.wh s)))))))] ?_
      refine CG.condF (show (iLt (Int.ofNat j) (Int.ofNat (List.length (List.map Lin.enc (Sch.wh s))))) = false from f_lt (by (try simp only [zz] at *) <;> omega)) (by kernel_rfl) ?_
      refine CG.exitL (by decide) ?_
      refine s1 hW 3 5 [] 3 [(38, (bo (!iLt 12 (Int.ofNat (List.length (List.map Ty.enc (Sch.ps s)))))))] ?_
      refine spLtN 12 (List.length (List.map Ty.enc (Sch.ps s))) (fun q21 p21 => ?_) (fun q21 p21 => ?_) <;> simp only [zz] at p21
      have q22 : (iLt 12 (Int.ofNat (List.length (List.map Ty.enc (Sch.ps s))))) = true := t_lt (by (try simp only [zz] at *) <;> omega)
      rw [q22]
      refine s1 hW 2 0 [] 2 [] ?_
      refine CG.ret (v' := (bo false)) (by kernel_rfl) ?_
      rotate_left
      have q23 : (iLt 12 (Int.ofNat (List.length (List.map Ty.enc (Sch.ps s))))) = false := f_lt (by (try simp only [zz] at *) <;> omega)
      rw [q23]
      refine s1 hW 2 0 [] 0 [(2, (bo (!iLt 60 (Int.ofNat (List.length (List.map Lin.enc (Sch.wh s)))))))] ?_
      refine CG.ret (v' := (bo (!iLt 60 (Int.ofNat (List.length (List.map Lin.enc (Sch.wh s))))))) (by kernel_rfl) ?_
      rotate_left
      all_goals (rw [schB, hb, ha.1, ha.2, V.d.injEq, D.bool.injEq, Bool.eq_iff_iff]; first | (simp [*]; done) | (simp [*]; omega) | (simp [*, iLt_eq]; omega))
    · intro j u2 x r2 hdr2 hx hlt2 hinv2
      have hV := pc_valid_ref hW x.c x.ts (hs.w x (List.mem_of_getElem? hx)).1
      rw [List.all_cons] at hinv2
      refine s1 hW 4 0 [] 7 [(24, (bo (iLt (Int.ofNat j) (Int.ofNat (List.length (List.map Lin.enc (Sch.wh s)))))))] ?_
      refine CG.condT (show (iLt (Int.ofNat j) (Int.ofNat (List.length (List.map Lin.enc (Sch.wh s))))) = true from t_lt (by (try simp only [zz] at *) <;> omega)) (by kernel_rfl) ?_
      refine s1 hW 5 3 [] 7 [(28, (lo Lin.enc (Sch.wh s))), (29, (no j))] ?_
      refine CG.ix (idx_map (enc := Lin.enc) hx) rfl (by kernel_rfl) ?_
      refine s1 hW 0 1 [] 7 [(31, (.agg [(io (Lin.c x)), (lo Cf.enc (Lin.ts x))]))] ?_
      refine CG.pg (hV) rfl (by kernel_rfl) ?_
      refine s1 hW 2 0 [] 7 [(33, (bo (!validL (Lin.c x) (Lin.ts x))))] ?_
      refine sp (validL (Lin.c x) (Lin.ts x)) (fun q23 => ?_) (fun q23 => ?_)
      refine CG.condF (b := (!validL (Lin.c x) (Lin.ts x))) (by rw [q23]; rfl) (by kernel_rfl) ?_
      refine s3 hW 3 3 [] [(1, (.ptr 0 5 0)), (2, (bo false)), (5, (io (wrapF IntKind.i64 (iAdd (Int.ofNat j) 1))))] ([some (.cells [(lo Ty.enc (Sch.ps s)), (so (Ty.elem (Sch.r s))), (so (Ty.row (Sch.r s))), (lo Lin.enc (Ty.dims (Sch.r s))), (lo Lin.enc (Sch.wh s))])]) ?_
      refine CG.endL rfl ?_
      rw [wrapI (by omega)]
      rotate_left
      refine CG.condT (b := (!validL (Lin.c x) (Lin.ts x))) (by rw [q23]; rfl) (by kernel_rfl) ?_
      refine s1 hW 3 0 [] 7 [] ?_
      refine CG.retL (v' := (bo false)) (by kernel_rfl) ?_
      rotate_left
      all_goals first
        | (refine ⟨(), ?_, Tidy.refl _ _⟩; rw [hinv2, show Lin.ok x = true by assumption]; rfl)
        | (rw [schB, hinv2, show Lin.ok x = false by assumption]; simp; done)
  · intro i u t r hdr hx hlt hinv
    have ht := hs.t t (List.mem_of_getElem? hx)
    have hT := pc_tyR hW t.elem t.row t.dims ht.1 (Ty.sm.d ht) ht.2.2.2
    rw [List.all_cons] at hinv
    simp only [List.length_append, List.length_singleton] at hlt
    refine s1 hW 4 0 [] 15 [(11, (bo (iLt (Int.ofNat i) (Int.ofNat (List.length (List.map Ty.enc (Sch.ps s ++ [Sch.r s])))))))] ?_
    refine CG.condT (show (iLt (Int.ofNat i) (Int.ofNat (List.length (List.map Ty.enc (Sch.ps s ++ [Sch.r s]))))) = true from t_lt (by (try simp only [zz] at *) <;> omega)) (by kernel_rfl) ?_
    refine s1 hW 5 2 [] 15 [(14, (lo Ty.enc (Sch.ps s ++ [Sch.r s]))), (15, (no i))] ?_
    refine CG.ix (idx_map (enc := Ty.enc) hx) rfl (by kernel_rfl) ?_
    refine s1 hW 0 1 [] 15 [(17, (.agg [(so (Ty.elem t)), (so (Ty.row t)), (lo Lin.enc (Ty.dims t))]))] ?_
    refine CG.pg (hT) rfl (by kernel_rfl) ?_
    refine s1 hW 2 0 [] 15 [(19, (bo (!tyB { elem := Ty.elem t, row := Ty.row t, dims := Ty.dims t })))] ?_
    refine sp (tyB t) (fun q18 => ?_) (fun q18 => ?_)
    refine CG.condF (b := (!tyB t)) (by rw [q18]; rfl) (by kernel_rfl) ?_
    refine s3 hW 3 3 [] [(1, (.ptr 0 5 0)), (2, (bo false)), (3, (lo Ty.enc (Sch.ps s ++ [Sch.r s]))), (4, (io (wrapF IntKind.i64 (iAdd (Int.ofNat i) 1))))] ([some (.cells [(lo Ty.enc (Sch.ps s)), (so (Ty.elem (Sch.r s))), (so (Ty.row (Sch.r s))), (lo Lin.enc (Ty.dims (Sch.r s))), (lo Lin.enc (Sch.wh s))])]) ?_
    refine CG.endL rfl ?_
    rw [wrapI (by omega)]
    rotate_left
    refine CG.condT (b := (!tyB t)) (by rw [q18]; rfl) (by kernel_rfl) ?_
    refine s1 hW 3 0 [] 15 [] ?_
    refine CG.retL (v' := (bo false)) (by kernel_rfl) ?_
    rotate_left
    all_goals first
      | (refine ⟨(), ?_, Tidy.refl _ _⟩; rw [hinv, show tyB t = true by assumption]; rfl)
      | (rw [show tyB t = false by assumption, Bool.false_and, List.all_append] at hinv
         rw [List.all_cons, List.all_nil, Bool.and_true] at hinv
         rw [schB, V.d.injEq, D.bool.injEq]
         cases h1 : s.ps.all tyB <;> cases h2 : tyB s.r <;> simp_all)
end Fw.Tz.Gb

/-
  Equal linear expressions, by the program and by the reference: of any two.
-/
namespace Fw.Tz.Gc
open Go Go.Proofs Go.RowKit Go.Lib Fw.X Fw.Tz Fw.Nu Fw.Tz.Sd Fw.Tz.Na Fw.Tz.El Fw.Tz.Va Fw.Tz.Vb Fw.Tz.Ga
variable {W : World}
theorem pc_cmpS (s p : List UInt8) : PC P (gl W) 86 [.d (.str s), .d (.str p)] (.d (.int .i64 (Lib.compareBytes s p))) := by
  refine PC.ofCalls ca86 fun g w vs hvs hg => ?_
  obtain ⟨x, y, rfl, h1, h2⟩ := hvs.two_inv
  obtain ⟨b, rfl, rfl⟩ := h1.str_inv
  obtain ⟨c, rfl, rfl⟩ := h2.str_inv
  refine (Tryz.strings_Compare b c w).mono ?_
  rintro e w' ⟨rfl, rfl⟩
  exact ⟨_, rfl, Below.refl _ _, fun _ _ => RV.mkI _ _⟩
theorem cmpS_zero : ∀ (a b : List UInt8), Lib.compareBytes a b = 0 ↔ a = b
  | [], [] => by simp [Lib.compareBytes]
  | [], _ :: _ => by simp [Lib.compareBytes]
  | _ :: _, [] => by simp [Lib.compareBytes]
  | a :: l, b :: m => by
    rw [Lib.compareBytes]
    by_cases h1 : a < b
    · rw [if_pos h1]; simp; intro h; subst h; exact absurd h1 (UInt8.lt_irrefl a)
    · rw [if_neg h1]
      by_cases h2 : b < a
      · rw [if_pos h2]; simp; intro h; subst h; exact absurd h2 (UInt8.lt_irrefl a)
      · rw [if_neg h2, cmpS_zero l m]
        have : a = b := UInt8.le_antisymm (UInt8.not_lt.1 h2) (UInt8.not_lt.1 h1)
        simp [this]
def ordI (a b : Int) : Int := if a < b then -1 else if b < a then 1 else 0
theorem ordI_zero (a b : Int) : ordI a b = 0 ↔ a = b := by unfold ordI; split <;> (try split) <;> omega
def cmpC (a b : Cf) : Int := if Lib.compareBytes a.var b.var = 0 then ordI a.c b.c else Lib.compareBytes a.var b.var
theorem cmpC_zero (a b : Cf) : cmpC a b = 0 ↔ a = b := by
  unfold cmpC
  obtain ⟨va, ca⟩ := a
  obtain ⟨vb, cb⟩ := b
  dsimp only
  have h1 := cmpS_zero va vb
  have h2 := ordI_zero ca cb
  simp only [Cf.mk.injEq]
  split <;> simp_all
def cmpT : List Cf → List Cf → Int
  | [], [] => 0
  | [], _ :: _ => -1
  | _ :: _, [] => 1
  | a :: l, b :: m => if cmpC a b = 0 then cmpT l m else cmpC a b
theorem cmpT_zero : ∀ (a b : List Cf), cmpT a b = 0 ↔ a = b
  | [], [] => by simp [cmpT]
  | [], _ :: _ => by simp [cmpT]
  | _ :: _, [] => by simp [cmpT]
  | a :: l, b :: m => by
    have h1 := cmpC_zero a b
    have h2 := cmpT_zero l m
    rw [cmpT, List.cons.injEq]
    split <;> simp_all
def cmpL (a b : Lin) : Int := if cmpT a.ts b.ts = 0 then ordI a.c b.c else cmpT a.ts b.ts
theorem cmpL_zero (a b : Lin) : cmpL a b = 0 ↔ a = b := by
  obtain ⟨ca, ta⟩ := a
  obtain ⟨cb, tb⟩ := b
  have h1 := cmpT_zero ta tb
  have h2 := ordI_zero ca cb
  unfold cmpL
  dsimp only
  simp only [Lin.mk.injEq]
  split <;> simp_all
def eqLn (a b : Lin) : Bool := cmpL a b == 0
theorem pc_order (hW : W0 W) (a b : Int) : PC P (gl W) 87 [.d (.int .i64 a), .d (.int .i64 b)] (.d (.int .i64 (ordI a b))) := by
  refine CG.start is87 ca87 rfl ?_
  refine s1 hW 8 0 [] 3 [(4, (io 0)), (5, (bo (iLt a b)))] ?_
  refine spLt a b (fun q5 p5 => ?_) (fun q5 p5 => ?_)
  refine CG.condT q5 (by kernel_rfl) ?_
  refine s1 hW 3 0 [] 0 [(4, (io (-1)))] ?_
  refine CG.ret (v' := (io (-1))) (by kernel_rfl) ?_
  rotate_left
  refine CG.condF q5 (by kernel_rfl) ?_
  refine s1 hW 3 0 [] 4 [(9, (bo (iLt b a)))] ?_
  refine spLt b a (fun q6 p6 => ?_) (fun q6 p6 => ?_)
  refine CG.condT q6 (by kernel_rfl) ?_
  refine s1 hW 3 0 [] 0 [(4, (io 1))] ?_
  refine CG.ret (v' := (io 1)) (by kernel_rfl) ?_
  rotate_left
  refine CG.condF q6 (by kernel_rfl) ?_
  refine s1 hW 6 0 [] 1 [] ?_
  refine CG.ret (v' := (io 0)) (by kernel_rfl) ?_
  rotate_left
  all_goals first
    | (rw [ordI, if_pos (by omega)]; done)
    | (rw [ordI, if_neg (by omega), if_pos (by omega)]; done)
    | (rw [ordI, if_neg (by omega), if_neg (by omega)]; done)
theorem pc_cmpC (hW : W0 W) (a b : Cf) : PC P (gl W) 85 [.agg [.d (.str a.var), .d (.int .i64 a.c)], .agg [.d (.str b.var), .d (.int .i64 b.c)]] (.d (.int .i64 (cmpC a b))) := by
  refine CG.start is85 ca85 rfl ?_
  have h1 : PC P (gl W) 86 [.d (.str a.var), .d (.str b.var)] (.d (.int .i64 (Lib.compareBytes a.var b.var))) := pc_cmpS a.var b.var
  have h2 := pc_order hW a.c b.c
  refine s4 hW 5 4 [] 0 [(2, (.ptr 0 2 0)), (3, (.ptr 1 2 0)), (4, (io 0)), (7, (so (Cf.var a))), (9, (so (Cf.var b)))] [(0, (.cells [(so (Cf.var a)), (io (Cf.c a))])), (1, (.cells [(so (Cf.var b)), (io (Cf.c b))]))] ?_
  refine CG.pg (h1) rfl (by kernel_rfl) ?_
  refine s1 hW 5 0 [] 7 [(5, (io (compareBytes (Cf.var a) (Cf.var b)))), (12, (bo (!iEq (compareBytes (Cf.var a) (Cf.var b)) 0)))] ?_
  refine spEq (compareBytes (Cf.var a) (Cf.var b)) 0 (fun q8 p8 => ?_) (fun q8 p8 => ?_)
  refine CG.condF (b := (!iEq (compareBytes (Cf.var a) (Cf.var b)) 0)) (by rw [q8]; rfl) (by kernel_rfl) ?_
  refine s1 hW 3 4 [] 4 [(15, (io (Cf.c a))), (17, (io (Cf.c b)))] ?_
  refine CG.pg (h2) rfl (by kernel_rfl) ?_
  refine s1 hW 2 0 [] 0 [(4, (io (ordI (Cf.c a) (Cf.c b))))] ?_
  refine CG.ret (v' := (io (ordI (Cf.c a) (Cf.c b)))) (by kernel_rfl) ?_
  rotate_left
  refine CG.condT (b := (!iEq (compareBytes (Cf.var a) (Cf.var b)) 0)) (by rw [q8]; rfl) (by kernel_rfl) ?_
  refine s1 hW 3 0 [] 3 [(4, (io (compareBytes (Cf.var a) (Cf.var b))))] ?_
  refine CG.ret (v' := (io (compareBytes (Cf.var a) (Cf.var b)))) (by kernel_rfl) ?_
  rotate_left
  all_goals first
    | (rw [cmpC, if_pos (by first | assumption | simp_all)]; done)
    | (rw [cmpC, if_neg (by first | assumption | simp_all)]; done)
theorem pc_cmpT (hW : W0 W) (a b : List Cf) (ha : a.length < 1099511627776) : PC P (gl W) 84 [.d (.list (a.map Cf.enc)), .d (.list (b.map Cf.enc)), .func 85 [] []] (.d (.int .i64 (cmpT a b))) := by
  refine CG.start is84 ca84 rfl ?_
  refine s1 hW 8 0 [] 7 [(6, (io 0)), (11, (lo Cf.enc a)), (12, (no (List.length (List.map Cf.enc a)))), (13, (io 0))] ?_
  rotate_left
  refine CG.loopL a (fun i u => [(0, (lo Cf.enc a)), (1, (lo Cf.enc b)), (2, (.func 85 [] [])), (6, (io 0)), (11, (lo Cf.enc a)), (12, (no (List.length (List.map Cf.enc a)))), (13, .d (.int .i64 (.ofNat i)))]) (fun i u => []) (fun i u r => (cmpT a b = cmpT r (b.drop i) ∧ i ≤ b.length)) () ?_ (Tidy.refl _ _) ?_ ?_
  · exact ⟨rfl, Nat.zero_le _⟩
  · rintro i u hi hdr ⟨hinv, hib⟩
    refine s1 hW 4 0 [] 95 [(14, (bo (iLt (Int.ofNat i) (Int.ofNat (List.length (List.map Cf.enc a))))))] ?_
    refine CG.condF (show (iLt (Int.ofNat i) (Int.ofNat (List.length (List.map Cf.enc a)))) = false from f_lt (by (try simp only [zz] at *) <;> omega)) (by kernel_rfl) ?_
    refine CG.exitL (by decide) ?_
    refine s1 hW 6 0 [] 8 [(38, (bo (iLt (Int.ofNat (List.length (List.map Cf.enc a))) (Int.ofNat (List.length (List.map Cf.enc b))))))] ?_
    refine spLtN (List.length (List.map Cf.enc a)) (List.length (List.map Cf.enc b)) (fun q12 p12 => ?_) (fun q12 p12 => ?_) <;> simp only [zz] at p12
    refine CG.condT q12 (by kernel_rfl) ?_
    refine s1 hW 3 0 [] 0 [(6, (io (-1)))] ?_
    refine CG.ret (v' := (io (-1))) (by kernel_rfl) ?_
    rotate_left
    refine CG.condF q12 (by kernel_rfl) ?_
    refine s1 hW 5 0 [] 1 [] ?_
    refine CG.ret (v' := (io 0)) (by kernel_rfl) ?_
    rotate_left
    all_goals (simp only [List.length_map] at *; rw [hinv])
    · obtain ⟨y, hy⟩ : ∃ y, b[i]? = some y := ⟨_, List.getElem?_eq_getElem (by omega)⟩
      rw [Fw.drop_cons_at hy]; rfl
    · rw [List.drop_eq_nil_of_le (by omega)]; rfl
  · rintro i u x r hdr hx hlt ⟨hinv, hib⟩
    rcases Nat.lt_or_ge i b.length with hl | hl
    · obtain ⟨y, hy⟩ : ∃ y, b[i]? = some y := ⟨_, List.getElem?_eq_getElem hl⟩
      have hC := pc_cmpC hW x y
      refine s1 hW 4 0 [] 127 [(14, (bo (iLt (Int.ofNat i) (Int.ofNat (List.length (List.map Cf.enc a))))))] ?_
      refine CG.condT (show (iLt (Int.ofNat i) (Int.ofNat (List.length (List.map Cf.enc a)))) = true from t_lt (by (try simp only [zz] at *) <;> omega)) (by kernel_rfl) ?_
      refine s1 hW 5 1 [] 127 [(15, (no i))] ?_
      refine CG.ix (idx_map (enc := Cf.enc) hx) rfl (by kernel_rfl) ?_
      refine s4 hW 6 0 [] 127 [(7, (no i)), (8, (.ptr 0 2 0)), (21, (bo (!iLt (Int.ofNat i) (Int.ofNat (List.length (List.map Cf.enc b))))))] [(0, (.cells [(so (Cf.var x)), (io (Cf.c x))]))] ?_
      have q19 : (iLt (Int.ofNat i) (Int.ofNat (List.length (List.map Cf.enc b)))) = true := t_lt (by (try simp only [zz] at *) <;> omega)
      refine CG.condF (b := (!iLt (Int.ofNat i) (Int.ofNat (List.length (List.map Cf.enc b))))) (by rw [q19]; rfl) (by kernel_rfl) ?_
      refine s1 hW 3 2 [] 495 [(22, (lo Cf.enc b)), (23, (no i))] ?_
      refine CG.ix (idx_map (enc := Cf.enc) hy) rfl (by kernel_rfl) ?_
      refine s4 hW 3 3 [] 239 [(26, (.func 85 [] [])), (27, (.agg [(so (Cf.var x)), (io (Cf.c x))])), (28, (.agg [(so (Cf.var y)), (io (Cf.c y))]))] [(1, (.cells [(so (Cf.var y)), (io (Cf.c y))]))] ?_
      refine CG.pcv (first := []) (cap := []) hC rfl (by kernel_rfl) (by kernel_rfl) (by kernel_rfl) rfl ?_
      refine s1 hW 5 0 [] 127 [(10, (io (cmpC x y))), (31, (bo (!iEq (cmpC x y) 0)))] ?_
      refine spEq (cmpC x y) 0 (fun q21 p21 => ?_) (fun q21 p21 => ?_)
      refine CG.condF (b := (!iEq (cmpC x y) 0)) (by rw [q21]; rfl) (by kernel_rfl) ?_
      refine s3 hW 3 2 [] [(0, (lo Cf.enc a)), (1, (lo Cf.enc b)), (2, (.func 85 [] [])), (6, (io 0)), (11, (lo Cf.enc a)), (12, (no (List.length (List.map Cf.enc a)))), (13, (io (wrapF IntKind.i64 (iAdd (Int.ofNat i) 1))))] ([some (.cells [(so (Cf.var x)), (io (Cf.c x))]), some (.cells [(so (Cf.var y)), (io (Cf.c y))])]) ?_
      refine CG.endL rfl ?_
      rw [wrapI (by omega)]
      rotate_left
      refine CG.condT (b := (!iEq (cmpC x y) 0)) (by rw [q21]; rfl) (by kernel_rfl) ?_
      refine s1 hW 3 0 [] 231 [(6, (io (cmpC x y)))] ?_
      refine CG.retL (v' := (io (cmpC x y))) (by kernel_rfl) ?_
      rotate_left
      all_goals rw [Fw.drop_cons_at hy, cmpT] at hinv
      · rw [if_pos (by first | assumption | simp_all)] at hinv
        exact ⟨(), ⟨hinv, by omega⟩, Tidy.trim 0 [0, 1, 2, 6, 11, 12, 13] rfl rfl rfl rfl rfl⟩
      · rw [if_neg (by first | assumption | simp_all)] at hinv
        rw [hinv]
    · refine s1 hW 4 0 [] 127 [(14, (bo (iLt (Int.ofNat i) (Int.ofNat (List.length (List.map Cf.enc a))))))] ?_
      refine CG.condT (show (iLt (Int.ofNat i) (Int.ofNat (List.length (List.map Cf.enc a)))) = true from t_lt (by (try simp only [zz] at *) <;> omega)) (by kernel_rfl) ?_
      refine s1 hW 5 1 [] 127 [(15, (no i))] ?_
      refine CG.ix (idx_map (enc := Cf.enc) hx) rfl (by kernel_rfl) ?_
      refine s4 hW 6 0 [] 127 [(7, (no i)), (8, (.ptr 0 2 0)), (21, (bo (!iLt (Int.ofNat i) (Int.ofNat (List.length (List.map Cf.enc b))))))] [(0, (.cells [(so (Cf.var x)), (io (Cf.c x))]))] ?_
      have q16 : (iLt (Int.ofNat i) (Int.ofNat (List.length (List.map Cf.enc b)))) = false := f_lt (by (try simp only [zz] at *) <;> omega)
      refine CG.condT (b := (!iLt (Int.ofNat i) (Int.ofNat (List.length (List.map Cf.enc b))))) (by rw [q16]; rfl) (by kernel_rfl) ?_
      refine s1 hW 3 0 [] 503 [(6, (io 1))] ?_
      refine CG.retL (v' := (io 1)) (by kernel_rfl) ?_
      rotate_left
      rw [hinv, List.drop_eq_nil_of_le (by omega)]; rfl
theorem pc_cmpL (hW : W0 W) (a b : Lin) (ha : a.ts.length < 1099511627776) : PC P (gl W) 51 [vL a, vL b] (.d (.int .i64 (cmpL a b))) := by
  refine CG.start is51 ca51 rfl ?_
  have h1 := pc_cmpT hW a.ts b.ts ha
  have h2 := pc_order hW a.c b.c
  refine s4 hW 4 4 [] 0 [(2, (.ptr 0 2 0)), (3, (.ptr 1 2 0)), (4, (io 0)), (7, (lo Cf.enc (Lin.ts a))), (9, (lo Cf.enc (Lin.ts b)))] [(0, (.cells [(io (Lin.c a)), (lo Cf.enc (Lin.ts a))])), (1, (.cells [(io (Lin.c b)), (lo Cf.enc (Lin.ts b))]))] ?_
  refine CG.pg (h1) rfl (by kernel_rfl) ?_
  refine s1 hW 6 0 [] 7 [(5, (io (cmpT (Lin.ts a) (Lin.ts b)))), (12, (bo (!iEq (cmpT (Lin.ts a) (Lin.ts b)) 0)))] ?_
  refine spEq (cmpT (Lin.ts a) (Lin.ts b)) 0 (fun q9 p9 => ?_) (fun q9 p9 => ?_)
  refine CG.condF (b := (!iEq (cmpT (Lin.ts a) (Lin.ts b)) 0)) (by rw [q9]; rfl) (by kernel_rfl) ?_
  refine s1 hW 3 4 [] 4 [(15, (io (Lin.c a))), (17, (io (Lin.c b)))] ?_
  refine CG.pg (h2) rfl (by kernel_rfl) ?_
  refine s1 hW 2 0 [] 0 [(4, (io (ordI (Lin.c a) (Lin.c b))))] ?_
  refine CG.ret (v' := (io (ordI (Lin.c a) (Lin.c b)))) (by kernel_rfl) ?_
  rotate_left
  refine CG.condT (b := (!iEq (cmpT (Lin.ts a) (Lin.ts b)) 0)) (by rw [q9]; rfl) (by kernel_rfl) ?_
  refine s1 hW 3 0 [] 3 [(4, (io (cmpT (Lin.ts a) (Lin.ts b))))] ?_
  refine CG.ret (v' := (io (cmpT (Lin.ts a) (Lin.ts b)))) (by kernel_rfl) ?_
  rotate_left
  all_goals first
    | (rw [cmpL, if_pos (by first | assumption | simp_all)]; done)
    | (rw [cmpL, if_neg (by first | assumption | simp_all)]; done)
theorem pc_eqP (hW : W0 W) (a b : Lin) (ha : a.ts.length < 1099511627776) : PC P (gl W) 28 [vL a, vL b] (.d (.bool (eqLn a b))) := by
  refine CG.start is28 ca28 rfl ?_
  have h1 := pc_cmpL hW a b ha
  refine s4 hW 4 2 [] 0 [(4, (bo false)), (5, (.agg [(io (Lin.c a)), (lo Cf.enc (Lin.ts a))])), (6, (.agg [(io (Lin.c b)), (lo Cf.enc (Lin.ts b))]))] [(0, (.cells [(io (Lin.c a)), (lo Cf.enc (Lin.ts a))])), (1, (.cells [(io (Lin.c b)), (lo Cf.enc (Lin.ts b))]))] ?_
  refine CG.pg (h1) rfl (by kernel_rfl) ?_
  refine s1 hW 2 0 [] 0 [(4, (bo (iEq (cmpL a b) 0)))] ?_
  refine CG.ret (v' := (bo (iEq (cmpL a b) 0))) (by kernel_rfl) ?_
  rotate_left
  rw [iEq_eq]; rfl
theorem eqLn_eq (a b : Lin) : eqLn a b = Eq.linEq a b := by
  rw [Bool.eq_iff_iff, Eq.linEq_iff, eqLn, beq_iff_eq]; exact cmpL_zero a b
end Fw.Tz.Gc

/-
  Equal expressions, by the reference: of any two.
-/
namespace Fw.Tz.Ge
open Go Go.Proofs Fw.X Fw.Tz Fw.Nu Fw.Tz.Sd Fw.Tz.Na Fw.Tz.El Fw.Tz.Va Fw.Tz.Vb Fw.Tz.Eq
variable {W : World}
abbrev vL (x : Lin) : V := .agg [.d (.int .i64 x.c), .d (.list (x.ts.map Cf.enc))]
abbrev vT (t : Ty) : V := .agg [.d (.str t.elem), .d (.str t.row), .d (.list (t.dims.map Lin.enc))]
theorem eqRow_cf (x y : Cf) : eqRow [.str, .int] [.d (.str x.var), .d (.int .i64 x.c)] [.d (.str y.var), .d (.int .i64 y.c)] = some (cfEq x y) := by
  simp only [eqRow, keyIs, dEq, cond_true, if_pos rfl, cfEq]
  cases bytesEq x.var y.var with
  | false => rfl
  | true =>
    simp only [Bool.true_and]
    by_cases h : x.c = y.c
    · simp [h, eqRow]
    · have e : (x.c == y.c) = false := by simp [h]
      rw [e, decide_eq_false h]; simp
def cmpT : List Cf → List Cf → Option Int
  | x :: l, y :: m => if bytesLess x.var y.var = true ∨ (bytesEq x.var y.var = true ∧ x.c < y.c) then some (-1) else if cfEq x y = false then some 1 else cmpT l m
  | _, _ => none
def cmpF (a b : Lin) : Int := match cmpT a.ts b.ts with
  | some r => r
  | none => if a.ts.length < b.ts.length ∨ (a.ts.length = b.ts.length ∧ a.c < b.c) then -1 else if b.ts.length < a.ts.length ∨ b.c < a.c then 1 else 0
theorem cmpT_none : ∀ {l m : List Cf}, cmpT l m = none → l.length = m.length → l = m
  | [], [], _, _ => rfl
  | [], _ :: _, _, h => by simp at h
  | _ :: _, [], _, h => by simp at h
  | x :: l, y :: m, h, hl => by
    rw [cmpT] at h
    split at h
    · cases h
    · split at h
      · cases h
      · rename_i h1 h2
        rw [(cfEq_iff x y).1 (by simpa using h2), cmpT_none h (by simpa using hl)]
theorem less_self : ∀ (x : List UInt8), bytesLess x x = false
  | [] => rfl
  | a :: x => by rw [Fw.bytesLess, less_self x, show Nat.blt a.toNat a.toNat = false from by rw [Bool.eq_false_iff, ne_eq, Nat.blt_eq]; omega]; simp
theorem cmpT_self : ∀ (l : List Cf), cmpT l l = none
  | [] => rfl
  | x :: l => by
    have h1 : bytesLess x.var x.var = false := less_self _
    rw [cmpT, if_neg (by rw [h1]; simp), if_neg (by rw [(cfEq_iff x x).2 rfl]; simp)]
    exact cmpT_self l
theorem cmpT_ne : ∀ {l m : List Cf} {r : Int}, cmpT l m = some r → r ≠ 0 ∧ l ≠ m
  | [], _, r, h => by simp [cmpT] at h
  | _ :: _, [], r, h => by simp [cmpT] at h
  | x :: l, y :: m, r, h => by
    refine ⟨?_, fun e => by rw [e, cmpT_self] at h; cases h⟩
    rw [cmpT] at h
    split at h
    · simp only [Option.some.injEq] at h; omega
    · split at h
      · simp only [Option.some.injEq] at h; omega
      · exact (cmpT_ne h).1
theorem cmpF_eq (a b : Lin) : decide (cmpF a b = 0) = linEq a b := by
  rw [Bool.eq_iff_iff, decide_eq_true_eq, linEq_iff]
  constructor
  · intro h
    rw [cmpF] at h
    cases hc : cmpT a.ts b.ts with
    | some r => rw [hc] at h; exact absurd h (cmpT_ne hc).1
    | none =>
      rw [hc] at h
      simp only at h
      split at h
      · omega
      · split at h
        · omega
        · rename_i h1 h2
          have e1 : a.ts.length = b.ts.length := by omega
          have e2 : a.c = b.c := by omega
          have e3 := cmpT_none hc e1
          cases a; cases b
          simp only at e2 e3
          rw [e2, e3]
  · rintro rfl
    rw [cmpF, cmpT_self]
    simp
theorem pc_cmp (hW : W0 W) (a b : Lin) (ha : a.ts.length < 1099511627776) : PC P (gl W) 50 [vL a, vL b] (.d (.int .i64 (cmpF a b))) := by
  refine CG.start is50 ca50 rfl ?_
  refine s4 hW 8 0 [] 0 [(2, (.ptr 0 2 0)), (3, (.ptr 1 2 0)), (4, (io 0)), (5, (io 0))] [(0, (.cells [(io (Lin.c a)), (lo Cf.enc (Lin.ts a))])), (1, (.cells [(io (Lin.c b)), (lo Cf.enc (Lin.ts b))]))] ?_
  rotate_left
  refine CG.loopL a.ts (fun i u => [(2, (.ptr 0 2 0)), (3, (.ptr 1 2 0)), (4, (io 0)), (5, .d (.int .i64 (.ofNat i)))]) (fun i u => [some (.cells [(io (Lin.c a)), (lo Cf.enc (Lin.ts a))]), some (.cells [(io (Lin.c b)), (lo Cf.enc (Lin.ts b))])]) (fun i u r => (cmpT a.ts b.ts = cmpT r (b.ts.drop i))) () ?_ (Tidy.refl _ _) ?_ ?_
  · rfl
  · intro i u hi hd hinv
    have hn : cmpT a.ts b.ts = none := by rw [hinv]; simp [cmpT]
    refine s1 hW 2 6 [] 15 [(13, (bo (iLt (Int.ofNat i) (Int.ofNat (List.length (List.map Cf.enc (Lin.ts a)))))))] ?_
    have q12 : (iLt (Int.ofNat i) (Int.ofNat (List.length (List.map Cf.enc (Lin.ts a))))) = false := f_lt (by (try simp only [zz] at *) <;> omega)
    rw [q12]
    refine s1 hW 3 0 [false] 15 [] ?_
    refine CG.exitL (by decide) ?_
    refine s1 hW 5 8 [] 7 [(64, (bo (iLt (Int.ofNat (List.length (List.map Cf.enc (Lin.ts a)))) (Int.ofNat (List.length (List.map Cf.enc (Lin.ts b)))))))] ?_
    refine spLtN (List.length (List.map Cf.enc (Lin.ts a))) (List.length (List.map Cf.enc (Lin.ts b))) (fun q14 p14 => ?_) (fun q14 p14 => ?_) <;> simp only [zz] at p14
    rw [q14]
    refine s1 hW 6 0 [true] 0 [(4, (io (-1)))] ?_
    refine CG.ret (v' := (io (-1))) (by kernel_rfl) ?_
    rotate_left
    rw [q14]
    refine s1 hW 0 8 [] 15 [(72, (bo (iEq (Int.ofNat (List.length (List.map Cf.enc (Lin.ts a)))) (Int.ofNat (List.length (List.map Cf.enc (Lin.ts b)))))))] ?_
    refine spEqN (List.length (List.map Cf.enc (Lin.ts a))) (List.length (List.map Cf.enc (Lin.ts b))) (fun q16 p16 => ?_) (fun q16 p16 => ?_) <;> simp only [zz] at p16
    rw [q16]
    refine s1 hW 2 0 [] 7 [(56, (bo (iLt (Lin.c a) (Lin.c b))))] ?_
    refine spLt (Lin.c a) (Lin.c b) (fun q17 p17 => ?_) (fun q17 p17 => ?_)
    refine CG.condT q17 (by kernel_rfl) ?_
    refine s1 hW 3 0 [] 0 [(4, (io (-1)))] ?_
    refine CG.ret (v' := (io (-1))) (by kernel_rfl) ?_
    rotate_left
    refine CG.condF q17 (by kernel_rfl) ?_
    refine s1 hW 1 8 [] 7 [(88, (bo (iLt (Int.ofNat (List.length (List.map Cf.enc (Lin.ts b)))) (Int.ofNat (List.length (List.map Cf.enc (Lin.ts a)))))))] ?_
    have q18 : (iLt (Int.ofNat (List.length (List.map Cf.enc (Lin.ts b)))) (Int.ofNat (List.length (List.map Cf.enc (Lin.ts a))))) = false := f_lt (by (try simp only [zz] at *) <;> omega)
    rw [q18]
    refine s1 hW 2 0 [] 4 [(80, (bo (iLt (Lin.c b) (Lin.c a))))] ?_
    refine spLt (Lin.c b) (Lin.c a) (fun q19 p19 => ?_) (fun q19 p19 => ?_)
    refine CG.condT q19 (by kernel_rfl) ?_
    refine s1 hW 3 0 [] 0 [(4, (io 1))] ?_
    refine CG.ret (v' := (io 1)) (by kernel_rfl) ?_
    rotate_left
    refine CG.condF q19 (by kernel_rfl) ?_
    refine s1 hW 6 0 [] 1 [] ?_
    refine CG.ret (v' := (io 0)) (by kernel_rfl) ?_
    rotate_left
    rw [q16]
    refine s1 hW 4 8 [false] 7 [(88, (bo (iLt (Int.ofNat (List.length (List.map Cf.enc (Lin.ts b)))) (Int.ofNat (List.length (List.map Cf.enc (Lin.ts a)))))))] ?_
    have q20 : (iLt (Int.ofNat (List.length (List.map Cf.enc (Lin.ts b)))) (Int.ofNat (List.length (List.map Cf.enc (Lin.ts a))))) = true := t_lt (by (try simp only [zz] at *) <;> omega)
    rw [q20]
    refine s1 hW 6 0 [true] 0 [(4, (io 1))] ?_
    refine CG.ret (v' := (io 1)) (by kernel_rfl) ?_
    rotate_left
    all_goals (rw [cmpF, hn]; simp only; first | (rw [if_pos (by omega)]; done) | (rw [if_neg (by omega), if_pos (by omega)]; done) | (rw [if_neg (by omega), if_neg (by omega)]; done))
  · intro i u x r hdr hx hlt hinv
    by_cases hi : i < b.ts.length
    · obtain ⟨y, hy⟩ : ∃ y, b.ts[i]? = some y := ⟨_, List.getElem?_eq_getElem hi⟩
      rw [drop_at hy, cmpT] at hinv
      refine s1 hW 2 6 [] 15 [(13, (bo (iLt (Int.ofNat i) (Int.ofNat (List.length (List.map Cf.enc (Lin.ts a)))))))] ?_
      have q17 : (iLt (Int.ofNat i) (Int.ofNat (List.length (List.map Cf.enc (Lin.ts a))))) = true := t_lt (by (try simp only [zz] at *) <;> omega)
      rw [q17]
      refine s1 hW 2 0 [] 15 [(19, (bo (iLt (Int.ofNat i) (Int.ofNat (List.length (List.map Cf.enc (Lin.ts b)))))))] ?_
      refine CG.condT (show (iLt (Int.ofNat i) (Int.ofNat (List.length (List.map Cf.enc (Lin.ts b))))) = true from t_lt (by (try simp only [zz] at *) <;> omega)) (by kernel_rfl) ?_
      refine s1 hW 5 0 [] 15 [] ?_
      refine CG.drawW orders (by kernel_rfl) ?_
      refine AW.rk 3 [(22, (.ptr 0 2 1)), (23, (lo Cf.enc (Lin.ts a))), (24, (no i))] [] (by kernel_rfl) ?_
      refine AW.idx (idx_map (enc := Cf.enc) hx) rfl (by kernel_rfl) (by kernel_rfl) (by kernel_rfl) rfl ?_
      refine AW.rk 4 [(26, (.agg [(so (Cf.var x)), (io (Cf.c x))])), (27, (.ptr 1 2 1)), (28, (lo Cf.enc (Lin.ts b))), (29, (no i))] [] (by kernel_rfl) ?_
      refine AW.idx (idx_map (enc := Cf.enc) hy) rfl (by kernel_rfl) (by kernel_rfl) (by kernel_rfl) rfl ?_
      refine AW.rk 5 [(6, (.ptr 12 2 0)), (7, (.ptr 13 2 0)), (31, (.agg [(so (Cf.var y)), (io (Cf.c y))]))] [(12, (.cells [(so (Cf.var x)), (io (Cf.c x))])), (13, (.cells [(so (Cf.var y)), (io (Cf.c y))]))] (by kernel_rfl) ?_
      refine AW.nil rfl ⟨by kernel_rfl, AW.fin 14 [2, 3, 4, 5, 6, 7] (by kernel_rfl) rfl (by kernel_rfl) rfl (by kernel_rfl) ?_⟩
      refine s1 hW 3 6 [] 63 [(38, (bo (bytesLess (Cf.var x) (Cf.var y))))] ?_
      refine sp (bytesLess (Cf.var x) (Cf.var y)) (fun q18 => ?_) (fun q18 => ?_)
      rw [q18]
      refine s1 hW 6 0 [true] 11 [(4, (io (-1)))] ?_
      refine CG.retL (v' := (io (-1))) (by kernel_rfl) ?_
      rotate_left
      rw [q18]
      refine s1 hW 0 6 [] 127 [(44, (bo (bytesEq (Cf.var x) (Cf.var y))))] ?_
      refine sp (bytesEq (Cf.var x) (Cf.var y)) (fun q19 => ?_) (fun q19 => ?_)
      rw [q19]
      refine s1 hW 2 0 [] 63 [(32, (bo (iLt (Cf.c x) (Cf.c y))))] ?_
      refine spLt (Cf.c x) (Cf.c y) (fun q20 p20 => ?_) (fun q20 p20 => ?_)
      refine CG.condT q20 (by kernel_rfl) ?_
      refine s1 hW 3 0 [] 11 [(4, (io (-1)))] ?_
      refine CG.retL (v' := (io (-1))) (by kernel_rfl) ?_
      rotate_left
      refine CG.condF q20 (by kernel_rfl) ?_
      refine s1 hW 1 2 [] 15 [(53, (.agg [(so (Cf.var x)), (io (Cf.c x))])), (54, (.agg [(so (Cf.var y)), (io (Cf.c y))]))] ?_
      rotate_left
      rw [q19]
      refine s1 hW 4 2 [false] 15 [(53, (.agg [(so (Cf.var x)), (io (Cf.c x))])), (54, (.agg [(so (Cf.var y)), (io (Cf.c y))]))] ?_
      rotate_left
      · rw [cmpF, hinv, if_pos (.inl (by assumption))]
      · rw [cmpF, hinv, if_pos (.inr ⟨by assumption, by omega⟩)]
      · have hnl : ¬ (bytesLess x.var y.var = true ∨ bytesEq x.var y.var = true ∧ x.c < y.c) := by
          rintro (h | ⟨_, h⟩)
          · rw [show bytesLess x.var y.var = false by assumption] at h; cases h
          · omega
        rw [if_neg hnl] at hinv
        refine CG.eqS (xs := [(so (Cf.var x)), (io (Cf.c x))]) (ys := [(so (Cf.var y)), (io (Cf.c y))]) (r := (cfEq x y)) rfl (by kernel_rfl) (eqRow_cf x y) ?_
        cases hc : cfEq x y with
        | true =>
          rw [hc, if_neg (by simp)] at hinv
          refine s3 hW 7 3 [false] [(2, (.ptr 0 2 0)), (3, (.ptr 1 2 0)), (4, (io 0)), (5, (io (wrapF IntKind.i64 (iAdd (Int.ofNat i) 1))))] ([some (.cells [(io (Lin.c a)), (lo Cf.enc (Lin.ts a))]), some (.cells [(io (Lin.c b)), (lo Cf.enc (Lin.ts b))])] ++ nn 10 ([some (.cells [(so (Cf.var x)), (io (Cf.c x))]), some (.cells [(so (Cf.var y)), (io (Cf.c y))])])) ?_
          refine CG.endL rfl ?_
          rw [wrapI (by omega)]
          rotate_left
          exact ⟨(), hinv, Tidy.trim 2 [2, 3, 4, 5] rfl rfl rfl rfl rfl⟩
        | false =>
          rw [hc, if_pos rfl] at hinv
          refine s1 hW 6 0 [true] 11 [(4, (io 1))] ?_
          refine CG.retL (v' := (io 1)) (by kernel_rfl) ?_
          rotate_left
          rw [cmpF, hinv]
      · have hc : cfEq x y = false := by rw [cfEq, show bytesEq x.var y.var = false by assumption]; rfl
        rw [hc, if_neg (by rw [show bytesLess x.var y.var = false by assumption, show bytesEq x.var y.var = false by assumption]; simp), if_pos rfl] at hinv
        refine CG.eqS (xs := [(so (Cf.var x)), (io (Cf.c x))]) (ys := [(so (Cf.var y)), (io (Cf.c y))]) (r := (cfEq x y)) rfl (by kernel_rfl) (eqRow_cf x y) ?_
        refine s1 hW 2 0 [] 15 [(52, (bo (!cfEq x y)))] ?_
        refine CG.condT (b := (!cfEq x y)) (by rw [hc]; rfl) (by kernel_rfl) ?_
        refine s1 hW 3 0 [] 11 [(4, (io 1))] ?_
        refine CG.retL (v' := (io 1)) (by kernel_rfl) ?_
        rotate_left
        rw [cmpF, hinv]
    · have hn : cmpT a.ts b.ts = none := by rw [hinv, List.drop_of_length_le (by omega)]; simp [cmpT]
      refine s1 hW 2 6 [] 15 [(13, (bo (iLt (Int.ofNat i) (Int.ofNat (List.length (List.map Cf.enc (Lin.ts a)))))))] ?_
      have q16 : (iLt (Int.ofNat i) (Int.ofNat (List.length (List.map Cf.enc (Lin.ts a))))) = true := t_lt (by (try simp only [zz] at *) <;> omega)
      rw [q16]
      refine s1 hW 2 0 [] 15 [(19, (bo (iLt (Int.ofNat i) (Int.ofNat (List.length (List.map Cf.enc (Lin.ts b)))))))] ?_
      refine CG.condF (show (iLt (Int.ofNat i) (Int.ofNat (List.length (List.map Cf.enc (Lin.ts b))))) = false from f_lt (by (try simp only [zz] at *) <;> omega)) (by kernel_rfl) ?_
      refine CG.exitL (by decide) ?_
      refine s1 hW 5 8 [] 7 [(64, (bo (iLt (Int.ofNat (List.length (List.map Cf.enc (Lin.ts a)))) (Int.ofNat (List.length (List.map Cf.enc (Lin.ts b)))))))] ?_
      have q17 : (iLt (Int.ofNat (List.length (List.map Cf.enc (Lin.ts a)))) (Int.ofNat (List.length (List.map Cf.enc (Lin.ts b))))) = false := f_lt (by (try simp only [zz] at *) <;> omega)
      rw [q17]
      refine s1 hW 0 8 [] 15 [(72, (bo (iEq (Int.ofNat (List.length (List.map Cf.enc (Lin.ts a)))) (Int.ofNat (List.length (List.map Cf.enc (Lin.ts b)))))))] ?_
      have q18 : (iEq (Int.ofNat (List.length (List.map Cf.enc (Lin.ts a)))) (Int.ofNat (List.length (List.map Cf.enc (Lin.ts b))))) = false := f_eq (by (try simp only [zz] at *) <;> omega)
      rw [q18]
      refine s1 hW 4 8 [false] 7 [(88, (bo (iLt (Int.ofNat (List.length (List.map Cf.enc (Lin.ts b)))) (Int.ofNat (List.length (List.map Cf.enc (Lin.ts a)))))))] ?_
      have q19 : (iLt (Int.ofNat (List.length (List.map Cf.enc (Lin.ts b)))) (Int.ofNat (List.length (List.map Cf.enc (Lin.ts a))))) = true := t_lt (by (try simp only [zz] at *) <;> omega)
      rw [q19]
      refine s1 hW 6 0 [true] 0 [(4, (io 1))] ?_
      refine CG.ret (v' := (io 1)) (by kernel_rfl) ?_
      rotate_left
      all_goals (rw [cmpF, hn]; simp only; first | (rw [if_pos (by omega)]; done) | (rw [if_neg (by omega), if_pos (by omega)]; done) | (rw [if_neg (by omega), if_neg (by omega)]; done))
theorem pc_linR (hW : W0 W) (a b : Lin) (ha : a.ts.length < 1099511627776) : PC P (gl W) 25 [vL a, vL b] (.d (.bool (linEq a b))) := by
  refine CG.start is25 ca25 rfl ?_
  refine s4 hW 4 2 [] 0 [(4, (bo false)), (5, (.agg [(io (Lin.c a)), (lo Cf.enc (Lin.ts a))])), (6, (.agg [(io (Lin.c b)), (lo Cf.enc (Lin.ts b))]))] [(0, (.cells [(io (Lin.c a)), (lo Cf.enc (Lin.ts a))])), (1, (.cells [(io (Lin.c b)), (lo Cf.enc (Lin.ts b))]))] ?_
  refine CG.pg (pc_cmp hW a b ha) rfl (by kernel_rfl) ?_
  refine s1 hW 2 0 [] 0 [(4, (bo (iEq (cmpF a b) 0)))] ?_
  refine CG.ret (v' := (bo (iEq (cmpF a b) 0))) (by kernel_rfl) ?_
  rotate_left
  rw [← cmpF_eq, iEq_eq, V.d.injEq, D.bool.injEq, Bool.eq_iff_iff]; simp
end Fw.Tz.Ge

/-
  slices.Clone of types: a row of its own.
-/
namespace Fw.Tz.Gk
open Go Go.Proofs Fw.X Fw.Tz Fw.Nu Fw.Tz.Na Fw.Tz.El Fw.Tz.Va Fw.Tz.Vb Fw.Tz.Ga
variable {W : World}
noncomputable def rk (W : World) (n : Nat) (c : IR) (ks : List Nat) (tm : List (Nat × V)) (H : Heap) : Option XR :=
  runP [5] (gl W) (callX W kt0 .e (rawX W kt0 .e 40)) (pcallX kt0 .e (rawX W kt0 .e 40)) n c ks tm H
noncomputable def rd (W : World) (ov : List (Nat × Bool)) (sp : List (Nat × V)) (n : Nat) (l : List IOper) (ks : List Nat) (tm : List (Nat × V)) (H : Heap) : Option (List V × Heap × List (Bool × Bool) × CallL) :=
  runDX [5] (gl W) (dcallOf (pcallX kt0 .e (rawX W kt0 .e 40)) (callX W kt0 .e (rawX W kt0 .e 40))) ov sp n l ks tm H
theorem dg (hW : W0 W) (ov : List (Nat × Bool)) (sp : List (Nat × V)) {n : Nat} {l : List IOper} {K : List Fr} {tm tm' : List (Nat × V)} {H H' : Heap} {cs : List (Bool × Bool)} {calls : CallL} {Q : Ex → St → Prop}
    (h : rd W ov sp n l (tm'.map Prod.fst) tm H = some (tm'.map Prod.snd, H', cs, calls)) (hcs : allEq cs) (hcl : allPC P (gl W) calls) (hq : CG P (gl W) (.out .normal) K n tm' H' Q) : CG P (gl W) (.code (.draw l)) K n tm H Q :=
  CG.drawX orders (dcallOf_ok (pcallX_ok hW (ex0) _ (rawX_ok hW (ex0) 40)) (callX_ok hW (ex0) _ (rawX_ok hW (ex0) 40))) ov sp h hcs hcl hq
noncomputable def rg (W : World) (n : Nat) (N j : Nat) (bs : List Bool) (cur : Cur) (K : List Fr) (ks : List Nat) (tm : List (Nat × V)) (H : Heap) : Option XR :=
  runG [5] (gl W) (callX W kt0 .e (rawX W kt0 .e 40)) (pcallX kt0 .e (rawX W kt0 .e 40)) n N j bs cur K ks tm H
theorem s2 (hW : W0 W) (N j : Nat) (bs : List Bool) (m : Nat) (nw : List (Nat × V)) (H' : Heap) {cur c' : Cur} {K K' : List Fr} {n : Nat} {tm : List (Nat × V)} {H : Heap} {Q : Ex → St → Prop} (hq : CG P (gl W) c' K' n (upd m nw tm) H' Q) (h1 : ctlJ N j bs cur K = some (c', K') := by rfl) (h2 : rg W n N j bs cur K ((upd m nw tm).map Prod.fst) tm H = some (.tuple ((upd m nw tm).map Prod.snd), H') := by kernel_rfl) : CG P (gl W) cur K n tm H Q :=
  CG.st orders (callX_ok hW (ex0) _ (rawX_ok hW (ex0) 40)) (pcallX_ok hW (ex0) _ (rawX_ok hW (ex0) 40)) N j bs h1 h2 hq
theorem s1 (hW : W0 W) (N j : Nat) (bs : List Bool) (m : Nat) (nw : List (Nat × V)) {cur c' : Cur} {K K' : List Fr} {n : Nat} {tm : List (Nat × V)} {H : Heap} {Q : Ex → St → Prop} (hq : CG P (gl W) c' K' n (upd m nw tm) H Q) (h1 : ctlJ N j bs cur K = some (c', K') := by rfl) (h2 : rg W n N j bs cur K ((upd m nw tm).map Prod.fst) tm H = some (.tuple ((upd m nw tm).map Prod.snd), H) := by kernel_rfl) : CG P (gl W) cur K n tm H Q := s2 hW N j bs m nw H hq h1 h2
theorem s4 (hW : W0 W) (N j : Nat) (bs : List Bool) (m : Nat) (nw : List (Nat × V)) (hd : List (Nat × Box)) {cur c' : Cur} {K K' : List Fr} {n : Nat} {tm : List (Nat × V)} {H : Heap} {Q : Ex → St → Prop} (hq : CG P (gl W) c' K' n (upd m nw tm) (hpu hd H) Q) (h1 : ctlJ N j bs cur K = some (c', K') := by rfl) (h2 : rg W n N j bs cur K ((upd m nw tm).map Prod.fst) tm H = some (.tuple ((upd m nw tm).map Prod.snd), hpu hd H) := by kernel_rfl) : CG P (gl W) cur K n tm H Q := s2 hW N j bs m nw (hpu hd H) hq h1 h2
theorem s3 (hW : W0 W) (N j : Nat) (bs : List Bool) (tm' : List (Nat × V)) (H' : Heap) {cur c' : Cur} {K K' : List Fr} {n : Nat} {tm : List (Nat × V)} {H : Heap} {Q : Ex → St → Prop} (hq : CG P (gl W) c' K' n tm' H' Q) (h1 : ctlJ N j bs cur K = some (c', K') := by rfl) (h2 : rg W n N j bs cur K (tm'.map Prod.fst) tm H = some (.tuple (tm'.map Prod.snd), H') := by kernel_rfl) : CG P (gl W) cur K n tm H Q :=
  CG.st orders (callX_ok hW (ex0) _ (rawX_ok hW (ex0) 40)) (pcallX_ok hW (ex0) _ (rawX_ok hW (ex0) 40)) N j bs h1 h2 hq
theorem wf_clone (hW : W0 W) (a : Ty) (l : List Ty) (hl : (a :: l).length < 1048577) : WF P (gl W) 45 [.d (.list ((a :: l).map Ty.enc))] [] (fun v H' => v = .sl 0 ((a :: l).length * 3) 0 (a :: l).length 3 ∧ H' = [some (cellE Ty.enc (a :: l))]) := by
  refine WF.tidyRes (CG.startW is45 ca45 rfl ?_)
  refine s4 hW 11 2 [false] 1 [(2, .nils), (5, (.sl 0 0 0 0 3)), (6, (.d (.list ([(.str (Ty.elem a)), (.str (Ty.row a)), (.list (List.map Lin.enc (Ty.dims a)))] :: (List.map Ty.enc l)))))] [(0, (.cells []))] ?_
  rotate_left
  refine CG.is [(0, (.d (.list ([(.str (Ty.elem a)), (.str (Ty.row a)), (.list (List.map Lin.enc (Ty.dims a)))] :: (List.map Ty.enc l))))), (2, .nils), (5, .sl 0 (List.length ([] : List Ty) * 3) 0 (List.length ([] : List Ty)) 3), (6, (.d (.list ([(.str (Ty.elem a)), (.str (Ty.row a)), (.list (List.map Lin.enc (Ty.dims a)))] :: (List.map Ty.enc l)))))] ([some (cellE Ty.enc ([] : List Ty))]) (by kernel_rfl) ?_
  refine CG.apC Ty.enc [] (({ elem := Ty.elem a, row := Ty.row a, dims := Ty.dims a }) :: l) 0 (fun _ => rfl) rfl (by kernel_rfl) (sliceC_map (enc := Ty.enc) (fun _ => rfl) _ (({ elem := Ty.elem a, row := Ty.row a, dims := Ty.dims a }) :: l)) (by (try simp only [zz] at *) <;> omega) ?_
  refine s1 hW 2 0 [] 1 [(2, (.sl 0 (List.length ([] ++ a :: l) * 3) 0 (List.length ([] ++ a :: l)) 3))] ?_
  refine CG.retW (v' := (.sl 0 (List.length ([] ++ a :: l) * 3) 0 (List.length ([] ++ a :: l)) 3)) (by kernel_rfl) ?_
  rotate_left
  exact ⟨_, Tidy.refl _ _, rfl, rfl⟩
end Fw.Tz.Gk

/-
  The types of a scheme, by the program: slices.Clone and an element more, in a drawn region.
-/
namespace Fw.Tz.Gd
open Go Go.Proofs Fw.X Fw.Tz Fw.Nu Fw.Tz.Sd Fw.Tz.Na Fw.Tz.El Fw.Tz.Va Fw.Tz.Vb Fw.Tz.Ga
variable {W : World}
theorem isC : compFn P 45 = some (cloneT 3 56) := by kernel_rfl
theorem clone_nilT : PC P (gl W) 45 [.d (.list [])] (.full []) := by
  refine PC.ofG (R := fun r _ => r = .nils ∨ r = .full []) rfl (WF.body isC ca45 (by simp [cloneT]) ?_) (fun r H' g g' w x h1 _ _ h4 => by rcases h1 with rfl | rfl <;> grind[RV,Rd])
  simp only [cloneT, mkTm]
  refine WC.seq (WC.reg (own := []) (by simp [runO, asData, guardB, eff, evo, get_cons, put_cons, put_nil, stput_some, happ, cloneT]; rfl) ?_)
  refine WC.seq (WC.seq (WC.regN 1 (own := []) (by simp [runO, asData, guardB, eff, evo, get_cons, put_cons, put_nil, stput_some, happ]; rfl) ?_))
  refine WO.eqEmpty (x := .t 3) (y := .c .nils) rfl rfl (by simp [evo, get_cons]) (by simp [evo, get_cons]) fun b => ?_
  refine ⟨_, by simp [put_cons, put_nil, stput_some]; rfl, WO.nil ?_⟩
  cases b with
  | true =>
    refine WC.cond (t := true) (by simp [evo, get_cons]) ?_
    refine WC.seq (WC.reg (own := []) (by simp [runO, asData, guardB, eff, evo, get_cons, put_cons, put_nil, stput_some, happ]; rfl) (WC.ret ?_))
    exact ⟨.nils, by simp [resV, cloneT, mapO, resOne, get_cons], .inl rfl⟩
  | false =>
    refine WC.cond (t := false) (by simp [evo, get_cons]) (WC.skip ?_)
    refine WC.seq (WC.regN 2 (own := []) (by simp [runO, asData, inO, guardB, eff, effF, evo, get_cons, put_cons, put_nil, stput_some, happ, fillC, dcells, mapO, nbeq]; rfl) ?_)
    refine WO.appE (x := .t 5) (y := .t 6) rfl rfl (by simp [evo, get_cons]) (by simp [evo, get_cons]) (by simp [put_cons, put_nil, stput_some]; rfl) ?_
    refine WO.eff (v := .full []) (wr := none) rfl (by simp [eff, evo, get_cons]) (by simp [put_cons, put_nil, stput_some, happ]; rfl) (WO.nil (WC.ret ?_))
    exact ⟨.full [], by simp [resV, cloneT, mapO, resOne, get_cons], .inr rfl⟩
theorem pc_ends (hW : W0 W) (s : Sch) (hs : s.ps.length < 1048576) : PC P (gl W) 19 [vSc s] (.d (.list ((s.ps ++ [s.r]).map Ty.enc))) := by
  refine CG.start is19 ca19 rfl ?_
  cases hps : s.ps with
  | nil =>
    have hC : PC P (gl W) 45 [.d (.list (s.ps.map Ty.enc))] (.full []) := by rw [hps]; exact clone_nilT
    refine s4 hW 4 0 [] 0 [(1, (.ptr 0 5 0)), (2, .nils)] [(0, (.cells [(lo Ty.enc (Sch.ps s)), (so (Ty.elem (Sch.r s))), (so (Ty.row (Sch.r s))), (lo Lin.enc (Ty.dims (Sch.r s))), (lo Lin.enc (Sch.wh s))]))] ?_
    refine CG.drawW orders (by kernel_rfl) ?_
    refine AW.rk 2 [(3, (.ptr 0 5 0)), (4, (lo Ty.enc (Sch.ps s)))] [] (by kernel_rfl) ?_
    rotate_left
    refine AW.pcG hC rfl (by kernel_rfl) (by kernel_rfl) ?_
    refine AW.rk 5 [(2, (.sl 7 3 0 1 3)), (6, (.ptr 0 5 1)), (7, (.agg [(so (Ty.elem (Sch.r s))), (so (Ty.row (Sch.r s))), (lo Lin.enc (Ty.dims (Sch.r s)))])), (8, (.sl 6 3 0 1 3)), (9, (.sl 7 3 0 1 3))] [(6, (.cells [(so (Ty.elem (Sch.r s))), (so (Ty.row (Sch.r s))), (lo Lin.enc (Ty.dims (Sch.r s)))])), (7, (.cells [(so (Ty.elem (Sch.r s))), (so (Ty.row (Sch.r s))), (lo Lin.enc (Ty.dims (Sch.r s)))]))] (by kernel_rfl) ?_
    refine AW.nil rfl ⟨by kernel_rfl, AW.fin 8 [2] (by kernel_rfl) rfl (by kernel_rfl) rfl (by kernel_rfl) ?_⟩
    refine s1 hW 1 0 [] 1 [] ?_
    refine CG.ret (v' := (.d (.list [[(.str (Ty.elem (Sch.r s))), (.str (Ty.row (Sch.r s))), (.list (List.map Lin.enc (Ty.dims (Sch.r s))))]]))) (by kernel_rfl) ?_
    rfl
  | cons a l =>
    have hC : WF P (gl W) 45 [.d (.list (s.ps.map Ty.enc))] [] (fun v H' => v = .sl 0 (s.ps.length * 3) 0 s.ps.length 3 ∧ H' = [some (cellE Ty.enc s.ps)]) := by
      rw [hps]; exact Gk.wf_clone hW a l (by rw [← hps]; omega)
    rw [← hps]
    refine s4 hW 4 0 [] 0 [(1, (.ptr 0 5 0)), (2, .nils)] [(0, (.cells [(lo Ty.enc (Sch.ps s)), (so (Ty.elem (Sch.r s))), (so (Ty.row (Sch.r s))), (lo Lin.enc (Ty.dims (Sch.r s))), (lo Lin.enc (Sch.wh s))]))] ?_
    refine CG.drawW orders (by kernel_rfl) ?_
    refine AW.rk 2 [(3, (.ptr 0 5 0)), (4, (lo Ty.enc (Sch.ps s)))] [] (by kernel_rfl) ?_
    rotate_left
    refine AW.ownC Ty.enc s.ps (fun _ => rfl) hC rfl rfl (by kernel_rfl) (by kernel_rfl) ?_
    refine AW.rk 3 [(6, (.ptr 0 5 1)), (7, (.agg [(so (Ty.elem (Sch.r s))), (so (Ty.row (Sch.r s))), (lo Lin.enc (Ty.dims (Sch.r s)))])), (8, (.sl 6 3 0 1 3))] [(6, (.cells [(so (Ty.elem (Sch.r s))), (so (Ty.row (Sch.r s))), (lo Lin.enc (Ty.dims (Sch.r s)))]))] (by kernel_rfl) ?_
    rotate_left
    refine AW.appC Ty.enc s.ps [s.r] (sz := 3) 3 (fun _ => rfl) rfl (by kernel_rfl) (by kernel_rfl) (by simp; omega) ?_
    refine AW.rk 1 [(2, (.sl 3 (List.length (Sch.ps s ++ [Sch.r s]) * 3) 0 (List.length (Sch.ps s ++ [Sch.r s])) 3))] [] (by kernel_rfl) ?_
    refine AW.nil rfl ⟨by kernel_rfl, AW.fin (H2 := [some (.cells [(lo Ty.enc (Sch.ps s)), (so (Ty.elem (Sch.r s))), (so (Ty.row (Sch.r s))), (lo Lin.enc (Ty.dims (Sch.r s))), (lo Lin.enc (Sch.wh s))]), none, none, some (cellE Ty.enc (Sch.ps s ++ [Sch.r s])), none, none, some (.cells [(so (Ty.elem (Sch.r s))), (so (Ty.row (Sch.r s))), (lo Lin.enc (Ty.dims (Sch.r s)))])]) 7 [2] (by kernel_rfl) rfl (by kernel_rfl) (by kernel_rfl) (by simp [nn, heapLt, boxLt_row, boxLt_cell, boxLt_cs, boxLt_nil, refsLtL, refsLt]) ?_⟩
    refine s1 hW 1 0 [] 1 [] ?_
    rotate_left
    refine CG.tidy (Tidy.frzC (sz := 3) Ty.enc (Sch.ps s ++ [Sch.r s]) 3 2 (tm' := [(2, (.d (.list (List.map Ty.enc (Sch.ps s ++ [Sch.r s])))))]) (H' := [some (.cells [(lo Ty.enc (Sch.ps s)), (so (Ty.elem (Sch.r s))), (so (Ty.row (Sch.r s))), (lo Lin.enc (Ty.dims (Sch.r s))), (lo Lin.enc (Sch.wh s))])] ++ nn 5 ([some (.cells [(so (Ty.elem (Sch.r s))), (so (Ty.row (Sch.r s))), (lo Lin.enc (Ty.dims (Sch.r s)))])])) (fun _ => rfl) (by kernel_rfl) (by kernel_rfl) ⟨.inr rfl, ⟨.inr trivial, ⟨.inr trivial, ⟨.inl rfl, ⟨.inr trivial, ⟨.inr trivial, ⟨.inr rfl, trivial⟩⟩⟩⟩⟩⟩⟩ (by kernel_rfl) (by kernel_rfl)) ?_
    refine CG.ret (v' := (lo Ty.enc (Sch.ps s ++ [Sch.r s]))) (by kernel_rfl) ?_
    with_reducible rfl
end Fw.Tz.Gd
