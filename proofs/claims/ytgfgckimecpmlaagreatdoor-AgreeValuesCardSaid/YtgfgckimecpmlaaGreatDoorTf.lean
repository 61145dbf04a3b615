/-
  Constraints that are valid or known; what the program and the reference say of any.
-/
import Derived.Test.YtgfgckimecpmlaaGreatDoorTe
import Derived.Test.YtgfgckimecpmlaaGreatDoorTd
import Derived.Test.YtgfgckimecpmlaaGreatDoorFg

set_option linter.unusedSimpArgs false
set_option maxRecDepth 1000000
set_option maxHeartbeats 4000000
namespace Fw.Tz.Vc
open Go Go.Proofs Fw.X Fw.Tz Fw.Nu Fw.Tz.Sd Fw.Tz.Na Fw.Tz.El Fw.Tz.Va Fw.Tz.Vb
variable {W : World}
def Ty.sm (t : Ty) : Prop := t.elem.length < 1099511627776 ∧ t.row.length < 1099511627776 ∧ t.dims.length < 1099511627776 ∧ ∀ x ∈ t.dims, Lin.sm x
structure Con where
  k : Int
  s : D
  ta : Ty
  tb : Ty
  gs : List Ty
  ws : List Ty
  r : Ty
  x : Ty
  lin : Lin
def Con.cells (c : Con) : List V := [.d (.int .i64 c.k), .d c.s, .d (.str c.ta.elem), .d (.str c.ta.row), .d (.list (c.ta.dims.map Lin.enc)), .d (.str c.tb.elem), .d (.str c.tb.row), .d (.list (c.tb.dims.map Lin.enc)), .d (.list (c.gs.map Ty.enc)), .d (.list (c.ws.map Ty.enc)), .d (.str c.r.elem), .d (.str c.r.row), .d (.list (c.r.dims.map Lin.enc)), .d (.str c.x.elem), .d (.str c.x.row), .d (.list (c.x.dims.map Lin.enc)), .d (.int .i64 c.lin.c), .d (.list (c.lin.ts.map Cf.enc))]
structure Con.sm (c : Con) : Prop where
  gl : c.gs.length < 1099511627776
  wl : c.ws.length < 1099511627776
  ta : Ty.sm c.ta
  tb : Ty.sm c.tb
  g : ∀ t ∈ c.gs, Ty.sm t
  w : ∀ t ∈ c.ws, Ty.sm t
  r : Ty.sm c.r
  x : Ty.sm c.x
def badT (t : Ty) : Bool := !tyB t
def hasRow (t : Ty) : Bool := !Fw.bytesEq t.row []
def badW (t : Ty) : Bool := badT t || hasRow t
def conB (c : Con) : Bool := decide (c.k = 2) && decide (c.gs.length = c.ws.length) && decide (c.gs.length ≤ 16) && tyB c.r && tyB c.x && !hasRow c.x && !c.gs.any badT && !c.ws.any badW
def knownB (c : Con) : Bool := conB c && !c.gs.any hasRow
theorem pc_badT (hW : W0 W) (t : Ty) (hs : Ty.sm t) : PC P (gl W) 52 [.agg [.d (.str t.elem), .d (.str t.row), .d (.list (t.dims.map Lin.enc))]] (.d (.bool (badT t))) := by
  refine CG.start is52 ca52 rfl ?_
  refine s4 hW 4 1 [] 0 [(2, (bo false)), (3, (.agg [(so (Ty.elem t)), (so (Ty.row t)), (lo Lin.enc (Ty.dims t))]))] [(0, (.cells [(so (Ty.elem t)), (so (Ty.row t)), (lo Lin.enc (Ty.dims t))]))] ?_
  refine CG.pg (pc_ty hW _ _ _ hs.1 hs.2.1 hs.2.2.1 hs.2.2.2) rfl (by kernel_rfl) ?_
  refine s1 hW 2 0 [] 0 [(2, (bo (!tyB { elem := Ty.elem t, row := Ty.row t, dims := Ty.dims t })))] ?_
  refine CG.ret (v' := (bo (!tyB t))) (by kernel_rfl) ?_
  rfl
theorem pc_badTIdx (hW : W0 W) (l : List Ty) (hl : l.length < 1099511627776) (hd : ∀ x ∈ l, Ty.sm x) : PC P (gl W) 112 [.d (.list (l.map Ty.enc)), .func 52 [] []] (fiV (l.findIdx? badT)) := by
  refine CG.start is112 ca112 rfl ?_
  refine s1 hW 8 0 [] 3 [(4, (io 0)), (7, (no (List.length (List.map Ty.enc l)))), (8, (io 0))] ?_
  rotate_left
  refine CG.loopL l (fun i u => [(0, (lo Ty.enc l)), (1, (.func 52 [] [])), (4, (io 0)), (7, (no (List.length (List.map Ty.enc l)))), (8, .d (.int .i64 (.ofNat i)))]) (fun i u => []) (fun i u r => (fiV (l.findIdx? badT) = fiV ((r.findIdx? badT).map (· + i)))) () ?_ (Tidy.refl _ _) ?_ ?_
  · cases l.findIdx? badT <;> rfl
  · intro i u hi hd hinv
    refine s1 hW 4 0 [] 23 [(9, (bo (iLt (Int.ofNat i) (Int.ofNat (List.length (List.map Ty.enc l))))))] ?_
    refine CG.condF (show (iLt (Int.ofNat i) (Int.ofNat (List.length (List.map Ty.enc l)))) = false from f_lt (by (try simp only [zz] at *) <;> omega)) (by kernel_rfl) ?_
    refine CG.exitL (by decide) ?_
    refine s1 hW 5 0 [] 0 [(4, (io (-1)))] ?_
    refine CG.ret (v' := (io (-1))) (by kernel_rfl) ?_
    rotate_left
    rw [hinv]; rfl
  · intro i u x r hdr hx hlt hinv
    have hs := hd x (List.mem_of_getElem? hx)
    refine s1 hW 4 0 [] 31 [(9, (bo (iLt (Int.ofNat i) (Int.ofNat (List.length (List.map Ty.enc l))))))] ?_
    refine CG.condT (show (iLt (Int.ofNat i) (Int.ofNat (List.length (List.map Ty.enc l)))) = true from t_lt (by (try simp only [zz] at *) <;> omega)) (by kernel_rfl) ?_
    refine s1 hW 8 3 [] 31 [(5, (no i)), (11, (.func 52 [] [])), (12, (lo Ty.enc l)), (13, (no i))] ?_
    refine CG.ix (idx_map (enc := Ty.enc) hx) rfl (by kernel_rfl) ?_
    refine s1 hW 0 1 [] 127 [(15, (.agg [(so (Ty.elem x)), (so (Ty.row x)), (lo Lin.enc (Ty.dims x))]))] ?_
    refine CG.pcv (first := []) (cap := []) (pc_badT hW x hs) rfl (by kernel_rfl) (by kernel_rfl) (by kernel_rfl) rfl ?_
    refine s1 hW 2 0 [] 319 [] ?_
    refine sp (badT x) (fun q15 => ?_) (fun q15 => ?_)
    refine CG.condT q15 (by kernel_rfl) ?_
    refine s1 hW 3 0 [] 51 [(4, (no i))] ?_
    refine CG.retL (v' := (no i)) (by kernel_rfl) ?_
    rotate_left
    refine CG.condF q15 (by kernel_rfl) ?_
    refine s3 hW 3 2 [] [(0, (lo Ty.enc l)), (1, (.func 52 [] [])), (4, (io 0)), (7, (no (List.length (List.map Ty.enc l)))), (8, (io (wrapF IntKind.i64 (iAdd (Int.ofNat i) 1))))] ([]) ?_
    refine CG.endL rfl ?_
    rw [wrapI (by omega)]
    rotate_left
    all_goals first
      | (rw [hinv, List.findIdx?_cons, show badT x = true from by first | assumption | simp [hasRow, *]]; simp [fiV]; done)
      | (refine ⟨(), ?_, Tidy.refl _ _⟩
         rw [hinv, List.findIdx?_cons, show badT x = false from by first | assumption | simp [hasRow, *]]
         cases r.findIdx? badT with
         | none => rfl
         | some j => simp only [cond_false, Option.map_some, fiV, if_false, Bool.false_eq_true]; rw [show j + 1 + i = j + (i + 1) by omega])
theorem pc_badTAny (hW : W0 W) (l : List Ty) (hl : l.length < 1099511627776) (hd : ∀ x ∈ l, Ty.sm x) : PC P (gl W) 53 [.d (.list (l.map Ty.enc)), .func 52 [] []] (.d (.bool (l.any badT))) := by
  refine CG.start is53 ca53 rfl ?_
  refine s1 hW 4 2 [] 0 [(4, (bo false)), (5, (lo Ty.enc l)), (6, (.func 52 [] []))] ?_
  refine CG.pg (pc_badTIdx hW _ hl hd) rfl (by kernel_rfl) ?_
  rotate_left
  have : l.any badT = (l.findIdx? badT).isSome := by rw [List.findIdx?_isSome]
  rw [this]
  cases l.findIdx? badT with
  | none => refine s1 hW 2 0 [] 1 [] ?_
            refine CG.ret (v' := (bo false)) (by kernel_rfl) ?_
            rfl
  | some i => refine s1 hW 2 0 [] 0 [(4, (bo true))] ?_
              refine CG.ret (v' := (bo true)) (by kernel_rfl) ?_
              rfl
theorem pc_rowIdx (hW : W0 W) (l : List Ty) (hl : l.length < 1099511627776) (hd : ∀ x ∈ l, Ty.sm x) : PC P (gl W) 112 [.d (.list (l.map Ty.enc)), .func 55 [] []] (fiV (l.findIdx? hasRow)) := by
  refine CG.start is112 ca112 rfl ?_
  refine s1 hW 8 0 [] 3 [(4, (io 0)), (7, (no (List.length (List.map Ty.enc l)))), (8, (io 0))] ?_
  rotate_left
  refine CG.loopL l (fun i u => [(0, (lo Ty.enc l)), (1, (.func 55 [] [])), (4, (io 0)), (7, (no (List.length (List.map Ty.enc l)))), (8, .d (.int .i64 (.ofNat i)))]) (fun i u => []) (fun i u r => (fiV (l.findIdx? hasRow) = fiV ((r.findIdx? hasRow).map (· + i)))) () ?_ (Tidy.refl _ _) ?_ ?_
  · cases l.findIdx? hasRow <;> rfl
  · intro i u hi hd hinv
    refine s1 hW 4 0 [] 23 [(9, (bo (iLt (Int.ofNat i) (Int.ofNat (List.length (List.map Ty.enc l))))))] ?_
    refine CG.condF (show (iLt (Int.ofNat i) (Int.ofNat (List.length (List.map Ty.enc l)))) = false from f_lt (by (try simp only [zz] at *) <;> omega)) (by kernel_rfl) ?_
    refine CG.exitL (by decide) ?_
    refine s1 hW 5 0 [] 0 [(4, (io (-1)))] ?_
    refine CG.ret (v' := (io (-1))) (by kernel_rfl) ?_
    rotate_left
    rw [hinv]; rfl
  · intro i u x r hdr hx hlt hinv
    have hs := hd x (List.mem_of_getElem? hx)
    refine s1 hW 4 0 [] 31 [(9, (bo (iLt (Int.ofNat i) (Int.ofNat (List.length (List.map Ty.enc l))))))] ?_
    refine CG.condT (show (iLt (Int.ofNat i) (Int.ofNat (List.length (List.map Ty.enc l)))) = true from t_lt (by (try simp only [zz] at *) <;> omega)) (by kernel_rfl) ?_
    refine s1 hW 8 3 [] 31 [(5, (no i)), (11, (.func 55 [] [])), (12, (lo Ty.enc l)), (13, (no i))] ?_
    refine CG.ix (idx_map (enc := Ty.enc) hx) rfl (by kernel_rfl) ?_
    refine s1 hW 2 0 [] 63 [(16, (bo (!bytesEq (Ty.row x) [])))] ?_
    refine sp (bytesEq (Ty.row x) []) (fun q15 => ?_) (fun q15 => ?_)
    refine CG.condF (b := (!bytesEq (Ty.row x) [])) (by rw [q15]; rfl) (by kernel_rfl) ?_
    refine s3 hW 3 2 [] [(0, (lo Ty.enc l)), (1, (.func 55 [] [])), (4, (io 0)), (7, (no (List.length (List.map Ty.enc l)))), (8, (io (wrapF IntKind.i64 (iAdd (Int.ofNat i) 1))))] ([]) ?_
    refine CG.endL rfl ?_
    rw [wrapI (by omega)]
    rotate_left
    refine CG.condT (b := (!bytesEq (Ty.row x) [])) (by rw [q15]; rfl) (by kernel_rfl) ?_
    refine s1 hW 3 0 [] 51 [(4, (no i))] ?_
    refine CG.retL (v' := (no i)) (by kernel_rfl) ?_
    rotate_left
    all_goals first
      | (rw [hinv, List.findIdx?_cons, show hasRow x = true from by first | assumption | simp [hasRow, *]]; simp [fiV]; done)
      | (refine ⟨(), ?_, Tidy.refl _ _⟩
         rw [hinv, List.findIdx?_cons, show hasRow x = false from by first | assumption | simp [hasRow, *]]
         cases r.findIdx? hasRow with
         | none => rfl
         | some j => simp only [cond_false, Option.map_some, fiV, if_false, Bool.false_eq_true]; rw [show j + 1 + i = j + (i + 1) by omega])
theorem pc_rowAny (hW : W0 W) (l : List Ty) (hl : l.length < 1099511627776) (hd : ∀ x ∈ l, Ty.sm x) : PC P (gl W) 53 [.d (.list (l.map Ty.enc)), .func 55 [] []] (.d (.bool (l.any hasRow))) := by
  refine CG.start is53 ca53 rfl ?_
  refine s1 hW 4 2 [] 0 [(4, (bo false)), (5, (lo Ty.enc l)), (6, (.func 55 [] []))] ?_
  refine CG.pg (pc_rowIdx hW _ hl hd) rfl (by kernel_rfl) ?_
  rotate_left
  have : l.any hasRow = (l.findIdx? hasRow).isSome := by rw [List.findIdx?_isSome]
  rw [this]
  cases l.findIdx? hasRow with
  | none => refine s1 hW 2 0 [] 1 [] ?_
            refine CG.ret (v' := (bo false)) (by kernel_rfl) ?_
            rfl
  | some i => refine s1 hW 2 0 [] 0 [(4, (bo true))] ?_
              refine CG.ret (v' := (bo true)) (by kernel_rfl) ?_
              rfl
def hC (b : Box) : Heap := [some b, some (.cells [.func 52 [] []])]
theorem heapLt_hC {b : Box} (hb : boxLt 2 b = true) : heapLt 2 (hC b) = true := by
  show (boxLt 2 b && _) = true
  rw [hb]; rfl
theorem wf_badW (hW : W0 W) (b : Box) (hb : boxLt 2 b = true) (t : Ty) (hs : Ty.sm t) : WF P (gl W) 54 [.agg [.d (.str t.elem), .d (.str t.row), .d (.list (t.dims.map Lin.enc))], .ptr 1 1 0] (hC b) (Same (.d (.bool (badW t))) (hC b)) := by
  refine WF.cut ?_
  refine CG.startW is54 ca54 rfl ?_
  refine s4 hW 4 2 [] 0 [(2, (.ptr 2 3 0)), (3, (bo false)), (4, (.func 52 [] [])), (5, (.agg [(so (Ty.elem t)), (so (Ty.row t)), (lo Lin.enc (Ty.dims t))]))] [(2, (.cells [(so (Ty.elem t)), (so (Ty.row t)), (lo Lin.enc (Ty.dims t))]))] ?_
  refine CG.pcv (first := []) (cap := []) (pc_badT hW t hs) rfl (by kernel_rfl) (by kernel_rfl) (by kernel_rfl) rfl ?_
  refine s1 hW 0 1 [] 3 [(7, (bo (badT t)))] ?_
  refine sp (badT t) (fun q7 => ?_) (fun q7 => ?_)
  rw [q7]
  refine s1 hW 2 0 [] 0 [(3, (bo true))] ?_
  refine CG.retW (v' := (bo true)) (by kernel_rfl) ?_
  rotate_left
  rw [q7]
  refine s1 hW 2 0 [] 0 [(3, (bo (!bytesEq (Ty.row t) [])))] ?_
  refine CG.retW (v' := (bo (!bytesEq (Ty.row t) []))) (by kernel_rfl) ?_
  rotate_left
  all_goals exact .inr ⟨rfl, heapLt_hC hb, by simp [badW, hasRow, *], rfl⟩
theorem wf_badWIdx (hW : W0 W) (b : Box) (hb : boxLt 2 b = true) (l : List Ty) (hl : l.length < 1099511627776) (hd : ∀ x ∈ l, Ty.sm x) : WF P (gl W) 112 [.d (.list (l.map Ty.enc)), .func 54 [] [.ptr 1 1 0]] (hC b) (Same (fiV (l.findIdx? badW)) (hC b)) := by
  refine CG.startW is112 ca112 rfl ?_
  refine s1 hW 8 0 [] 3 [(4, (io 0)), (7, (no (List.length (List.map Ty.enc l)))), (8, (io 0))] ?_
  rotate_left
  refine CG.loopL l (fun i u => [(0, (lo Ty.enc l)), (1, (.func 54 [] [(.ptr 1 1 0)])), (4, (io 0)), (7, (no (List.length (List.map Ty.enc l)))), (8, .d (.int .i64 (.ofNat i)))]) (fun i u => [some b, some (.cells [(.func 52 [] [])])]) (fun i u r => (fiV (l.findIdx? badW) = fiV ((r.findIdx? badW).map (· + i)))) () ?_ (Tidy.refl _ _) ?_ ?_
  · cases l.findIdx? badW <;> rfl
  · intro i u hi hd hinv
    refine s1 hW 4 0 [] 23 [(9, (bo (iLt (Int.ofNat i) (Int.ofNat (List.length (List.map Ty.enc l))))))] ?_
    refine CG.condF (show (iLt (Int.ofNat i) (Int.ofNat (List.length (List.map Ty.enc l)))) = false from f_lt (by (try simp only [zz] at *) <;> omega)) (by kernel_rfl) ?_
    refine CG.exitL (by decide) ?_
    refine s1 hW 5 0 [] 0 [(4, (io (-1)))] ?_
    refine CG.retW (v' := (io (-1))) (by kernel_rfl) ?_
    rotate_left
    exact ⟨by rw [hinv]; rfl, rfl⟩
  · intro i u x r hdr hx hlt hinv
    have hs := hd x (List.mem_of_getElem? hx)
    refine s1 hW 4 0 [] 31 [(9, (bo (iLt (Int.ofNat i) (Int.ofNat (List.length (List.map Ty.enc l))))))] ?_
    refine CG.condT (show (iLt (Int.ofNat i) (Int.ofNat (List.length (List.map Ty.enc l)))) = true from t_lt (by (try simp only [zz] at *) <;> omega)) (by kernel_rfl) ?_
    refine s1 hW 8 3 [] 31 [(5, (no i)), (11, (.func 54 [] [(.ptr 1 1 0)])), (12, (lo Ty.enc l)), (13, (no i))] ?_
    refine CG.ix (idx_map (enc := Ty.enc) hx) rfl (by kernel_rfl) ?_
    refine s1 hW 0 1 [] 127 [(15, (.agg [(so (Ty.elem x)), (so (Ty.row x)), (lo Lin.enc (Ty.dims x))]))] ?_
    refine CG.wfv (first := []) (cap := [(.ptr 1 1 0)]) (wf_badW hW b hb x hs) rfl (by kernel_rfl) (by kernel_rfl) (by kernel_rfl) rfl ?_
    refine s1 hW 2 0 [] 319 [] ?_
    refine sp (badW x) (fun q17 => ?_) (fun q17 => ?_)
    refine CG.condT q17 (by kernel_rfl) ?_
    refine s1 hW 3 0 [] 51 [(4, (no i))] ?_
    refine CG.retLW (v' := (no i)) (by kernel_rfl) ?_
    rotate_left
    refine CG.condF q17 (by kernel_rfl) ?_
    refine s3 hW 3 2 [] [(0, (lo Ty.enc l)), (1, (.func 54 [] [(.ptr 1 1 0)])), (4, (io 0)), (7, (no (List.length (List.map Ty.enc l)))), (8, (io (wrapF IntKind.i64 (iAdd (Int.ofNat i) 1))))] ([some b, some (.cells [(.func 52 [] [])])]) ?_
    refine CG.endL rfl ?_
    rw [wrapI (by omega)]
    rotate_left
    all_goals first
      | (rw [hinv, List.findIdx?_cons, show badW x = true by assumption]; exact ⟨by simp [fiV], rfl⟩)
      | (refine ⟨(), ?_, Tidy.refl _ _⟩
         rw [hinv, List.findIdx?_cons, show badW x = false by assumption]
         cases r.findIdx? badW with
         | none => rfl
         | some j => simp only [cond_false, Option.map_some, fiV, if_false, Bool.false_eq_true]; rw [show j + 1 + i = j + (i + 1) by omega])
theorem wf_badWAny (hW : W0 W) (b : Box) (hb : boxLt 2 b = true) (l : List Ty) (hl : l.length < 1099511627776) (hd : ∀ x ∈ l, Ty.sm x) : WF P (gl W) 53 [.d (.list (l.map Ty.enc)), .func 54 [] [.ptr 1 1 0]] (hC b) (Same (.d (.bool (l.any badW))) (hC b)) := by
  refine CG.startW is53 ca53 rfl ?_
  refine s1 hW 4 2 [] 0 [(4, (bo false)), (5, (lo Ty.enc l)), (6, (.func 54 [] [(.ptr 1 1 0)]))] ?_
  refine CG.wf (wf_badWIdx hW b hb l hl hd) rfl rfl (by kernel_rfl) rfl ?_
  rotate_left
  have : l.any badW = (l.findIdx? badW).isSome := by rw [List.findIdx?_isSome]
  rw [this]
  cases l.findIdx? badW with
  | none =>
    refine s1 hW 2 0 [] 1 [] ?_
    refine CG.retW (v' := (bo false)) (by kernel_rfl) ?_
    rotate_left
    exact ⟨rfl, rfl⟩
  | some i =>
    refine s1 hW 2 0 [] 0 [(4, (bo true))] ?_
    refine CG.retW (v' := (bo true)) (by kernel_rfl) ?_
    rotate_left
    exact ⟨rfl, rfl⟩
def Con.box (c : Con) : Box := .cells (Con.cells c)
theorem pc_con (hW : W0 W) (c : Con) (hs : Con.sm c) : PC P (gl W) 16 [.agg (Con.cells c)] (.d (.bool (conB c))) := by
  refine CG.start is16 ca16 rfl ?_
  refine s4 hW 5 4 [] 0 [(1, (.ptr 0 18 0)), (2, (bo false)), (7, (bo (!iEq (Con.k c) 2)))] [(0, (.cells (Con.cells c)))] ?_
  refine spEq (Con.k c) 2 (fun q6 p6 => ?_) (fun q6 p6 => ?_)
  rw [q6]
  refine s1 hW 0 9 [] 3 [(16, (bo (!iEq (Int.ofNat (List.length (List.map Ty.enc (Con.gs c)))) (Int.ofNat (List.length (List.map Ty.enc (Con.ws c)))))))] ?_
  refine spEqN (List.length (List.map Ty.enc (Con.gs c))) (List.length (List.map Ty.enc (Con.ws c))) (fun q8 p8 => ?_) (fun q8 p8 => ?_) <;> simp only [zz] at p8
  rw [q8]
  refine s1 hW 0 6 [] 3 [(22, (bo (iLt 16 (Int.ofNat (List.length (List.map Ty.enc (Con.gs c)))))))] ?_
  refine spLtN 16 (List.length (List.map Ty.enc (Con.gs c))) (fun q10 p10 => ?_) (fun q10 p10 => ?_) <;> simp only [zz] at p10
  have q11 : (iLt 16 (Int.ofNat (List.length (List.map Ty.enc (Con.gs c))))) = true := t_lt (by (try simp only [zz] at *) <;> omega)
  rw [q11]
  refine s1 hW 6 0 [true] 3 [] ?_
  refine CG.ret (v' := (bo false)) (by kernel_rfl) ?_
  rotate_left
  have q12 : (iLt 16 (Int.ofNat (List.length (List.map Ty.enc (Con.gs c))))) = false := f_lt (by (try simp only [zz] at *) <;> omega)
  rw [q12]
  refine s1 hW 0 2 [] 7 [(24, (.agg [(so (Ty.elem (Con.r c))), (so (Ty.row (Con.r c))), (lo Lin.enc (Ty.dims (Con.r c)))]))] ?_
  refine CG.pg (pc_ty hW _ _ _ hs.r.1 hs.r.2.1 hs.r.2.2.1 hs.r.2.2.2) rfl (by kernel_rfl) ?_
  refine s1 hW 0 3 [] 3 [(28, (bo (!tyB { elem := Ty.elem (Con.r c), row := Ty.row (Con.r c), dims := Ty.dims (Con.r c) })))] ?_
  refine sp (tyB (Con.r c)) (fun q13 => ?_) (fun q13 => ?_)
  rw [q13]
  refine s1 hW 0 2 [] 7 [(30, (.agg [(so (Ty.elem (Con.x c))), (so (Ty.row (Con.x c))), (lo Lin.enc (Ty.dims (Con.x c)))]))] ?_
  refine CG.pg (pc_ty hW _ _ _ hs.x.1 hs.x.2.1 hs.x.2.2.1 hs.x.2.2.2) rfl (by kernel_rfl) ?_
  refine s1 hW 0 3 [] 3 [(34, (bo (!tyB { elem := Ty.elem (Con.x c), row := Ty.row (Con.x c), dims := Ty.dims (Con.x c) })))] ?_
  refine sp (tyB (Con.x c)) (fun q14 => ?_) (fun q14 => ?_)
  rw [q14]
  refine s1 hW 2 0 [] 3 [(40, (bo (!bytesEq (Ty.row (Con.x c)) [])))] ?_
  refine sp (bytesEq (Ty.row (Con.x c)) []) (fun q15 => ?_) (fun q15 => ?_)
  refine CG.condF (b := (!bytesEq (Ty.row (Con.x c)) [])) (by rw [q15]; rfl) (by kernel_rfl) ?_
  refine s4 hW 6 3 [] 3 [(3, (.ptr 1 1 0)), (42, (lo Ty.enc (Con.gs c))), (43, (.func 52 [] []))] [(1, (.cells [(.func 52 [] [])]))] ?_
  refine CG.pg (pc_badTAny hW _ hs.gl hs.g) rfl (by kernel_rfl) ?_
  refine s1 hW 0 2 [] 7 [(46, (bo (!List.any (Con.gs c) badT)))] ?_
  refine sp (List.any (Con.gs c) badT) (fun q16 => ?_) (fun q16 => ?_)
  rw [q16]
  refine s1 hW 2 0 [] 2 [] ?_
  refine CG.ret (v' := (bo false)) (by kernel_rfl) ?_
  rotate_left
  rw [q16]
  refine s1 hW 0 3 [] 10 [(48, (lo Ty.enc (Con.ws c))), (49, (.func 54 [] [(.ptr 1 1 0)]))] ?_
  refine CG.wf (wf_badWAny hW (Con.box c) rfl (Con.ws c) (Con.sm.wl hs) (Con.sm.w hs)) rfl (by kernel_rfl) (by kernel_rfl) rfl ?_
  refine s1 hW 2 0 [] 0 [(2, (bo (!List.any (Con.ws c) badW)))] ?_
  refine CG.ret (v' := (bo (!List.any (Con.ws c) badW))) (by kernel_rfl) ?_
  rotate_left
  refine CG.condT (b := (!bytesEq (Ty.row (Con.x c)) [])) (by rw [q15]; rfl) (by kernel_rfl) ?_
  refine s1 hW 3 0 [] 3 [] ?_
  refine CG.ret (v' := (bo false)) (by kernel_rfl) ?_
  rotate_left
  rw [q14]
  refine s1 hW 6 0 [true] 3 [] ?_
  refine CG.ret (v' := (bo false)) (by kernel_rfl) ?_
  rotate_left
  rw [q13]
  refine s1 hW 6 0 [true] 3 [] ?_
  refine CG.ret (v' := (bo false)) (by kernel_rfl) ?_
  rotate_left
  rw [q8]
  refine s1 hW 6 0 [true] 3 [] ?_
  refine CG.ret (v' := (bo false)) (by kernel_rfl) ?_
  rotate_left
  rw [q6]
  refine s1 hW 6 0 [true] 3 [] ?_
  refine CG.ret (v' := (bo false)) (by kernel_rfl) ?_
  rotate_left
  all_goals first
    | (rw [conB, show decide (c.k = 2) = false from decide_eq_false (by omega)]; simp; done)
    | (rw [conB, show decide (c.gs.length = c.ws.length) = false from decide_eq_false (by omega)]; simp; done)
    | (rw [conB, show decide (c.gs.length ≤ 16) = false from decide_eq_false (by omega)]; simp; done)
    | (have h1 : c.k = 2 := by omega
       have h2 : c.gs.length = c.ws.length := by omega
       have h3 : c.ws.length ≤ 16 := by omega
       simp [conB, hasRow, *]; done)
theorem pc_known (hW : W0 W) (c : Con) (hs : Con.sm c) : PC P (gl W) 18 [.agg (Con.cells c)] (.d (.bool (knownB c))) := by
  refine CG.start is18 ca18 rfl ?_
  refine s4 hW 4 1 [] 0 [(1, (.ptr 0 18 0)), (2, (bo false)), (3, (.agg (Con.cells c)))] [(0, (.cells (Con.cells c)))] ?_
  refine CG.pg (pc_con hW c hs) rfl (by kernel_rfl) ?_
  refine s1 hW 0 1 [] 3 [(5, (bo (conB c)))] ?_
  refine sp (conB c) (fun q5 => ?_) (fun q5 => ?_)
  rw [q5]
  refine s1 hW 0 2 [] 6 [(7, (lo Ty.enc (Con.gs c)))] ?_
  refine CG.pg (pc_rowAny hW _ hs.gl hs.g) rfl (by kernel_rfl) ?_
  refine s1 hW 2 0 [] 0 [(2, (bo (!List.any (Con.gs c) hasRow)))] ?_
  refine CG.ret (v' := (bo (!List.any (Con.gs c) hasRow))) (by kernel_rfl) ?_
  rotate_left
  rw [q5]
  refine s1 hW 2 0 [] 2 [] ?_
  refine CG.ret (v' := (bo false)) (by kernel_rfl) ?_
  rotate_left
  all_goals simp [knownB, *]
end Fw.Tz.Vc

/-
  Constraints that are valid or known, by the reference.
-/
namespace Fw.Tz.Vd
open Go Go.Proofs Fw.X Fw.Tz Fw.Nu Fw.Tz.Sd Fw.Tz.Na Fw.Tz.El Fw.Tz.Va Fw.Tz.Vb Fw.Tz.Vc
variable {W : World}
end Fw.Tz.Vd

/-
  Small constraints: the guard of the law.
-/
namespace Fw.Tz.Ve
open Go Go.Proofs Fw.X Fw.Tz Fw.Nu Fw.Tz.Sd Fw.Tz.Na Fw.Tz.El Fw.Tz.Va Fw.Tz.Vb Fw.Tz.Vc
variable {W : World}
def fewV (t : Cf) : Bool := decide (t.var.length ≤ 35)
def fewL (x : Lin) : Bool := x.ts.all fewV && decide (x.ts.length ≤ 14)
def fewS (row : List UInt8) (dims : List Lin) : Bool := dims.all fewL && decide (dims.length ≤ 8) && decide (row.length ≤ 35)
def fewT (t : Ty) : Bool := decide (t.elem.length ≤ 35) && fewS t.row t.dims
def Lin.wd (x : Lin) : Prop := x.ts.length < 9223372036854775808
def Ty.wd (t : Ty) : Prop := t.dims.length < 9223372036854775808 ∧ ∀ x ∈ t.dims, Lin.wd x
theorem pc_fewL (hW : W0 W) (x : Lin) (hs : Lin.wd x) : PC P (gl W) 57 [.agg [.d (.int .i64 x.c), .d (.list (x.ts.map Cf.enc))]] (.d (.bool (fewL x))) := by
  refine CG.start is57 ca57 rfl ?_
  have hl : x.ts.length < 9223372036854775808 := hs
  refine s4 hW 8 0 [] 0 [(1, (.ptr 0 2 0)), (2, (bo false)), (3, (io 0))] [(0, (.cells [(io (Lin.c x)), (lo Cf.enc (Lin.ts x))]))] ?_
  rotate_left
  refine CG.loopL x.ts (fun i u => [(1, (.ptr 0 2 0)), (2, (bo false)), (3, .d (.int .i64 (.ofNat i)))]) (fun i u => [some (.cells [(io (Lin.c x)), (lo Cf.enc (Lin.ts x))])]) (fun i u r => (x.ts.all fewV = r.all fewV)) () ?_ (Tidy.refl _ _) ?_ ?_
  · rfl
  · intro i u hi hd hinv
    refine s1 hW 4 0 [] 7 [(8, (bo (iLt (Int.ofNat i) (Int.ofNat (List.length (List.map Cf.enc (Lin.ts x)))))))] ?_
    refine CG.condF (show (iLt (Int.ofNat i) (Int.ofNat (List.length (List.map Cf.enc (Lin.ts x))))) = false from f_lt (by (try simp only [zz] at *) <;> omega)) (by kernel_rfl) ?_
    refine CG.exitL (by decide) ?_
    refine s1 hW 5 0 [] 0 [(2, (bo (!iLt 14 (Int.ofNat (List.length (List.map Cf.enc (Lin.ts x)))))))] ?_
    refine CG.ret (v' := (bo (!iLt 14 (Int.ofNat (List.length (List.map Cf.enc (Lin.ts x))))))) (by kernel_rfl) ?_
    rotate_left
    rw [fewL, hinv, iLt_eq, List.length_map, V.d.injEq, D.bool.injEq, Bool.eq_iff_iff]; simp; omega
  · intro i u t r hdr hx hlt hinv
    rw [List.all_cons] at hinv
    refine s1 hW 4 0 [] 7 [(8, (bo (iLt (Int.ofNat i) (Int.ofNat (List.length (List.map Cf.enc (Lin.ts x)))))))] ?_
    refine CG.condT (show (iLt (Int.ofNat i) (Int.ofNat (List.length (List.map Cf.enc (Lin.ts x))))) = true from t_lt (by (try simp only [zz] at *) <;> omega)) (by kernel_rfl) ?_
    refine s1 hW 5 3 [] 7 [(12, (lo Cf.enc (Lin.ts x))), (13, (no i))] ?_
    refine CG.ix (idx_map (enc := Cf.enc) hx) rfl (by kernel_rfl) ?_
    refine s1 hW 2 0 [] 7 [(18, (bo (iLt 35 (Int.ofNat (List.length (Cf.var t))))))] ?_
    refine spLtN 35 (List.length (Cf.var t)) (fun q14 p14 => ?_) (fun q14 p14 => ?_)
    refine CG.condT (show (iLt 35 (Int.ofNat (List.length (Cf.var t)))) = true from t_lt (by (try simp only [zz] at *) <;> omega)) (by kernel_rfl) ?_
    refine s1 hW 3 0 [] 7 [] ?_
    refine CG.retL (v' := (bo false)) (by kernel_rfl) ?_
    rotate_left
    refine CG.condF (show (iLt 35 (Int.ofNat (List.length (Cf.var t)))) = false from f_lt (by (try simp only [zz] at *) <;> omega)) (by kernel_rfl) ?_
    refine s3 hW 3 3 [] [(1, (.ptr 0 2 0)), (2, (bo false)), (3, (io (wrapF IntKind.i64 (iAdd (Int.ofNat i) 1))))] ([some (.cells [(io (Lin.c x)), (lo Cf.enc (Lin.ts x))])]) ?_
    refine CG.endL rfl ?_
    rw [wrapI (by omega)]
    rotate_left
    all_goals first
      | (refine ⟨(), ?_, Tidy.refl _ _⟩; rw [hinv, show fewV t = true from decide_eq_true (by omega)]; rfl)
      | (rw [fewL, hinv, show fewV t = false from decide_eq_false (by omega)]; rfl)
theorem pc_fewS (hW : W0 W) (row : List UInt8) (dims : List Lin) (hl : dims.length < 9223372036854775808) (hd : ∀ x ∈ dims, Lin.wd x) : PC P (gl W) 22 [.agg [.d (.str row), .d (.list (dims.map Lin.enc))]] (.d (.bool (fewS row dims))) := by
  refine CG.start is22 ca22 rfl ?_
  refine s4 hW 8 0 [] 0 [(1, (.ptr 0 2 0)), (2, (bo false)), (3, (io 0))] [(0, (.cells [(so row), (lo Lin.enc dims)]))] ?_
  rotate_left
  refine CG.loopL dims (fun i u => [(1, (.ptr 0 2 0)), (2, (bo false)), (3, .d (.int .i64 (.ofNat i)))]) (fun i u => [some (.cells [(so row), (lo Lin.enc dims)])]) (fun i u r => (dims.all fewL = r.all fewL)) () ?_ (Tidy.refl _ _) ?_ ?_
  · rfl
  · intro i u hi hdr hinv
    refine s1 hW 4 0 [] 7 [(8, (bo (iLt (Int.ofNat i) (Int.ofNat (List.length (List.map Lin.enc dims))))))] ?_
    refine CG.condF (show (iLt (Int.ofNat i) (Int.ofNat (List.length (List.map Lin.enc dims)))) = false from f_lt (by (try simp only [zz] at *) <;> omega)) (by kernel_rfl) ?_
    refine CG.exitL (by decide) ?_
    refine s1 hW 3 5 [] 3 [(22, (bo (!iLt 8 (Int.ofNat (List.length (List.map Lin.enc dims))))))] ?_
    refine spLtN 8 (List.length (List.map Lin.enc dims)) (fun q13 p13 => ?_) (fun q13 p13 => ?_) <;> simp only [zz] at p13
    have q14 : (iLt 8 (Int.ofNat (List.length (List.map Lin.enc dims)))) = true := t_lt (by (try simp only [zz] at *) <;> omega)
    rw [q14]
    refine s1 hW 2 0 [] 2 [] ?_
    refine CG.ret (v' := (bo false)) (by kernel_rfl) ?_
    rotate_left
    have q15 : (iLt 8 (Int.ofNat (List.length (List.map Lin.enc dims)))) = false := f_lt (by (try simp only [zz] at *) <;> omega)
    rw [q15]
    refine s1 hW 2 0 [] 0 [(2, (bo (!iLt 35 (Int.ofNat (List.length row)))))] ?_
    refine CG.ret (v' := (bo (!iLt 35 (Int.ofNat (List.length row))))) (by kernel_rfl) ?_
    rotate_left
    all_goals first
      | (rw [fewS, decide_eq_false (by omega)]; simp; done)
      | (rw [fewS, hinv, decide_eq_true (by omega : dims.length ≤ 8), iLt_eq, V.d.injEq, D.bool.injEq, Bool.eq_iff_iff]; simp; omega)
  · intro i u x r hdr hx hlt hinv
    have hs := hd x (List.mem_of_getElem? hx)
    rw [List.all_cons] at hinv
    refine s1 hW 4 0 [] 7 [(8, (bo (iLt (Int.ofNat i) (Int.ofNat (List.length (List.map Lin.enc dims))))))] ?_
    refine CG.condT (show (iLt (Int.ofNat i) (Int.ofNat (List.length (List.map Lin.enc dims)))) = true from t_lt (by (try simp only [zz] at *) <;> omega)) (by kernel_rfl) ?_
    refine s1 hW 5 3 [] 7 [(12, (lo Lin.enc dims)), (13, (no i))] ?_
    refine CG.ix (idx_map (enc := Lin.enc) hx) rfl (by kernel_rfl) ?_
    refine s1 hW 0 1 [] 7 [(15, (.agg [(io (Lin.c x)), (lo Cf.enc (Lin.ts x))]))] ?_
    refine CG.pg (pc_fewL hW x hs) rfl (by kernel_rfl) ?_
    refine s1 hW 2 0 [] 7 [(17, (bo (!fewL x)))] ?_
    refine sp (fewL x) (fun q16 => ?_) (fun q16 => ?_)
    refine CG.condF (b := (!fewL x)) (by rw [q16]; rfl) (by kernel_rfl) ?_
    refine s3 hW 3 3 [] [(1, (.ptr 0 2 0)), (2, (bo false)), (3, (io (wrapF IntKind.i64 (iAdd (Int.ofNat i) 1))))] ([some (.cells [(so row), (lo Lin.enc dims)])]) ?_
    refine CG.endL rfl ?_
    rw [wrapI (by omega)]
    rotate_left
    refine CG.condT (b := (!fewL x)) (by rw [q16]; rfl) (by kernel_rfl) ?_
    refine s1 hW 3 0 [] 7 [] ?_
    refine CG.retL (v' := (bo false)) (by kernel_rfl) ?_
    rotate_left
    all_goals first
      | (refine ⟨(), ?_, Tidy.refl _ _⟩; rw [hinv, show fewL x = true by assumption]; rfl)
      | (rw [fewS, hinv, show fewL x = false by assumption]; rfl)
theorem pc_fewT (hW : W0 W) (t : Ty) (hs : Ty.wd t) : PC P (gl W) 32 [.agg [.d (.str t.elem), .d (.str t.row), .d (.list (t.dims.map Lin.enc))]] (.d (.bool (fewT t))) := by
  refine CG.start is32 ca32 rfl ?_
  refine s4 hW 4 5 [] 0 [(1, (.ptr 0 3 0)), (2, (bo false)), (7, (bo (!iLt 35 (Int.ofNat (List.length (Ty.elem t))))))] [(0, (.cells [(so (Ty.elem t)), (so (Ty.row t)), (lo Lin.enc (Ty.dims t))]))] ?_
  refine spLtN 35 (List.length (Ty.elem t)) (fun q6 p6 => ?_) (fun q6 p6 => ?_)
  have q7 : (iLt 35 (Int.ofNat (List.length (Ty.elem t)))) = true := t_lt (by (try simp only [zz] at *) <;> omega)
  rw [q7]
  refine s1 hW 2 0 [] 2 [] ?_
  refine CG.ret (v' := (bo false)) (by kernel_rfl) ?_
  rotate_left
  have q8 : (iLt 35 (Int.ofNat (List.length (Ty.elem t)))) = false := f_lt (by (try simp only [zz] at *) <;> omega)
  rw [q8]
  refine s1 hW 0 2 [] 6 [(9, (.agg [(so (Ty.row t)), (lo Lin.enc (Ty.dims t))]))] ?_
  refine CG.pg (pc_fewS hW (Ty.row t) (Ty.dims t) (And.left hs) (And.right hs)) rfl (by kernel_rfl) ?_
  refine s1 hW 2 0 [] 0 [(2, (bo (fewS (Ty.row t) (Ty.dims t))))] ?_
  refine CG.ret (v' := (bo (fewS (Ty.row t) (Ty.dims t)))) (by kernel_rfl) ?_
  rotate_left
  all_goals first
    | (rw [fewT, decide_eq_true (by omega)]; rfl)
    | (rw [fewT, decide_eq_false (by omega)]; rfl)
structure Con.wd (c : Con) : Prop where
  gl : c.gs.length < 9223372036854775808
  wl : c.ws.length < 9223372036854775808
  ta : Ty.wd c.ta
  tb : Ty.wd c.tb
  g : ∀ t ∈ c.gs, Ty.wd t
  w : ∀ t ∈ c.ws, Ty.wd t
  r : Ty.wd c.r
  x : Ty.wd c.x
  lin : Lin.wd c.lin
def fewC (c : Con) : Bool := (c.gs.take 18).all fewT && (c.ws.take 18).all fewT && decide (c.gs.length ≤ 17) && decide (c.ws.length ≤ 17) && fewT c.r && fewT c.x && fewT c.ta && fewT c.tb && fewS [] [c.lin]
theorem pc_few (hW : W0 W) (c : Con) (hs : Con.wd c) : PC P (gl W) 13 [.agg (Con.cells c)] (.d (.bool (fewC c))) := by
  refine CG.start is13 ca13 rfl ?_
  have hgl := hs.gl
  have hwl := hs.wl
  have hone : [c.lin].length < 9223372036854775808 := by show 1 < 9223372036854775808; omega
  have hlin : ∀ x ∈ [c.lin], Lin.wd x := fun x hx => by rw [List.mem_singleton.1 hx]; exact hs.lin
  refine s4 hW 8 0 [] 0 [(1, (.ptr 0 18 0)), (2, (bo false)), (3, (io 0))] [(0, (.cells (Con.cells c)))] ?_
  rotate_left
  refine CG.loopL (c.gs.take 18) (fun i u => [(1, (.ptr 0 18 0)), (2, (bo false)), (3, .d (.int .i64 (.ofNat i)))]) (fun i u => [some (.cells (Con.cells c))]) (fun i u r => ((c.gs.take 18).all fewT = r.all fewT)) () ?_ (Tidy.refl _ _) ?_ ?_
  · rfl
  · intro i u hi hdr hinv
    rw [List.length_take] at hi
    have ha : (c.gs.take 18).all fewT = true := hinv
    refine s1 hW 2 6 [] 7 [(10, (bo (iLt (Int.ofNat i) (Int.ofNat (List.length (List.map Ty.enc (Con.gs c)))))))] ?_
    refine spLtN i (List.length (List.map Ty.enc (Con.gs c))) (fun q16 p16 => ?_) (fun q16 p16 => ?_) <;> simp only [zz] at p16
    rw [q16]
    refine s1 hW 2 0 [] 7 [(13, (bo (iLt (Int.ofNat i) 18)))] ?_
    refine CG.condF (show (iLt (Int.ofNat i) 18) = false from f_lt (by (try simp only [zz] at *) <;> omega)) (by kernel_rfl) ?_
    refine CG.exitL (by decide) ?_
    refine s1 hW 7 0 [] 3 [(4, (io 0))] ?_
    rotate_left
    rw [q16]
    refine s1 hW 3 0 [false] 7 [] ?_
    refine CG.exitL (by decide) ?_
    refine s1 hW 7 0 [] 3 [(4, (io 0))] ?_
    rotate_left
    · refine CG.loopL (c.ws.take 18) (fun i2 u2 => [(1, (.ptr 0 18 0)), (2, (bo false)), (4, .d (.int .i64 (.ofNat i2)))]) (fun i2 u2 => [some (.cells (Con.cells c))]) (fun i2 u2 r2 => ((c.ws.take 18).all fewT = r2.all fewT)) () ?_ (Tidy.refl _ _) ?_ ?_
      · rfl
      · intro i2 u2 hi2 hdr2 hinv2
        rw [List.length_take] at hi2
        have hb : (c.ws.take 18).all fewT = true := hinv2
        refine s1 hW 2 6 [] 7 [(28, (bo (iLt (Int.ofNat i2) (Int.ofNat (List.length (List.map Ty.enc (Con.ws c)))))))] ?_
        refine spLtN i2 (List.length (List.map Ty.enc (Con.ws c))) (fun q24 p24 => ?_) (fun q24 p24 => ?_) <;> simp only [zz] at p24
        rw [q24]
        refine s1 hW 2 0 [] 7 [(31, (bo (iLt (Int.ofNat i2) 18)))] ?_
        refine CG.condF (show (iLt (Int.ofNat i2) 18) = false from f_lt (by (try simp only [zz] at *) <;> omega)) (by kernel_rfl) ?_
        refine CG.exitL (by decide) ?_
        refine s1 hW 3 5 [] 3 [(45, (bo (!iLt 17 (Int.ofNat (List.length (List.map Ty.enc (Con.gs c)))))))] ?_
        have q25 : (iLt 17 (Int.ofNat (List.length (List.map Ty.enc (Con.gs c))))) = true := t_lt (by (try simp only [zz] at *) <;> omega)
        rw [q25]
        refine s1 hW 2 0 [] 2 [] ?_
        refine CG.ret (v' := (bo false)) (by kernel_rfl) ?_
        rotate_left
        rw [q24]
        refine s1 hW 3 0 [false] 7 [] ?_
        refine CG.exitL (by decide) ?_
        refine s1 hW 3 5 [] 3 [(45, (bo (!iLt 17 (Int.ofNat (List.length (List.map Ty.enc (Con.gs c)))))))] ?_
        have q26 : (iLt 17 (Int.ofNat (List.length (List.map Ty.enc (Con.gs c))))) = true := t_lt (by (try simp only [zz] at *) <;> omega)
        rw [q26]
        refine s1 hW 2 0 [] 2 [] ?_
        refine CG.ret (v' := (bo false)) (by kernel_rfl) ?_
        rotate_left
        all_goals first
          | (rw [fewC, show decide (c.gs.length ≤ 17) = false from decide_eq_false (by omega)]; simp; done)
          | (rw [fewC, show decide (c.ws.length ≤ 17) = false from decide_eq_false (by omega)]; simp; done)
          | (rw [fewC, show decide (c.gs.length ≤ 17) = true from decide_eq_true (by omega), show decide (c.ws.length ≤ 17) = true from decide_eq_true (by omega), ha, hb]; simp [*]; done)
      · intro i2 u2 y r2 hdr2 hy hlt2 hinv2
        rw [List.length_take] at hlt2
        have hy' : c.ws[i2]? = some y := by rw [List.getElem?_take] at hy; split at hy <;> simp_all
        have hw := hs.w y (List.mem_of_getElem? hy')
        rw [List.all_cons] at hinv2
        refine s1 hW 2 6 [] 7 [(28, (bo (iLt (Int.ofNat i2) (Int.ofNat (List.length (List.map Ty.enc (Con.ws c)))))))] ?_
        have q27 : (iLt (Int.ofNat i2) (Int.ofNat (List.length (List.map Ty.enc (Con.ws c))))) = true := t_lt (by (try simp only [zz] at *) <;> omega)
        rw [q27]
        refine s1 hW 2 0 [] 7 [(31, (bo (iLt (Int.ofNat i2) 18)))] ?_
        refine CG.condT (show (iLt (Int.ofNat i2) 18) = true from t_lt (by (try simp only [zz] at *) <;> omega)) (by kernel_rfl) ?_
        refine s1 hW 5 3 [] 7 [(35, (lo Ty.enc (Con.ws c))), (36, (no i2))] ?_
        refine CG.ix (idx_map (enc := Ty.enc) hy') rfl (by kernel_rfl) ?_
        refine s1 hW 0 1 [] 7 [(38, (.agg [(so (Ty.elem y)), (so (Ty.row y)), (lo Lin.enc (Ty.dims y))]))] ?_
        refine CG.pg (pc_fewT hW y hw) rfl (by kernel_rfl) ?_
        refine s1 hW 2 0 [] 7 [(40, (bo (!fewT y)))] ?_
        refine sp (fewT y) (fun q28 => ?_) (fun q28 => ?_)
        refine CG.condF (b := (!fewT y)) (by rw [q28]; rfl) (by kernel_rfl) ?_
        refine s3 hW 3 3 [] [(1, (.ptr 0 18 0)), (2, (bo false)), (4, (io (wrapF IntKind.i64 (iAdd (Int.ofNat i2) 1))))] ([some (.cells (Con.cells c))]) ?_
        refine CG.endL rfl ?_
        rw [wrapI (by omega)]
        rotate_left
        refine CG.condT (b := (!fewT y)) (by rw [q28]; rfl) (by kernel_rfl) ?_
        refine s1 hW 3 0 [] 7 [] ?_
        refine CG.retL (v' := (bo false)) (by kernel_rfl) ?_
        rotate_left
        all_goals first
          | (refine ⟨(), ?_, Tidy.refl _ _⟩; rw [hinv2, show fewT y = true by assumption]; rfl)
          | (rw [fewC, hinv2, show fewT y = false by assumption]; simp; done)
    · refine CG.loopL (c.ws.take 18) (fun i2 u2 => [(1, (.ptr 0 18 0)), (2, (bo false)), (4, .d (.int .i64 (.ofNat i2)))]) (fun i2 u2 => [some (.cells (Con.cells c))]) (fun i2 u2 r2 => ((c.ws.take 18).all fewT = r2.all fewT)) () ?_ (Tidy.refl _ _) ?_ ?_
      · rfl
      · intro i2 u2 hi2 hdr2 hinv2
        rw [List.length_take] at hi2
        have hb : (c.ws.take 18).all fewT = true := hinv2
        refine s1 hW 2 6 [] 7 [(28, (bo (iLt (Int.ofNat i2) (Int.ofNat (List.length (List.map Ty.enc (Con.ws c)))))))] ?_
        refine spLtN i2 (List.length (List.map Ty.enc (Con.ws c))) (fun q24 p24 => ?_) (fun q24 p24 => ?_) <;> simp only [zz] at p24
        rw [q24]
        refine s1 hW 2 0 [] 7 [(31, (bo (iLt (Int.ofNat i2) 18)))] ?_
        refine CG.condF (show (iLt (Int.ofNat i2) 18) = false from f_lt (by (try simp only [zz] at *) <;> omega)) (by kernel_rfl) ?_
        refine CG.exitL (by decide) ?_
        refine s1 hW 3 5 [] 3 [(45, (bo (!iLt 17 (Int.ofNat (List.length (List.map Ty.enc (Con.gs c)))))))] ?_
        refine spLtN 17 (List.length (List.map Ty.enc (Con.gs c))) (fun q26 p26 => ?_) (fun q26 p26 => ?_) <;> simp only [zz] at p26
        have q27 : (iLt 17 (Int.ofNat (List.length (List.map Ty.enc (Con.gs c))))) = true := t_lt (by (try simp only [zz] at *) <;> omega)
        rw [q27]
        refine s1 hW 2 0 [] 2 [] ?_
        refine CG.ret (v' := (bo false)) (by kernel_rfl) ?_
        rotate_left
        have q28 : (iLt 17 (Int.ofNat (List.length (List.map Ty.enc (Con.gs c))))) = false := f_lt (by (try simp only [zz] at *) <;> omega)
        rw [q28]
        refine s1 hW 0 6 [] 3 [(51, (bo (!iLt 17 (Int.ofNat (List.length (List.map Ty.enc (Con.ws c)))))))] ?_
        have q29 : (iLt 17 (Int.ofNat (List.length (List.map Ty.enc (Con.ws c))))) = true := t_lt (by (try simp only [zz] at *) <;> omega)
        rw [q29]
        refine s1 hW 2 0 [] 2 [] ?_
        refine CG.ret (v' := (bo false)) (by kernel_rfl) ?_
        rotate_left
        rw [q24]
        refine s1 hW 3 0 [false] 7 [] ?_
        refine CG.exitL (by decide) ?_
        refine s1 hW 3 5 [] 3 [(45, (bo (!iLt 17 (Int.ofNat (List.length (List.map Ty.enc (Con.gs c)))))))] ?_
        refine spLtN 17 (List.length (List.map Ty.enc (Con.gs c))) (fun q31 p31 => ?_) (fun q31 p31 => ?_) <;> simp only [zz] at p31
        have q32 : (iLt 17 (Int.ofNat (List.length (List.map Ty.enc (Con.gs c))))) = true := t_lt (by (try simp only [zz] at *) <;> omega)
        rw [q32]
        refine s1 hW 2 0 [] 2 [] ?_
        refine CG.ret (v' := (bo false)) (by kernel_rfl) ?_
        rotate_left
        have q33 : (iLt 17 (Int.ofNat (List.length (List.map Ty.enc (Con.gs c))))) = false := f_lt (by (try simp only [zz] at *) <;> omega)
        rw [q33]
        refine s1 hW 0 6 [] 3 [(51, (bo (!iLt 17 (Int.ofNat (List.length (List.map Ty.enc (Con.ws c)))))))] ?_
        refine spLtN 17 (List.length (List.map Ty.enc (Con.ws c))) (fun q35 p35 => ?_) (fun q35 p35 => ?_) <;> simp only [zz] at p35
        have q36 : (iLt 17 (Int.ofNat (List.length (List.map Ty.enc (Con.ws c))))) = true := t_lt (by (try simp only [zz] at *) <;> omega)
        rw [q36]
        refine s1 hW 2 0 [] 2 [] ?_
        refine CG.ret (v' := (bo false)) (by kernel_rfl) ?_
        rotate_left
        have q37 : (iLt 17 (Int.ofNat (List.length (List.map Ty.enc (Con.ws c))))) = false := f_lt (by (try simp only [zz] at *) <;> omega)
        rw [q37]
        refine s1 hW 0 2 [] 7 [(53, (.agg [(so (Ty.elem (Con.r c))), (so (Ty.row (Con.r c))), (lo Lin.enc (Ty.dims (Con.r c)))]))] ?_
        refine CG.pg (pc_fewT hW _ hs.r) rfl (by kernel_rfl) ?_
        refine s1 hW 0 2 [] 3 [(56, (bo (fewT (Con.r c))))] ?_
        refine sp (fewT (Con.r c)) (fun q38 => ?_) (fun q38 => ?_)
        rw [q38]
        refine s1 hW 0 2 [] 7 [(58, (.agg [(so (Ty.elem (Con.x c))), (so (Ty.row (Con.x c))), (lo Lin.enc (Ty.dims (Con.x c)))]))] ?_
        refine CG.pg (pc_fewT hW _ hs.x) rfl (by kernel_rfl) ?_
        refine s1 hW 0 2 [] 3 [(61, (bo (fewT (Con.x c))))] ?_
        refine sp (fewT (Con.x c)) (fun q39 => ?_) (fun q39 => ?_)
        rw [q39]
        refine s1 hW 0 2 [] 7 [(63, (.agg [(so (Ty.elem (Con.ta c))), (so (Ty.row (Con.ta c))), (lo Lin.enc (Ty.dims (Con.ta c)))]))] ?_
        refine CG.pg (pc_fewT hW _ hs.ta) rfl (by kernel_rfl) ?_
        refine s1 hW 0 2 [] 3 [(66, (bo (fewT (Con.ta c))))] ?_
        refine sp (fewT (Con.ta c)) (fun q40 => ?_) (fun q40 => ?_)
        rw [q40]
        refine s1 hW 0 2 [] 7 [(68, (.agg [(so (Ty.elem (Con.tb c))), (so (Ty.row (Con.tb c))), (lo Lin.enc (Ty.dims (Con.tb c)))]))] ?_
        refine CG.pg (pc_fewT hW _ hs.tb) rfl (by kernel_rfl) ?_
        refine s1 hW 0 2 [] 3 [(71, (bo (fewT (Con.tb c))))] ?_
        refine sp (fewT (Con.tb c)) (fun q41 => ?_) (fun q41 => ?_)
        rw [q41]
        refine s1 hW 0 4 [] 6 [(75, (.agg [(so []), (.d (.list [[(.int .i64 (Lin.c (Con.lin c))), (.list (List.map Cf.enc (Lin.ts (Con.lin c))))]]))]))] ?_
        refine CG.pg (pc_fewS hW [] [c.lin] hone hlin) rfl (by kernel_rfl) ?_
        refine s1 hW 2 0 [] 0 [(2, (bo (fewS [] [Con.lin c])))] ?_
        refine CG.ret (v' := (bo (fewS [] [Con.lin c]))) (by kernel_rfl) ?_
        rotate_left
        rw [q41]
        refine s1 hW 2 0 [] 2 [] ?_
        refine CG.ret (v' := (bo false)) (by kernel_rfl) ?_
        rotate_left
        rw [q40]
        refine s1 hW 2 0 [] 2 [] ?_
        refine CG.ret (v' := (bo false)) (by kernel_rfl) ?_
        rotate_left
        rw [q39]
        refine s1 hW 2 0 [] 2 [] ?_
        refine CG.ret (v' := (bo false)) (by kernel_rfl) ?_
        rotate_left
        rw [q38]
        refine s1 hW 2 0 [] 2 [] ?_
        refine CG.ret (v' := (bo false)) (by kernel_rfl) ?_
        rotate_left
        all_goals first
          | (rw [fewC, show decide (c.gs.length ≤ 17) = false from decide_eq_false (by omega)]; simp; done)
          | (rw [fewC, show decide (c.ws.length ≤ 17) = false from decide_eq_false (by omega)]; simp; done)
          | (rw [fewC, show decide (c.gs.length ≤ 17) = true from decide_eq_true (by omega), show decide (c.ws.length ≤ 17) = true from decide_eq_true (by omega), ha, hb]; simp [*]; done)
      · intro i2 u2 y r2 hdr2 hy hlt2 hinv2
        rw [List.length_take] at hlt2
        have hy' : c.ws[i2]? = some y := by rw [List.getElem?_take] at hy; split at hy <;> simp_all
        have hw := hs.w y (List.mem_of_getElem? hy')
        rw [List.all_cons] at hinv2
        refine s1 hW 2 6 [] 7 [(28, (bo (iLt (Int.ofNat i2) (Int.ofNat (List.length (List.map Ty.enc (Con.ws c)))))))] ?_
        have q27 : (iLt (Int.ofNat i2) (Int.ofNat (List.length (List.map Ty.enc (Con.ws c))))) = true := t_lt (by (try simp only [zz] at *) <;> omega)
        rw [q27]
        refine s1 hW 2 0 [] 7 [(31, (bo (iLt (Int.ofNat i2) 18)))] ?_
        refine CG.condT (show (iLt (Int.ofNat i2) 18) = true from t_lt (by (try simp only [zz] at *) <;> omega)) (by kernel_rfl) ?_
        refine s1 hW 5 3 [] 7 [(35, (lo Ty.enc (Con.ws c))), (36, (no i2))] ?_
        refine CG.ix (idx_map (enc := Ty.enc) hy') rfl (by kernel_rfl) ?_
        refine s1 hW 0 1 [] 7 [(38, (.agg [(so (Ty.elem y)), (so (Ty.row y)), (lo Lin.enc (Ty.dims y))]))] ?_
        refine CG.pg (pc_fewT hW y hw) rfl (by kernel_rfl) ?_
        refine s1 hW 2 0 [] 7 [(40, (bo (!fewT y)))] ?_
        refine sp (fewT y) (fun q28 => ?_) (fun q28 => ?_)
        refine CG.condF (b := (!fewT y)) (by rw [q28]; rfl) (by kernel_rfl) ?_
        refine s3 hW 3 3 [] [(1, (.ptr 0 18 0)), (2, (bo false)), (4, (io (wrapF IntKind.i64 (iAdd (Int.ofNat i2) 1))))] ([some (.cells (Con.cells c))]) ?_
        refine CG.endL rfl ?_
        rw [wrapI (by omega)]
        rotate_left
        refine CG.condT (b := (!fewT y)) (by rw [q28]; rfl) (by kernel_rfl) ?_
        refine s1 hW 3 0 [] 7 [] ?_
        refine CG.retL (v' := (bo false)) (by kernel_rfl) ?_
        rotate_left
        all_goals first
          | (refine ⟨(), ?_, Tidy.refl _ _⟩; rw [hinv2, show fewT y = true by assumption]; rfl)
          | (rw [fewC, hinv2, show fewT y = false by assumption]; simp; done)
  · intro i u x r hdr hx hlt hinv
    rw [List.length_take] at hlt
    have hx' : c.gs[i]? = some x := by rw [List.getElem?_take] at hx; split at hx <;> simp_all
    have hg := hs.g x (List.mem_of_getElem? hx')
    rw [List.all_cons] at hinv
    refine s1 hW 2 6 [] 7 [(10, (bo (iLt (Int.ofNat i) (Int.ofNat (List.length (List.map Ty.enc (Con.gs c)))))))] ?_
    have q19 : (iLt (Int.ofNat i) (Int.ofNat (List.length (List.map Ty.enc (Con.gs c))))) = true := t_lt (by (try simp only [zz] at *) <;> omega)
    rw [q19]
    refine s1 hW 2 0 [] 7 [(13, (bo (iLt (Int.ofNat i) 18)))] ?_
    refine CG.condT (show (iLt (Int.ofNat i) 18) = true from t_lt (by (try simp only [zz] at *) <;> omega)) (by kernel_rfl) ?_
    refine s1 hW 5 3 [] 7 [(17, (lo Ty.enc (Con.gs c))), (18, (no i))] ?_
    refine CG.ix (idx_map (enc := Ty.enc) hx') rfl (by kernel_rfl) ?_
    refine s1 hW 0 1 [] 7 [(20, (.agg [(so (Ty.elem x)), (so (Ty.row x)), (lo Lin.enc (Ty.dims x))]))] ?_
    refine CG.pg (pc_fewT hW x hg) rfl (by kernel_rfl) ?_
    refine s1 hW 2 0 [] 7 [(22, (bo (!fewT x)))] ?_
    refine sp (fewT x) (fun q20 => ?_) (fun q20 => ?_)
    refine CG.condF (b := (!fewT x)) (by rw [q20]; rfl) (by kernel_rfl) ?_
    refine s3 hW 3 3 [] [(1, (.ptr 0 18 0)), (2, (bo false)), (3, (io (wrapF IntKind.i64 (iAdd (Int.ofNat i) 1))))] ([some (.cells (Con.cells c))]) ?_
    refine CG.endL rfl ?_
    rw [wrapI (by omega)]
    rotate_left
    refine CG.condT (b := (!fewT x)) (by rw [q20]; rfl) (by kernel_rfl) ?_
    refine s1 hW 3 0 [] 7 [] ?_
    refine CG.retL (v' := (bo false)) (by kernel_rfl) ?_
    rotate_left
    all_goals first
      | (refine ⟨(), ?_, Tidy.refl _ _⟩; rw [hinv, show fewT x = true by assumption]; rfl)
      | (rw [fewC, hinv, show fewT x = false by assumption]; rfl)
end Fw.Tz.Ve

/-
  Equality of expressions, shapes and types as functions.
-/
set_option linter.unusedVariables false
namespace Fw.Tz.Eq
open Go Fw.Tz.Va Fw.Tz.Vb
def lEq {α : Type} (f : α → α → Bool) : List α → List α → Bool
  | [], [] => true
  | a :: l, b :: m => f a b && lEq f l m
  | _, _ => false
theorem lEq_iff {α : Type} {f : α → α → Bool} (h : ∀ a b, f a b = true ↔ a = b) : ∀ (l m : List α), lEq f l m = true ↔ l = m
  | [], [] => by simp [lEq]
  | [], _ :: _ => by simp [lEq]
  | _ :: _, [] => by simp [lEq]
  | a :: l, b :: m => by rw [lEq, Bool.and_eq_true, h, lEq_iff h l m, List.cons.injEq]
theorem lEq_len {α : Type} {f : α → α → Bool} : ∀ {l m : List α}, l.length ≠ m.length → lEq f l m = false
  | [], [], h => by simp at h
  | [], _ :: _, _ => rfl
  | _ :: _, [], _ => rfl
  | a :: l, b :: m, h => by rw [lEq, lEq_len (by simpa using h), Bool.and_false]
def cfEq (a b : Cf) : Bool := Fw.bytesEq a.var b.var && decide (a.c = b.c)
def linEq (a b : Lin) : Bool := decide (a.c = b.c) && lEq cfEq a.ts b.ts
def shEq (r1 : List UInt8) (d1 : List Lin) (r2 : List UInt8) (d2 : List Lin) : Bool := Fw.bytesEq r1 r2 && lEq linEq d1 d2
def tyEq (a b : Ty) : Bool := Fw.bytesEq a.elem b.elem && shEq a.row a.dims b.row b.dims
theorem cfEq_iff (a b : Cf) : cfEq a b = true ↔ a = b := by
  cases a; cases b
  simp [cfEq, Fw.bytesEq_iff]
theorem linEq_iff (a b : Lin) : linEq a b = true ↔ a = b := by
  cases a; cases b
  simp [linEq, lEq_iff cfEq_iff]
theorem shEq_iff (r1 : List UInt8) (d1 : List Lin) (r2 : List UInt8) (d2 : List Lin) : shEq r1 d1 r2 d2 = true ↔ r1 = r2 ∧ d1 = d2 := by
  simp [shEq, lEq_iff linEq_iff, Fw.bytesEq_iff]
theorem tyEq_iff (a b : Ty) : tyEq a b = true ↔ a = b := by
  cases a; cases b
  simp [tyEq, shEq_iff, Fw.bytesEq_iff, and_assoc]
end Fw.Tz.Eq

/-
  Equal expressions, shapes and types, by the program and by the reference.
-/
namespace Fw.Tz.Ew
open Go Go.Proofs Fw.X Fw.Tz Fw.Nu Fw.Tz.Sd Fw.Tz.Na Fw.Tz.El Fw.Tz.Va Fw.Tz.Vb Fw.Tz.Eq
variable {W : World}
abbrev vL (x : Lin) : V := .agg [.d (.int .i64 x.c), .d (.list (x.ts.map Cf.enc))]
abbrev vS (row : List UInt8) (dims : List Lin) : V := .agg [.d (.str row), .d (.list (dims.map Lin.enc))]
abbrev vT (t : Ty) : V := .agg [.d (.str t.elem), .d (.str t.row), .d (.list (t.dims.map Lin.enc))]
theorem eqRow_cf (x y : Cf) : eqRow [.str, .int] [.d (.str x.var), .d (.int .i64 x.c)] [.d (.str y.var), .d (.int .i64 y.c)] = some (cfEq x y) := by
  simp only [eqRow, keyIs, dEq, cond_true, if_pos rfl, cfEq]
  cases bytesEq x.var y.var with
  | false => rfl
  | true =>
    simp only [Bool.true_and]
    by_cases h : x.c = y.c
    · simp [h, eqRow]
    · have e : (x.c == y.c) = false := by simp [h]
      rw [e, decide_eq_false h]; simp
def okL (l : List Lin) : Prop := l.length < 1099511627776 ∧ ∀ x ∈ l, x.ts.length < 1099511627776
theorem pc_cfs (hW : W0 W) (a b : List Cf) (ha : a.length < 1099511627776) : PC P (gl W) 249 [.d (.list (a.map Cf.enc)), .d (.list (b.map Cf.enc))] (.d (.bool (lEq cfEq a b))) := by
  refine CG.start is249 ca249 rfl ?_
  refine s1 hW 7 0 [] 3 [(4, (bo false)), (10, (bo (!iEq (Int.ofNat (List.length (List.map Cf.enc a))) (Int.ofNat (List.length (List.map Cf.enc b))))))] ?_
  refine spEqN (List.length (List.map Cf.enc a)) (List.length (List.map Cf.enc b)) (fun q7 p7 => ?_) (fun q7 p7 => ?_) <;> simp only [zz] at p7
  refine CG.condF (b := (!iEq (Int.ofNat (List.length (List.map Cf.enc a))) (Int.ofNat (List.length (List.map Cf.enc b))))) (by rw [q7]; rfl) (by kernel_rfl) ?_
  refine s1 hW 7 0 [] 7 [(12, (no (List.length (List.map Cf.enc a)))), (13, (io 0))] ?_
  rotate_left
  refine CG.condT (b := (!iEq (Int.ofNat (List.length (List.map Cf.enc a))) (Int.ofNat (List.length (List.map Cf.enc b))))) (by rw [q7]; rfl) (by kernel_rfl) ?_
  refine s1 hW 3 0 [] 7 [] ?_
  refine CG.ret (v' := (bo false)) (by kernel_rfl) ?_
  rotate_left
  · refine CG.loopL a (fun i u => [(0, (lo Cf.enc a)), (1, (lo Cf.enc b)), (4, (bo false)), (12, (no (List.length (List.map Cf.enc a)))), (13, .d (.int .i64 (.ofNat i)))]) (fun i u => []) (fun i u r => (lEq cfEq a b = lEq cfEq r (b.drop i))) () ?_ (Tidy.refl _ _) ?_ ?_
    · rfl
    · intro i u hi hd hinv
      rw [List.drop_of_length_le (by omega), lEq] at hinv
      refine s1 hW 4 0 [] 23 [(14, (bo (iLt (Int.ofNat i) (Int.ofNat (List.length (List.map Cf.enc a))))))] ?_
      refine CG.condF (show (iLt (Int.ofNat i) (Int.ofNat (List.length (List.map Cf.enc a)))) = false from f_lt (by (try simp only [zz] at *) <;> omega)) (by kernel_rfl) ?_
      refine CG.exitL (by decide) ?_
      refine s1 hW 5 0 [] 0 [(4, (bo true))] ?_
      refine CG.ret (v' := (bo true)) (by kernel_rfl) ?_
      rotate_left
      rw [hinv]
    · intro i u x r hdr hx hlt hinv
      obtain ⟨y, hy⟩ : ∃ y, b[i]? = some y := ⟨_, List.getElem?_eq_getElem (by omega)⟩
      rw [drop_at hy, lEq] at hinv
      refine s1 hW 4 0 [] 31 [(14, (bo (iLt (Int.ofNat i) (Int.ofNat (List.length (List.map Cf.enc a))))))] ?_
      refine CG.condT (show (iLt (Int.ofNat i) (Int.ofNat (List.length (List.map Cf.enc a)))) = true from t_lt (by (try simp only [zz] at *) <;> omega)) (by kernel_rfl) ?_
      refine s1 hW 8 0 [] 31 [(5, (no i))] ?_
      refine CG.drawA orders (by kernel_rfl) (by kernel_rfl) ?_
      refine AO.rd 2 [(16, (lo Cf.enc a)), (17, (no i))] (by kernel_rfl) ?_
      refine AO.idx (idx_map (enc := Cf.enc) hx) rfl (by kernel_rfl) (by kernel_rfl) (by kernel_rfl) rfl ?_
      refine AO.rd 3 [(19, (.agg [(so (Cf.var x)), (io (Cf.c x))])), (20, (lo Cf.enc b)), (21, (no i))] (by kernel_rfl) ?_
      refine AO.idx (idx_map (enc := Cf.enc) hy) rfl (by kernel_rfl) (by kernel_rfl) (by kernel_rfl) rfl ?_
      refine AO.rd 1 [(23, (.agg [(so (Cf.var y)), (io (Cf.c y))]))] (by kernel_rfl) ?_
      rotate_left
      refine AO.eqS (xs := [(so (Cf.var x)), (io (Cf.c x))]) (ys := [(so (Cf.var y)), (io (Cf.c y))]) (r := (cfEq x y)) rfl (by kernel_rfl) (eqRow_cf x y) ?_
      refine AO.done [0, 1, 4, 12, 13, 24] rfl rfl (by kernel_rfl) ?_
      refine s1 hW 1 0 [] 63 [] ?_
      refine sp (cfEq x y) (fun q18 => ?_) (fun q18 => ?_)
      refine CG.condF (b := (!cfEq x y)) (by rw [q18]; rfl) (by kernel_rfl) ?_
      refine s3 hW 3 2 [] [(0, (lo Cf.enc a)), (1, (lo Cf.enc b)), (4, (bo false)), (12, (no (List.length (List.map Cf.enc a)))), (13, (io (wrapF IntKind.i64 (iAdd (Int.ofNat i) 1))))] ([]) ?_
      refine CG.endL rfl ?_
      rw [wrapI (by omega)]
      rotate_left
      refine CG.condT (b := (!cfEq x y)) (by rw [q18]; rfl) (by kernel_rfl) ?_
      refine s1 hW 3 0 [] 31 [] ?_
      refine CG.retL (v' := (bo false)) (by kernel_rfl) ?_
      rotate_left
      · exact ⟨(), by rw [hinv, show cfEq x y = true by assumption]; rfl, Tidy.refl _ _⟩
      · rw [hinv, show cfEq x y = false by assumption]; rfl
  · rw [lEq_len (by omega)]
theorem pc_same (hW : W0 W) (a b : Lin) (ha : a.ts.length < 1099511627776) : PC P (gl W) 180 [vL a, vL b] (.d (.bool (linEq a b))) := by
  refine CG.start is180 ca180 rfl ?_
  refine s4 hW 4 6 [] 0 [(2, (.ptr 0 2 0)), (3, (.ptr 1 2 0)), (4, (bo false)), (10, (bo (iEq (Lin.c a) (Lin.c b))))] [(0, (.cells [(io (Lin.c a)), (lo Cf.enc (Lin.ts a))])), (1, (.cells [(io (Lin.c b)), (lo Cf.enc (Lin.ts b))]))] ?_
  refine spEq (Lin.c a) (Lin.c b) (fun q7 p7 => ?_) (fun q7 p7 => ?_)
  rw [q7]
  refine s1 hW 0 4 [] 12 [(12, (lo Cf.enc (Lin.ts a))), (14, (lo Cf.enc (Lin.ts b)))] ?_
  refine CG.pg (pc_cfs hW (Lin.ts a) (Lin.ts b) ha) rfl (by kernel_rfl) ?_
  refine s1 hW 2 0 [] 0 [(4, (bo (lEq cfEq (Lin.ts a) (Lin.ts b))))] ?_
  refine CG.ret (v' := (bo (lEq cfEq (Lin.ts a) (Lin.ts b)))) (by kernel_rfl) ?_
  rotate_left
  rw [q7]
  refine s1 hW 2 0 [] 4 [] ?_
  refine CG.ret (v' := (bo false)) (by kernel_rfl) ?_
  rotate_left
  · rw [linEq, decide_eq_true (by omega), Bool.true_and]
  · rw [linEq, decide_eq_false (by omega), Bool.false_and]
theorem pc_lins (hW : W0 W) (a b : List Lin) (ha : okL a) : PC P (gl W) 179 [.d (.list (a.map Lin.enc)), .d (.list (b.map Lin.enc)), .func 180 [] []] (.d (.bool (lEq linEq a b))) := by
  have hla := ha.1
  refine CG.start is179 ca179 rfl ?_
  refine s1 hW 7 0 [] 7 [(6, (bo false)), (14, (bo (!iEq (Int.ofNat (List.length (List.map Lin.enc a))) (Int.ofNat (List.length (List.map Lin.enc b))))))] ?_
  refine spEqN (List.length (List.map Lin.enc a)) (List.length (List.map Lin.enc b)) (fun q8 p8 => ?_) (fun q8 p8 => ?_) <;> simp only [zz] at p8
  refine CG.condF (b := (!iEq (Int.ofNat (List.length (List.map Lin.enc a))) (Int.ofNat (List.length (List.map Lin.enc b))))) (by rw [q8]; rfl) (by kernel_rfl) ?_
  refine s1 hW 7 0 [] 14 [(15, (lo Lin.enc a)), (16, (no (List.length (List.map Lin.enc a)))), (17, (io 0))] ?_
  rotate_left
  refine CG.condT (b := (!iEq (Int.ofNat (List.length (List.map Lin.enc a))) (Int.ofNat (List.length (List.map Lin.enc b))))) (by rw [q8]; rfl) (by kernel_rfl) ?_
  refine s1 hW 3 0 [] 15 [] ?_
  refine CG.ret (v' := (bo false)) (by kernel_rfl) ?_
  rotate_left
  · refine CG.loopL a (fun i u => [(1, (lo Lin.enc b)), (2, (.func 180 [] [])), (6, (bo false)), (15, (lo Lin.enc a)), (16, (no (List.length (List.map Lin.enc a)))), (17, .d (.int .i64 (.ofNat i)))]) (fun i u => []) (fun i u r => (lEq linEq a b = lEq linEq r (b.drop i))) () ?_ (Tidy.refl _ _) ?_ ?_
    · rfl
    · intro i u hi hd hinv
      rw [List.drop_of_length_le (by omega), lEq] at hinv
      refine s1 hW 4 0 [] 47 [(18, (bo (iLt (Int.ofNat i) (Int.ofNat (List.length (List.map Lin.enc a))))))] ?_
      refine CG.condF (show (iLt (Int.ofNat i) (Int.ofNat (List.length (List.map Lin.enc a)))) = false from f_lt (by (try simp only [zz] at *) <;> omega)) (by kernel_rfl) ?_
      refine CG.exitL (by decide) ?_
      refine s1 hW 5 0 [] 0 [(6, (bo true))] ?_
      refine CG.ret (v' := (bo true)) (by kernel_rfl) ?_
      rotate_left
      rw [hinv]
    · intro i u x r hdr hx hlt hinv
      obtain ⟨y, hy⟩ : ∃ y, b[i]? = some y := ⟨_, List.getElem?_eq_getElem (by omega)⟩
      have hxs := ha.2 x (List.mem_of_getElem? hx)
      rw [drop_at hy, lEq] at hinv
      refine s1 hW 4 0 [] 63 [(18, (bo (iLt (Int.ofNat i) (Int.ofNat (List.length (List.map Lin.enc a))))))] ?_
      refine CG.condT (show (iLt (Int.ofNat i) (Int.ofNat (List.length (List.map Lin.enc a)))) = true from t_lt (by (try simp only [zz] at *) <;> omega)) (by kernel_rfl) ?_
      refine s1 hW 5 1 [] 63 [(19, (no i))] ?_
      refine CG.ix (idx_map (enc := Lin.enc) hx) rfl (by kernel_rfl) ?_
      refine s4 hW 3 2 [] 63 [(8, (.ptr 0 2 0)), (22, (lo Lin.enc b)), (23, (no i))] [(0, (.cells [(io (Lin.c x)), (lo Cf.enc (Lin.ts x))]))] ?_
      refine CG.ix (idx_map (enc := Lin.enc) hy) rfl (by kernel_rfl) ?_
      refine s4 hW 3 3 [] 119 [(26, (.func 180 [] [])), (27, (.agg [(io (Lin.c x)), (lo Cf.enc (Lin.ts x))])), (28, (.agg [(io (Lin.c y)), (lo Cf.enc (Lin.ts y))]))] [(1, (.cells [(io (Lin.c y)), (lo Cf.enc (Lin.ts y))]))] ?_
      refine CG.pcv (first := []) (cap := []) (pc_same hW x y hxs) rfl (by kernel_rfl) (by kernel_rfl) (by kernel_rfl) rfl ?_
      refine s1 hW 2 0 [] 63 [(30, (bo (!linEq x y)))] ?_
      refine sp (linEq x y) (fun q20 => ?_) (fun q20 => ?_)
      refine CG.condF (b := (!linEq x y)) (by rw [q20]; rfl) (by kernel_rfl) ?_
      refine s3 hW 3 2 [] [(1, (lo Lin.enc b)), (2, (.func 180 [] [])), (6, (bo false)), (15, (lo Lin.enc a)), (16, (no (List.length (List.map Lin.enc a)))), (17, (io (wrapF IntKind.i64 (iAdd (Int.ofNat i) 1))))] ([some (.cells [(io (Lin.c x)), (lo Cf.enc (Lin.ts x))]), some (.cells [(io (Lin.c y)), (lo Cf.enc (Lin.ts y))])]) ?_
      refine CG.endL rfl ?_
      rw [wrapI (by omega)]
      rotate_left
      refine CG.condT (b := (!linEq x y)) (by rw [q20]; rfl) (by kernel_rfl) ?_
      refine s1 hW 3 0 [] 63 [] ?_
      refine CG.retL (v' := (bo false)) (by kernel_rfl) ?_
      rotate_left
      · exact ⟨(), by rw [hinv, show linEq x y = true by assumption]; rfl, Tidy.trim 0 [1, 2, 6, 15, 16, 17] rfl rfl rfl rfl rfl⟩
      · rw [hinv, show linEq x y = false by assumption]; rfl
  · rw [lEq_len (by omega)]
theorem pc_sh (hW : W0 W) (r1 r2 : List UInt8) (d1 d2 : List Lin) (h1 : okL d1) : PC P (gl W) 123 [vS r1 d1, vS r2 d2] (.d (.bool (shEq r1 d1 r2 d2))) := by
  refine CG.start is123 ca123 rfl ?_
  refine s4 hW 4 6 [] 0 [(2, (.ptr 0 2 0)), (3, (.ptr 1 2 0)), (4, (bo false)), (10, (bo (bytesEq r1 r2)))] [(0, (.cells [(so r1), (lo Lin.enc d1)])), (1, (.cells [(so r2), (lo Lin.enc d2)]))] ?_
  refine sp (bytesEq r1 r2) (fun q8 => ?_) (fun q8 => ?_)
  rw [q8]
  refine s1 hW 0 4 [] 12 [(12, (lo Lin.enc d1)), (14, (lo Lin.enc d2))] ?_
  refine CG.pg (pc_lins hW d1 d2 h1) rfl (by kernel_rfl) ?_
  refine s1 hW 2 0 [] 0 [(4, (bo (lEq linEq d1 d2)))] ?_
  refine CG.ret (v' := (bo (lEq linEq d1 d2))) (by kernel_rfl) ?_
  rotate_left
  rw [q8]
  refine s1 hW 2 0 [] 4 [] ?_
  refine CG.ret (v' := (bo false)) (by kernel_rfl) ?_
  rotate_left
  · rw [shEq, show bytesEq r1 r2 = true by assumption, Bool.true_and]
  · rw [shEq, show bytesEq r1 r2 = false by assumption, Bool.false_and]
theorem pc_tyE (hW : W0 W) (a b : Ty) (h1 : okL a.dims) : PC P (gl W) 68 [vT a, vT b] (.d (.bool (tyEq a b))) := by
  refine CG.start is68 ca68 rfl ?_
  refine s4 hW 4 6 [] 0 [(2, (.ptr 0 3 0)), (3, (.ptr 1 3 0)), (4, (bo false)), (10, (bo (bytesEq (Ty.elem a) (Ty.elem b))))] [(0, (.cells [(so (Ty.elem a)), (so (Ty.row a)), (lo Lin.enc (Ty.dims a))])), (1, (.cells [(so (Ty.elem b)), (so (Ty.row b)), (lo Lin.enc (Ty.dims b))]))] ?_
  refine sp (bytesEq (Ty.elem a) (Ty.elem b)) (fun q6 => ?_) (fun q6 => ?_)
  rw [q6]
  refine s1 hW 0 4 [] 12 [(12, (.agg [(so (Ty.row a)), (lo Lin.enc (Ty.dims a))])), (14, (.agg [(so (Ty.row b)), (lo Lin.enc (Ty.dims b))]))] ?_
  refine CG.pg (pc_sh hW (Ty.row a) (Ty.row b) (Ty.dims a) (Ty.dims b) h1) rfl (by kernel_rfl) ?_
  refine s1 hW 2 0 [] 0 [(4, (bo (shEq (Ty.row a) (Ty.dims a) (Ty.row b) (Ty.dims b))))] ?_
  refine CG.ret (v' := (bo (shEq (Ty.row a) (Ty.dims a) (Ty.row b) (Ty.dims b)))) (by kernel_rfl) ?_
  rotate_left
  rw [q6]
  refine s1 hW 2 0 [] 4 [] ?_
  refine CG.ret (v' := (bo false)) (by kernel_rfl) ?_
  rotate_left
  · rw [tyEq, show bytesEq a.elem b.elem = true by assumption, Bool.true_and]
  · rw [tyEq, show bytesEq a.elem b.elem = false by assumption, Bool.false_and]
end Fw.Tz.Ew

/-
  Equal shapes and equal rows of signs, by the reference.
-/
namespace Fw.Tz.Vf
open Go Go.Proofs Fw.X Fw.Tz Fw.Nu Fw.Tz.Sd Fw.Tz.Na Fw.Tz.El Fw.Tz.Va Fw.Tz.Vb
variable {W : World}
def encB (b : Bool) : List D := [.bool b]
end Fw.Tz.Vf

/-
  Copies of rows.
-/
namespace Fw.Tz.Vg
open Go Go.Proofs Fw.X Fw.Tz Fw.Nu Fw.Tz.Na Fw.Tz.El Fw.Tz.Va Fw.Tz.Vb
variable {W : World}
noncomputable def rg (W : World) (n : Nat) (N j : Nat) (bs : List Bool) (cur : Cur) (K : List Fr) (ks : List Nat) (tm : List (Nat × V)) (H : Heap) : Option XR :=
  runG [5] (gl W) (callX W kt0 .e (rawX W kt0 .e 40)) (pcallX kt0 .e (rawX W kt0 .e 40)) n N j bs cur K ks tm H
theorem s2 (hW : W0 W) (N j : Nat) (bs : List Bool) (m : Nat) (nw : List (Nat × V)) (H' : Heap) {cur c' : Cur} {K K' : List Fr} {n : Nat} {tm : List (Nat × V)} {H : Heap} {Q : Ex → St → Prop} (hq : CG P (gl W) c' K' n (upd m nw tm) H' Q) (h1 : ctlJ N j bs cur K = some (c', K') := by rfl) (h2 : rg W n N j bs cur K ((upd m nw tm).map Prod.fst) tm H = some (.tuple ((upd m nw tm).map Prod.snd), H') := by kernel_rfl) : CG P (gl W) cur K n tm H Q :=
  CG.st orders (callX_ok hW (ex0) _ (rawX_ok hW (ex0) 40)) (pcallX_ok hW (ex0) _ (rawX_ok hW (ex0) 40)) N j bs h1 h2 hq
theorem s1 (hW : W0 W) (N j : Nat) (bs : List Bool) (m : Nat) (nw : List (Nat × V)) {cur c' : Cur} {K K' : List Fr} {n : Nat} {tm : List (Nat × V)} {H : Heap} {Q : Ex → St → Prop} (hq : CG P (gl W) c' K' n (upd m nw tm) H Q) (h1 : ctlJ N j bs cur K = some (c', K') := by rfl) (h2 : rg W n N j bs cur K ((upd m nw tm).map Prod.fst) tm H = some (.tuple ((upd m nw tm).map Prod.snd), H) := by kernel_rfl) : CG P (gl W) cur K n tm H Q := s2 hW N j bs m nw H hq h1 h2
theorem s4 (hW : W0 W) (N j : Nat) (bs : List Bool) (m : Nat) (nw : List (Nat × V)) (hd : List (Nat × Box)) {cur c' : Cur} {K K' : List Fr} {n : Nat} {tm : List (Nat × V)} {H : Heap} {Q : Ex → St → Prop} (hq : CG P (gl W) c' K' n (upd m nw tm) (hpu hd H) Q) (h1 : ctlJ N j bs cur K = some (c', K') := by rfl) (h2 : rg W n N j bs cur K ((upd m nw tm).map Prod.fst) tm H = some (.tuple ((upd m nw tm).map Prod.snd), hpu hd H) := by kernel_rfl) : CG P (gl W) cur K n tm H Q := s2 hW N j bs m nw (hpu hd H) hq h1 h2
theorem pc_cloneC (hW : W0 W) (a : Cf) (l : List Cf) (hl : (a :: l).length < 1073741824) : PC P (gl W) 170 [.d (.list ((a :: l).map Cf.enc))] (.d (.list ((a :: l).map Cf.enc))) := by
  refine CG.start is170 ca170 rfl ?_
  refine s4 hW 11 2 [false] 0 [(2, .nils), (5, (.sl 0 0 0 0 2)), (6, (.d (.list ([(.str (Cf.var a)), (.int .i64 (Cf.c a))] :: (List.map Cf.enc l)))))] [(0, (.cells []))] ?_
  rotate_left
  show CG _ _ _ _ _ ([(2, .nils), (5, .sl 0 (List.length ([] : List Cf) * 2) 0 (List.length ([] : List Cf)) 2), (6, (.d (.list ([(.str (Cf.var a)), (.int .i64 (Cf.c a))] :: (List.map Cf.enc l)))))]) ([some (cellE Cf.enc ([] : List Cf))]) _
  refine CG.apC Cf.enc [] (({ var := Cf.var a, c := Cf.c a }) :: l) 0 (fun _ => rfl) rfl (by kernel_rfl) (sliceC_map (enc := Cf.enc) (fun _ => rfl) _ (({ var := Cf.var a, c := Cf.c a }) :: l)) (by (try simp only [zz] at *) <;> omega) ?_
  refine s1 hW 2 0 [] 0 [(2, (.sl 0 (List.length ([] ++ a :: l) * 2) 0 (List.length ([] ++ a :: l)) 2))] ?_
  rotate_left
  refine CG.tidy (Tidy.frzC (sz := 2) Cf.enc ([] ++ a :: l) 0 2 (tm' := [(2, (.d (.list (List.map Cf.enc ([] ++ a :: l)))))]) (H' := [none]) (fun _ => rfl) (by kernel_rfl) (by kernel_rfl) ⟨.inl rfl, trivial⟩ (by kernel_rfl) (by kernel_rfl)) ?_
  refine CG.ret (v' := (.d (.list ([(.str (Cf.var a)), (.int .i64 (Cf.c a))] :: (List.map Cf.enc l))))) (by kernel_rfl) ?_
  rfl
end Fw.Tz.Vg

/-
  Copies of shapes.
-/
namespace Fw.Tz.Vh
open Go Go.Proofs Fw.X Fw.Tz Fw.Nu Fw.Tz.Sd Fw.Tz.Na Fw.Tz.El Fw.Tz.Va Fw.Tz.Vb
variable {W : World}
theorem pc_cloneCs (hW : W0 W) (l : List Cf) (hl : l.length < 1073741824) : PC P (gl W) 170 [.d (.list (l.map Cf.enc))] (.d (.list (l.map Cf.enc))) := by
  cases l with
  | nil => exact pc170_nil
  | cons a l => exact Fw.Tz.Vg.pc_cloneC hW a l hl
theorem pc_clones (hW : W0 W) (l : List Lin) (hl : l.length < 1073741824) (hd : ∀ x ∈ l, x.ts.length < 1073741824) : PC P (gl W) 110 [.d (.list (l.map Lin.enc))] (.d (.list (l.map Lin.enc))) := by
  refine CG.start is110 ca110 rfl ?_
  refine s1 hW 11 0 [] 0 [(2, .nils), (3, .nils), (6, (lo Lin.enc l)), (7, (no (List.length (List.map Lin.enc l)))), (8, (io 0))] ?_
  rotate_left
  refine CG.tidy (Tidy.nilS 3 2 (tm' := [(2, .nils), (3, .sl 0 0 0 0 2), (6, (lo Lin.enc l)), (7, (no (List.length (List.map Lin.enc l)))), (8, (io 0))]) (Nat.le_refl _) (by kernel_rfl) (by kernel_rfl)) ?_
  show CG _ _ _ _ _ _ ([some .nil]) _
  show CG _ _ _ _ _ ([(2, .nils), (3, .sl 0 (List.length ([] : List Lin) * 2) 0 (List.length ([] : List Lin)) 2), (6, (lo Lin.enc l)), (7, (no (List.length (List.map Lin.enc l)))), (8, (io 0))]) ([some (rowE Lin.enc ([] : List Lin))]) _
  refine CG.loopL l (fun i u => [(2, .nils), (3, .sl 0 ((l.take i).length * 2) 0 (l.take i).length 2), (6, (lo Lin.enc l)), (7, (no (List.length (List.map Lin.enc l)))), (8, .d (.int .i64 (.ofNat i)))]) (fun i u => [rowE Lin.enc (l.take i)]) (fun i u r => (True)) () ?_ (Tidy.refl _ _) ?_ ?_
  · trivial
  · intro i u hi hdr hinv
    rw [show l.take i = l by rw [hi, List.take_length]]
    refine s1 hW 4 0 [] 23 [(9, (bo (iLt (Int.ofNat i) (Int.ofNat (List.length (List.map Lin.enc l))))))] ?_
    refine CG.condF (show (iLt (Int.ofNat i) (Int.ofNat (List.length (List.map Lin.enc l)))) = false from f_lt (by (try simp only [zz] at *) <;> omega)) (by kernel_rfl) ?_
    refine CG.exitL (by decide) ?_
    refine s1 hW 5 0 [] 0 [(2, (.sl 0 (List.length l * 2) 0 (List.length l) 2))] ?_
    rotate_left
    refine CG.tidy (Tidy.frzE (sz := 2) Lin.enc l 0 2 (tm' := [(2, (.d (.list (List.map Lin.enc l))))]) (H' := [none]) (fun _ => rfl) (by kernel_rfl) (by kernel_rfl) ⟨.inl rfl, trivial⟩ (by kernel_rfl) (by kernel_rfl)) ?_
    refine CG.ret (v' := (lo Lin.enc l)) (by kernel_rfl) ?_
    with_reducible rfl
  · intro i u x r hdr hx hlt hinv
    have hs := hd x (List.mem_of_getElem? hx)
    have hti : (l.take i).length = i := by rw [List.length_take]; omega
    have htk : l.take (i + 1) = l.take i ++ [x] := by rw [List.take_add_one, hx]; rfl
    rw [htk]
    refine s1 hW 4 0 [] 31 [(9, (bo (iLt (Int.ofNat i) (Int.ofNat (List.length (List.map Lin.enc l))))))] ?_
    refine CG.condT (show (iLt (Int.ofNat i) (Int.ofNat (List.length (List.map Lin.enc l)))) = true from t_lt (by (try simp only [zz] at *) <;> omega)) (by kernel_rfl) ?_
    refine s1 hW 5 0 [] 31 [] ?_
    refine CG.reg ?_
    refine CG.ix (idx_map (enc := Lin.enc) hx) rfl (by kernel_rfl) ?_
    refine s4 hW 2 0 [] 31 [(5, (.ptr 1 2 0))] [(1, (.cells [(io (Lin.c x)), (lo Cf.enc (Lin.ts x))]))] ?_
    refine CG.drawW orders (by kernel_rfl) ?_
    refine AW.rk 5 [(12, (.sl 0 (List.length (List.take i l) * 2) 0 (List.length (List.take i l)) 2)), (13, (.ptr 1 2 0)), (14, (io (Lin.c x))), (15, (.ptr 1 2 1)), (16, (lo Cf.enc (Lin.ts x)))] [] (by kernel_rfl) ?_
    refine AW.pcG (pc_cloneCs hW (Lin.ts x) hs) rfl (by kernel_rfl) (by kernel_rfl) ?_
    refine AW.rk 2 [(18, (.agg [(io (Lin.c x)), (lo Cf.enc (Lin.ts x))])), (19, (.sl 9 2 0 1 2))] [(9, (.cells [(io (Lin.c x)), (lo Cf.enc (Lin.ts x))]))] (by kernel_rfl) ?_
    rotate_left
    refine AW.appE1 Lin.enc (l.take i) x (b := 0) (fun _ => rfl) rfl rfl (by kernel_rfl) (by kernel_rfl) (by kernel_rfl) (by kernel_rfl) (by omega) rfl ?_
    refine AW.rk 1 [(3, (.sl 0 (List.length (List.take i l ++ [x]) * 2) 0 (List.length (List.take i l ++ [x])) 2))] [] (by kernel_rfl) ?_
    refine AW.nil rfl ⟨by kernel_rfl, AW.fin (H2 := [some (rowE Lin.enc (List.take i l ++ [x])), some (.cells [(io (Lin.c x)), (lo Cf.enc (Lin.ts x))])] ++ nn 7 ([some (.cells [(io (Lin.c x)), (lo Cf.enc (Lin.ts x))])])) 10 [2, 3, 6, 7, 8] (by kernel_rfl) rfl (by kernel_rfl) (by kernel_rfl) (by simp [nn, heapLt, boxLt_row, boxLt_cell, boxLt_cs, boxLt_nil, refsLtL, refsLt]) ?_⟩
    refine s3 hW 2 2 [] [(2, .nils), (3, (.sl 0 (List.length (List.take i l ++ [x]) * 2) 0 (List.length (List.take i l ++ [x])) 2)), (6, (lo Lin.enc l)), (7, (no (List.length (List.map Lin.enc l)))), (8, (io (wrapF IntKind.i64 (iAdd (Int.ofNat i) 1))))] ([some (rowE Lin.enc (List.take i l ++ [x])), some (.cells [(io (Lin.c x)), (lo Cf.enc (Lin.ts x))])] ++ nn 7 ([some (.cells [(io (Lin.c x)), (lo Cf.enc (Lin.ts x))])])) ?_
    refine CG.endL rfl ?_
    rw [wrapI (by omega)]
    rotate_left
    exact ⟨(), trivial, Tidy.trim 1 [2, 3, 6, 7, 8] rfl rfl rfl rfl (by simp [heapLt, boxLt_row])⟩
end Fw.Tz.Vh

/-
  Shapes split.
-/
namespace Fw.Tz.Vi
open Go Go.Proofs Fw.X Fw.Tz Fw.Nu Fw.Tz.Sd Fw.Tz.Na Fw.Tz.El Fw.Tz.Va Fw.Tz.Vb Fw.Tz.Vh
variable {W : World}
theorem pc_split (hW : W0 W) (row : List UInt8) (dims : List Lin) (j : Nat) (hv : shpB row dims = true) (hj : j ≤ dims.length) (hr : row.length < 1099511627776) (hl : dims.length < 1073741824) (hd : ∀ x ∈ dims, Lin.sm x) (hc : ∀ x ∈ dims, x.ts.length < 1073741824) : PC P (gl W) 50 [.agg [.d (.str row), .d (.list (dims.map Lin.enc))], .d (.int .i64 (.ofNat j))]
    (.tuple [.agg [.d (.str row), .d (.list ((dims.take (dims.length - j)).map Lin.enc))], .agg [.d (.str []), .d (.list ((dims.drop (dims.length - j)).map Lin.enc))], .d (.int .i64 0)]) := by
  refine CG.start is50 ca50 rfl ?_
  have hl2 : dims.length < 1099511627776 := by omega
  have m1 : ∀ x ∈ List.drop 0 (List.take (dims.length - j) dims), x.ts.length < 1073741824 := fun x hx => hc x (List.mem_of_mem_take (by simpa using hx))
  have m2 : ∀ x ∈ List.drop (dims.length - j) (List.take (List.map Lin.enc dims).length dims), x.ts.length < 1073741824 := fun x hx => hc x (List.mem_of_mem_take (List.mem_of_mem_drop hx))
  have n1 : (List.drop 0 (List.take (dims.length - j) dims)).length < 1073741824 := by simp; omega
  have n2 : (List.drop (dims.length - j) (List.take (List.map Lin.enc dims).length dims)).length < 1073741824 := by simp; omega
  refine s4 hW 6 1 [] 2 [(2, (.ptr 0 2 0)), (4, (.ptr 1 2 0)), (5, (.ptr 2 2 0)), (6, (io 0)), (9, (.agg [(so row), (lo Lin.enc dims)]))] [(0, (.cells [(so row), (lo Lin.enc dims)])), (1, (.cells [(so []), .nils])), (2, (.cells [(so []), .nils]))] ?_
  refine CG.pg (pc_shp hW _ _ hr hl2 hd) rfl (by kernel_rfl) ?_
  refine s1 hW 2 0 [] 31 [(8, (bo (!shpB row dims)))] ?_
  refine CG.condF (b := (!shpB row dims)) (by rw [hv]; rfl) (by kernel_rfl) ?_
  refine s1 hW 7 0 [false] 31 [(19, (bo (iLt (Int.ofNat (List.length (List.map Lin.enc dims))) (Int.ofNat j))))] ?_
  refine CG.condF (show (iLt (Int.ofNat (List.length (List.map Lin.enc dims))) (Int.ofNat j)) = false from f_lt (by (try simp only [zz] at *) <;> omega)) (by kernel_rfl) ?_
  refine s1 hW 7 0 [] 30 [(7, (io (wrapF IntKind.i64 (Int.ofNat (List.length (List.map Lin.enc dims)) - Int.ofNat j))))] ?_
  refine CG.drawW orders (by kernel_rfl) ?_
  refine AW.rk 5 [(32, (.ptr 0 2 0)), (33, (so row)), (34, (.ptr 0 2 1)), (35, (lo Lin.enc dims)), (36, (io (wrapF IntKind.i64 (Int.ofNat (List.length (List.map Lin.enc dims)) - Int.ofNat j))))] [] (by kernel_rfl) ?_
  rotate_left
  rw [show wrapF .i64 (Int.ofNat (List.map Lin.enc dims).length - Int.ofNat j) = Int.ofNat (dims.length - j) from by rw [wrapF_eq, IntKind.wrap_i64, List.length_map]; simp only [Int.ofNat_eq_natCast]; omega]
  refine AW.lsl Lin.enc dims 0 (List.length dims - j) (fun _ => rfl) rfl (by kernel_rfl) (by kernel_rfl) (by kernel_rfl) (by kernel_rfl) (by (try simp only [zz] at *) <;> omega) ?_
  refine AW.pcG (pc_clones hW (List.drop 0 (List.take (List.length dims - j) dims)) n1 m1) rfl (by kernel_rfl) (by kernel_rfl) ?_
  refine AW.rk 4 [(39, (.agg [(so row), (lo Lin.enc (List.drop 0 (List.take (List.length dims - j) dims)))])), (40, (.ptr 0 2 1)), (41, (lo Lin.enc dims)), (42, (no (List.length dims - j)))] [] (by kernel_rfl) ?_
  refine AW.lsl Lin.enc dims (List.length dims - j) (List.length (List.map Lin.enc dims)) (fun _ => rfl) rfl (by kernel_rfl) (by kernel_rfl) (by kernel_rfl) (by kernel_rfl) (by (try simp only [zz] at *) <;> omega) ?_
  refine AW.pcG (pc_clones hW (List.drop (List.length dims - j) (List.take (List.length (List.map Lin.enc dims)) dims)) n2 m2) rfl (by kernel_rfl) (by kernel_rfl) ?_
  refine AW.rk 4 [(45, (.agg [(so []), (lo Lin.enc (List.drop (List.length dims - j) (List.take (List.length (List.map Lin.enc dims)) dims)))]))] [(1, (.cells [(so row), (lo Lin.enc (List.drop 0 (List.take (List.length dims - j) dims)))])), (2, (.cells [(so []), (lo Lin.enc (List.drop (List.length dims - j) (List.take (List.length (List.map Lin.enc dims)) dims)))]))] (by kernel_rfl) ?_
  refine AW.nil rfl ⟨by kernel_rfl, AW.fin 3 [4, 5, 6] (by kernel_rfl) rfl (by kernel_rfl) rfl (by kernel_rfl) ?_⟩
  refine s1 hW 1 0 [] 7 [] ?_
  refine CG.ret (v' := (.tuple [(.agg [(so row), (lo Lin.enc (List.drop 0 (List.take (List.length dims - j) dims)))]), (.agg [(so []), (lo Lin.enc (List.drop (List.length dims - j) (List.take (List.length (List.map Lin.enc dims)) dims)))]), (io 0)])) (by kernel_rfl) ?_
  rotate_left
  · simp [List.take_of_length_le]
end Fw.Tz.Vi
