/-
  Frames.
-/
import Derived.Test.YtgfgckimecpmlaaGreatDoorTf
import Derived.Test.YtgfgckimecpmlaaGreatDoorTd
import Derived.Test.YtgfgckimecpmlaaGreatDoorFg
import Derived.Test.YtgfgckimecpmlaaGreatDoorTe
import Derived.Test.YtgfgckimecpmlaaGreatDoorTc

set_option linter.unusedSimpArgs false
set_option maxRecDepth 1000000
set_option maxHeartbeats 4000000
namespace Fw.Tz.Fg
open Go Go.Proofs Fw.X Fw.Tz Fw.Nu Fw.Tz.Sd Fw.Tz.Na Fw.Tz.El Fw.Tz.Va Fw.Tz.Vb Fw.Tz.Vc Fw.Tz.Vf Fw.Tz.Vh Fw.Tz.Vi
variable {W : World}
def frm : List Lin → List Bool → List Ty → List Ty → Option (List Lin × List Bool)
  | cur, bs, g :: gs, w :: ws =>
    if g.dims.length < w.dims.length then none
    else if w.dims.length < g.dims.length ∧ cur ≠ [] ∧ g.dims.length - w.dims.length ≠ cur.length then none
    else frm (if w.dims.length < g.dims.length ∧ cur = [] then g.dims.take (g.dims.length - w.dims.length) else cur) (bs ++ [decide (w.dims.length < g.dims.length)]) gs ws
  | cur, bs, _, _ => some (cur, bs)
theorem frm_cons {g w : Ty} {m : Nat} (hm : m + w.dims.length = g.dims.length) (cur : List Lin) (bs : List Bool) (r ws : List Ty) : frm cur bs (g :: r) (w :: ws) =
    if 0 < m ∧ 0 < cur.length ∧ m ≠ cur.length then none else frm (if 0 < m ∧ cur.length = 0 then g.dims.take m else cur) (bs ++ [iLt 0 (.ofNat m)]) r ws := by
  have e0 : g.dims.length - w.dims.length = m := by omega
  have e1 : (w.dims.length < g.dims.length) = (0 < m) := propext ⟨fun h => by omega, fun h => by omega⟩
  have e2 : (cur = []) = (cur.length = 0) := propext List.length_eq_zero_iff.symm
  have e3 : (cur ≠ []) = (0 < cur.length) := propext ⟨fun h => List.length_pos_iff.2 h, fun h => List.length_pos_iff.1 h⟩
  have e6 : iLt 0 (Int.ofNat m) = decide (0 < m) := by rw [iLt_eq]; congr 1; exact propext ⟨fun h => by simpa using h, fun h => by simpa using h⟩
  rw [frm, if_neg (by omega)]
  simp only [e0, e1, e2, e3, e6]
theorem frm_short {g w : Ty} (h : g.dims.length < w.dims.length) (cur : List Lin) (bs : List Bool) (r ws : List Ty) : frm cur bs (g :: r) (w :: ws) = none := by rw [frm, if_pos h]
theorem frm_len : ∀ (gs ws : List Ty) (cur : List Lin) (bs : List Bool) {fr : List Lin} {fd : List Bool}, frm cur bs gs ws = some (fr, fd) → fd.length ≤ bs.length + gs.length ∧ (fr = cur ∨ ∃ g ∈ gs, ∃ k, fr = g.dims.take k)
  | [], _, cur, bs, fr, fd, h => by
    simp only [frm, Option.some.injEq, Prod.mk.injEq] at h
    obtain ⟨rfl, rfl⟩ := h
    exact ⟨by simp, .inl rfl⟩
  | g :: gs, [], cur, bs, fr, fd, h => by
    simp only [frm, Option.some.injEq, Prod.mk.injEq] at h
    obtain ⟨rfl, rfl⟩ := h
    exact ⟨by simp, .inl rfl⟩
  | g :: gs, w :: ws, cur, bs, fr, fd, h => by
    rw [frm] at h
    split at h
    · cases h
    · split at h
      · cases h
      · obtain ⟨h1, h2⟩ := frm_len gs ws _ _ h
        refine ⟨by simp only [List.length_append, List.length_cons, List.length_nil] at h1 ⊢; omega, ?_⟩
        rcases h2 with h2 | ⟨g', hg', k, hk⟩
        · split at h2
          · exact .inr ⟨g, List.mem_cons_self, _, h2⟩
          · exact .inl h2
        · exact .inr ⟨g', List.mem_cons_of_mem _ hg', k, hk⟩
def outF (cur : List Lin) (bs : List Bool) (e : Int) : V := .tuple [.agg [.d (.str []), .d (.list (cur.map Lin.enc))], .d (.list (bs.map encB)), .d (.int .i64 e)]
def frmV : Option (List Lin × List Bool) → V
  | none => outF [] [] 13
  | some (cur, bs) => outF cur bs 0
def frameF (c : Con) : V := bif knownB c then frmV (frm [] [] c.gs c.ws) else outF [] [] 1
structure Fit (c : Con) : Prop where
  len : c.gs.length = c.ws.length
  le : c.gs.length ≤ 16
  row : ∀ t ∈ c.gs, t.row = []
  shp : ∀ t ∈ c.gs, shpB t.row t.dims = true
theorem fit_of {c : Con} (h : knownB c = true) : Fit c := by
  simp only [knownB, conB, Bool.and_eq_true, decide_eq_true_eq, Bool.not_eq_true', List.any_eq_false] at h
  obtain ⟨⟨⟨⟨⟨⟨⟨⟨_, h1⟩, h2⟩, _⟩, _⟩, _⟩, h3⟩, _⟩, h4⟩ := h
  refine ⟨h1, h2, fun t ht => ?_, fun t ht => ?_⟩
  · have := h4 t ht
    simpa [hasRow, Fw.bytesEq_iff] using this
  · have := h3 t ht
    simp only [badT, Bool.not_eq_true', Bool.not_eq_false, tyB, Bool.and_eq_true] at this
    exact this.2
theorem pc_frame (hW : W0 W) (c : Con) (hs : Con.sm c) (hm : ∀ t ∈ c.gs, t.dims.length < 1073741824 ∧ ∀ x ∈ t.dims, x.ts.length < 1073741824) : PC P (gl W) 14 [.agg (Con.cells c)] (frameF c) := by
  refine CG.start is14 ca14 rfl ?_
  refine s4 hW 5 1 [] 0 [(1, (.ptr 0 18 0)), (2, (.ptr 1 2 0)), (3, .nils), (4, (io 0)), (8, (.agg (Con.cells c)))] [(0, (.cells (Con.cells c))), (1, (.cells [(so []), .nils]))] ?_
  refine CG.pg (pc_known hW c hs) rfl (by kernel_rfl) ?_
  refine s1 hW 2 0 [] 15 [(10, (bo (!knownB c)))] ?_
  refine sp (knownB c) (fun q6 => ?_) (fun q6 => ?_)
  refine CG.condF (b := (!knownB c)) (by rw [q6]; rfl) (by kernel_rfl) ?_
  refine s1 hW 7 0 [] 15 [(13, (lo Ty.enc (Con.gs c))), (14, (no (List.length (List.map Ty.enc (Con.gs c))))), (15, (io 0))] ?_
  rotate_left
  refine CG.condT (b := (!knownB c)) (by rw [q6]; rfl) (by kernel_rfl) ?_
  refine s1 hW 3 0 [] 7 [(4, (io 1))] ?_
  refine CG.ret (v' := (.tuple [(.agg [(so []), (.d (.list []))]), (.d (.list [])), (io 1)])) (by kernel_rfl) ?_
  rotate_left
  · have hk : knownB c = true := by assumption
    have hf := fit_of hk
    have hR : frameF c = frmV (frm [] [] c.gs c.ws) := by rw [frameF, hk]; rfl
    rw [hR]
    refine CG.tidy (Tidy.nilCD 1 1 (cs := [(so []), .nils]) (H' := [some (.cells (Con.cells c)), some (.cells [(so []), (.d (.list []))])]) (by kernel_rfl) (by kernel_rfl) (by kernel_rfl)) ?_
    refine CG.tidy (Tidy.nilS 3 1 (tm' := [(1, (.ptr 0 18 0)), (2, (.ptr 1 2 0)), (3, .sl 2 0 0 0 1), (4, (io 0)), (13, (lo Ty.enc (Con.gs c))), (14, (no (List.length (List.map Ty.enc (Con.gs c))))), (15, (io 0))]) (Nat.le_refl _) (by kernel_rfl) (by kernel_rfl)) ?_
    show CG _ _ _ _ _ _ ([some (.cells (Con.cells c)), some (.cells [(so []), (.d (.list []))]), some .nil]) _
    show CG _ _ _ _ _ ([(1, (.ptr 0 18 0)), (2, (.ptr 1 2 0)), (3, .sl 2 (List.length ([] : List Bool) * 1) 0 (List.length ([] : List Bool)) 1), (4, (io 0)), (13, (lo Ty.enc (Con.gs c))), (14, (no (List.length (List.map Ty.enc (Con.gs c))))), (15, (io 0))]) ([some (.cells (Con.cells c)), some (.cells [(so []), (.d (.list []))]), some (rowE encB ([] : List Bool))]) _
    refine CG.loopL c.gs (fun i a => [(1, (.ptr 0 18 0)), (2, (.ptr 1 2 0)), (3, .sl 2 (a.2.length * 1) 0 a.2.length 1), (4, (io 0)), (13, (lo Ty.enc (Con.gs c))), (14, (no (List.length (List.map Ty.enc (Con.gs c))))), (15, .d (.int .i64 (.ofNat i)))]) (fun i a => [some (.cells (Con.cells c)), some (.cells [.d (.str []), .d (.list (a.1.map Lin.enc))]), some (rowE encB a.2)]) (fun i a r => (frmV (frm [] [] c.gs c.ws) = frmV (frm a.1 a.2 r (c.ws.drop i)) ∧ a.2.length = i)) (([], []) : List Lin × List Bool) ?_ (Tidy.refl _ _) ?_ ?_
    · exact ⟨rfl, rfl⟩
    · rintro i ⟨cur, bs⟩ hi hd ⟨hinv, hbs⟩
      dsimp only at hinv hbs ⊢
      have hR : frmV (frm [] [] c.gs c.ws) = outF cur bs 0 := by
        rw [hinv]; simp [frm, frmV]
      rw [hR]
      refine s1 hW 4 0 [] 95 [(16, (bo (iLt (Int.ofNat i) (Int.ofNat (List.length (List.map Ty.enc (Con.gs c)))))))] ?_
      refine CG.condF (show (iLt (Int.ofNat i) (Int.ofNat (List.length (List.map Ty.enc (Con.gs c))))) = false from f_lt (by (try simp only [zz] at *) <;> omega)) (by kernel_rfl) ?_
      refine CG.exitL (by decide) ?_
      refine s1 hW 5 0 [] 14 [] ?_
      rotate_left
      refine CG.tidy (Tidy.frzE (sz := 1) encB bs 2 3 (tm' := [(2, (.ptr 1 2 0)), (3, (.d (.list (List.map encB bs)))), (4, (io 0))]) (H' := [some (.cells (Con.cells c)), some (.cells [(so []), (lo Lin.enc cur)]), none]) (fun _ => rfl) (by kernel_rfl) (by kernel_rfl) ⟨.inr rfl, ⟨.inr rfl, ⟨.inl rfl, trivial⟩⟩⟩ (by kernel_rfl) (by kernel_rfl)) ?_
      refine CG.ret (v' := (.tuple [(.agg [(so []), (lo Lin.enc cur)]), (lo encB bs), (io 0)])) (by kernel_rfl) ?_
      rfl
    · rintro i ⟨cur, bs⟩ x r hd hx hlt ⟨hinv, hbs⟩
      dsimp only at hinv hbs ⊢
      have hfl := hf.len
      have hfe := hf.le
      obtain ⟨y, hy⟩ : ∃ y, c.ws[i]? = some y := ⟨_, List.getElem?_eq_getElem (by omega)⟩
      have hxg := List.mem_of_getElem? hx
      obtain ⟨hx1, hx2, hx3, hx4⟩ := hs.g x hxg
      obtain ⟨hy1, hy2, hy3, hy4⟩ := hs.w y (List.mem_of_getElem? hy)
      obtain ⟨hm1, hm2⟩ := hm x hxg
      have hrow := hf.row x hxg
      have hshp := hf.shp x hxg
      rw [drop_at hy] at hinv
      obtain ⟨xe, xr, xd⟩ := x
      simp only at hx1 hx2 hx3 hx4 hm1 hm2 hrow hshp
      subst hrow
      refine s1 hW 4 0 [] 127 [(16, (bo (iLt (Int.ofNat i) (Int.ofNat (List.length (List.map Ty.enc (Con.gs c)))))))] ?_
      refine CG.condT (show (iLt (Int.ofNat i) (Int.ofNat (List.length (List.map Ty.enc (Con.gs c))))) = true from t_lt (by (try simp only [zz] at *) <;> omega)) (by kernel_rfl) ?_
      refine s1 hW 5 1 [] 127 [(17, (no i))] ?_
      refine CG.ix (idx_map (enc := Ty.enc) hx) rfl (by kernel_rfl) ?_
      refine s4 hW 3 0 [] 127 [(5, (no i)), (6, (.ptr 3 3 0))] [(3, (.cells [(so (Ty.elem { elem := xe, row := [], dims := xd })), (so []), (lo Lin.enc (Ty.dims { elem := xe, row := [], dims := xd }))]))] ?_
      refine CG.isH ([some (.cells (Con.cells c)), some (.cells [(so []), (lo Lin.enc cur)]), some (rowE encB bs), some (.cells [(so (Ty.elem { elem := xe, row := [], dims := xd })), (so []), (lo Lin.enc (Ty.dims { elem := xe, row := [], dims := xd }))])]) (by kernel_rfl) ?_
      refine CG.drawA orders (by kernel_rfl) (by simp [heapLt, boxLt_row, boxLt_cell, boxLt_cs, boxLt_nil, refsLtL, refsLt, Con.cells]) ?_
      refine AO.rd 7 [(20, (.ptr 3 3 1)), (21, (.ptr 3 3 2)), (22, (lo Lin.enc (Ty.dims { elem := xe, row := [], dims := xd }))), (23, (no (List.length (List.map Lin.enc (Ty.dims { elem := xe, row := [], dims := xd }))))), (24, (.ptr 0 18 9)), (25, (lo Ty.enc (Con.ws c))), (26, (no i))] (by kernel_rfl) ?_
      refine AO.idx (idx_map (enc := Ty.enc) hy) rfl (by kernel_rfl) (by kernel_rfl) (by kernel_rfl) rfl ?_
      refine AO.rd 6 [(7, (io (IntKind.wrap IntKind.i64 (Int.ofNat (List.length (List.map Lin.enc (Ty.dims { elem := xe, row := [], dims := xd }))) - Int.ofNat (List.length (List.map Lin.enc (Ty.dims y))))))), (28, (.cptr [(.str (Ty.row y)), (.list (List.map Lin.enc (Ty.dims y)))])), (29, (.cptr [(.list (List.map Lin.enc (Ty.dims y)))])), (30, (lo Lin.enc (Ty.dims y))), (31, (no (List.length (List.map Lin.enc (Ty.dims y))))), (32, (io (IntKind.wrap IntKind.i64 (Int.ofNat (List.length (List.map Lin.enc (Ty.dims { elem := xe, row := [], dims := xd }))) - Int.ofNat (List.length (List.map Lin.enc (Ty.dims y)))))))] (by kernel_rfl) ?_
      refine AO.done [1, 2, 3, 4, 5, 6, 7, 13, 14, 15] rfl rfl (by kernel_rfl) ?_
      refine s1 hW 3 3 [] 1023 [(35, (bo (iLt (IntKind.wrap IntKind.i64 (Int.ofNat (List.length (List.map Lin.enc (Ty.dims { elem := xe, row := [], dims := xd }))) - Int.ofNat (List.length (List.map Lin.enc (Ty.dims y))))) 0)))] ?_
      rw [show IntKind.wrap .i64 (Int.ofNat (List.length (List.map Lin.enc (Ty.dims ⟨xe, [], xd⟩))) - Int.ofNat (List.length (List.map Lin.enc (Ty.dims y)))) = Int.ofNat xd.length - Int.ofNat y.dims.length from by rw [IntKind.wrap_i64, List.length_map, List.length_map]; simp only [Int.ofNat_eq_natCast]; omega]
      by_cases hn : xd.length < y.dims.length
      · have q38 : (iLt (Int.ofNat (List.length xd) - Int.ofNat (List.length (Ty.dims y))) 0) = true := t_lt (by (try simp only [zz] at *) <;> omega)
        rw [q38]
        refine s4 hW 6 0 [true] 1011 [(3, .nils), (4, (io 13))] [(1, (.cells [(so []), .nils]))] ?_
        refine CG.retL (v' := (.tuple [(.agg [(so []), (.d (.list []))]), (.d (.list [])), (io 13)])) (by kernel_rfl) ?_
        rotate_left
        rw [hinv, frm_short hn]; rfl
      · obtain ⟨m, hm0⟩ : ∃ m, m + y.dims.length = xd.length := ⟨xd.length - y.dims.length, by omega⟩
        rw [show Int.ofNat xd.length - Int.ofNat y.dims.length = Int.ofNat m from by simp only [Int.ofNat_eq_natCast]; omega]
        rw [frm_cons hm0] at hinv
        have hsp : PC P (gl W) 50 [.agg [.d (.str []), .d (.list (xd.map Lin.enc))], .d (.int .i64 (.ofNat (List.length (List.map Lin.enc y.dims))))]
            (.tuple [.agg [.d (.str []), .d (.list ((xd.take m).map Lin.enc))], .agg [.d (.str []), .d (.list ((xd.drop m).map Lin.enc))], .d (.int .i64 0)]) := by
          have := pc_split hW [] xd y.dims.length hshp (by omega) (by simp) hm1 hx4 hm2
          rw [show xd.length - y.dims.length = m by omega] at this
          rw [List.length_map]; exact this
        refine s1 hW 0 3 [] 2047 [(38, (bo (iLt 0 (Int.ofNat m))))] ?_
        refine spLtN 0 m (fun q42 p42 => ?_) (fun q42 p42 => ?_)
        have q43 : (iLt 0 (Int.ofNat m)) = true := t_lt (by (try simp only [zz] at *) <;> omega)
        rw [q43]
        refine s1 hW 0 6 [] 2047 [(44, (bo (iLt 0 (Int.ofNat (List.length (List.map Lin.enc cur))))))] ?_
        refine spLtN 0 (List.length (List.map Lin.enc cur)) (fun q45 p45 => ?_) (fun q45 p45 => ?_) <;> simp only [zz] at p45
        have q46 : (iLt 0 (Int.ofNat (List.length (List.map Lin.enc cur)))) = true := t_lt (by (try simp only [zz] at *) <;> omega)
        rw [q46]
        refine s1 hW 2 0 [] 1023 [(51, (bo (!iEq (Int.ofNat m) (Int.ofNat (List.length (List.map Lin.enc cur))))))] ?_
        refine spEqN m (List.length (List.map Lin.enc cur)) (fun q48 p48 => ?_) (fun q48 p48 => ?_) <;> simp only [zz] at p48
        refine CG.condF (b := (!iEq (Int.ofNat m) (Int.ofNat (List.length (List.map Lin.enc cur))))) (by rw [q48]; rfl) (by kernel_rfl) ?_
        refine s1 hW 4 3 [] 1023 [(55, (bo (iLt 0 (Int.ofNat m))))] ?_
        rw [q43]
        refine s1 hW 2 0 [] 1023 [(60, (bo (iEq (Int.ofNat (List.length (List.map Lin.enc cur))) 0)))] ?_
        refine CG.condF (show (iEq (Int.ofNat (List.length (List.map Lin.enc cur))) 0) = false from f_eq (by (try simp only [zz] at *) <;> omega)) (by kernel_rfl) ?_
        refine s1 hW 2 4 [] 911 [(76, (.sl 2 (List.length bs * 1) 0 (List.length bs) 1)), (79, (.d (.list [[(.bool (iLt 0 (Int.ofNat m)))]])))] ?_
        refine CG.apE encB bs ((iLt 0 (Int.ofNat m)) :: []) 2 (fun _ => rfl) rfl (by kernel_rfl) (by kernel_rfl) (by (try simp only [zz] at *) <;> omega) ?_
        refine s3 hW 3 2 [] [(1, (.ptr 0 18 0)), (2, (.ptr 1 2 0)), (3, (.sl 2 (List.length (bs ++ [iLt 0 (Int.ofNat m)]) * 1) 0 (List.length (bs ++ [iLt 0 (Int.ofNat m)])) 1)), (4, (io 0)), (13, (lo Ty.enc (Con.gs c))), (14, (no (List.length (List.map Ty.enc (Con.gs c))))), (15, (io (wrapF IntKind.i64 (iAdd (Int.ofNat i) 1))))] ([some (.cells (Con.cells c)), some (.cells [(so []), (lo Lin.enc cur)]), some (rowE encB (bs ++ [iLt 0 (Int.ofNat m)])), some (.cells [(so (Ty.elem { elem := xe, row := [], dims := xd })), (so []), (lo Lin.enc (Ty.dims { elem := xe, row := [], dims := xd }))])]) ?_
        refine CG.endL rfl ?_
        rw [wrapI (by omega)]
        rotate_left
        refine CG.condT (b := (!iEq (Int.ofNat m) (Int.ofNat (List.length (List.map Lin.enc cur))))) (by rw [q48]; rfl) (by kernel_rfl) ?_
        refine s4 hW 3 0 [] 1011 [(3, .nils), (4, (io 13))] [(1, (.cells [(so []), .nils]))] ?_
        refine CG.retL (v' := (.tuple [(.agg [(so []), (.d (.list []))]), (.d (.list [])), (io 13)])) (by kernel_rfl) ?_
        rotate_left
        have q49 : (iLt 0 (Int.ofNat (List.length (List.map Lin.enc cur)))) = false := f_lt (by (try simp only [zz] at *) <;> omega)
        rw [q49]
        refine s1 hW 7 3 [false] 1023 [(55, (bo (iLt 0 (Int.ofNat m))))] ?_
        rw [q43]
        refine s1 hW 2 0 [] 1023 [(60, (bo (iEq (Int.ofNat (List.length (List.map Lin.enc cur))) 0)))] ?_
        refine CG.condT (show (iEq (Int.ofNat (List.length (List.map Lin.enc cur))) 0) = true from t_eq (by (try simp only [zz] at *) <;> omega)) (by kernel_rfl) ?_
        refine CG.drawW orders (by kernel_rfl) ?_
        refine AW.rk 5 [(62, (.ptr 3 3 1)), (63, (.agg [(so []), (lo Lin.enc (Ty.dims { elem := xe, row := [], dims := xd }))])), (64, (.ptr 0 18 9)), (65, (lo Ty.enc (Con.ws c))), (66, (no i))] [] (by kernel_rfl) ?_
        refine AW.idx (idx_map (enc := Ty.enc) hy) rfl (by kernel_rfl) (by kernel_rfl) (by kernel_rfl) rfl ?_
        refine AW.rk 4 [(68, (.cptr [(.str (Ty.row y)), (.list (List.map Lin.enc (Ty.dims y)))])), (69, (.cptr [(.list (List.map Lin.enc (Ty.dims y)))])), (70, (lo Lin.enc (Ty.dims y))), (71, (no (List.length (List.map Lin.enc (Ty.dims y)))))] [] (by kernel_rfl) ?_
        refine AW.pcG hsp rfl (by kernel_rfl) (by kernel_rfl) ?_
        refine AW.rk 5 [(61, (.tuple [(.agg [(so []), (lo Lin.enc (List.take m xd))]), (.agg [(so []), (lo Lin.enc (List.drop m xd))]), (io 0)])), (73, (.agg [(so []), (lo Lin.enc (List.take m xd))])), (74, (.agg [(so []), (lo Lin.enc (List.drop m xd))])), (75, (io 0))] [(1, (.cells [(so []), (lo Lin.enc (List.take m xd))]))] (by kernel_rfl) ?_
        refine AW.nil rfl ⟨by kernel_rfl, AW.fin (H2 := [some (.cells (Con.cells c)), some (.cells [(so []), (lo Lin.enc (List.take m xd))]), some (rowE encB bs), some (.cells [(so (Ty.elem { elem := xe, row := [], dims := xd })), (so []), (lo Lin.enc (Ty.dims { elem := xe, row := [], dims := xd }))])]) 4 [1, 2, 3, 4, 7, 13, 14, 15] (by kernel_rfl) rfl (by kernel_rfl) (by kernel_rfl) (by simp [nn, heapLt, boxLt_row, boxLt_cell, boxLt_cs, boxLt_nil, refsLtL, refsLt, Con.cells]) ?_⟩
        refine s1 hW 1 4 [] 239 [(76, (.sl 2 (List.length bs * 1) 0 (List.length bs) 1)), (79, (.d (.list [[(.bool (iLt 0 (Int.ofNat m)))]])))] ?_
        refine CG.apE encB bs ((iLt 0 (Int.ofNat m)) :: []) 2 (fun _ => rfl) rfl (by kernel_rfl) (by kernel_rfl) (by (try simp only [zz] at *) <;> omega) ?_
        refine s3 hW 3 2 [] [(1, (.ptr 0 18 0)), (2, (.ptr 1 2 0)), (3, (.sl 2 (List.length (bs ++ [iLt 0 (Int.ofNat m)]) * 1) 0 (List.length (bs ++ [iLt 0 (Int.ofNat m)])) 1)), (4, (io 0)), (13, (lo Ty.enc (Con.gs c))), (14, (no (List.length (List.map Ty.enc (Con.gs c))))), (15, (io (wrapF IntKind.i64 (iAdd (Int.ofNat i) 1))))] ([some (.cells (Con.cells c)), some (.cells [(so []), (lo Lin.enc (List.take m xd))]), some (rowE encB (bs ++ [iLt 0 (Int.ofNat m)])), some (.cells [(so (Ty.elem { elem := xe, row := [], dims := xd })), (so []), (lo Lin.enc (Ty.dims { elem := xe, row := [], dims := xd }))])]) ?_
        refine CG.endL rfl ?_
        rw [wrapI (by omega)]
        rotate_left
        have q50 : (iLt 0 (Int.ofNat m)) = false := f_lt (by (try simp only [zz] at *) <;> omega)
        rw [q50]
        refine s1 hW 7 3 [false] 1023 [(55, (bo (iLt 0 (Int.ofNat m))))] ?_
        rw [q50]
        refine s1 hW 5 4 [false] 911 [(76, (.sl 2 (List.length bs * 1) 0 (List.length bs) 1)), (79, (.d (.list [[(.bool (iLt 0 (Int.ofNat m)))]])))] ?_
        refine CG.apE encB bs ((iLt 0 (Int.ofNat m)) :: []) 2 (fun _ => rfl) rfl (by kernel_rfl) (by kernel_rfl) (by (try simp only [zz] at *) <;> omega) ?_
        refine s3 hW 3 2 [] [(1, (.ptr 0 18 0)), (2, (.ptr 1 2 0)), (3, (.sl 2 (List.length (bs ++ [iLt 0 (Int.ofNat m)]) * 1) 0 (List.length (bs ++ [iLt 0 (Int.ofNat m)])) 1)), (4, (io 0)), (13, (lo Ty.enc (Con.gs c))), (14, (no (List.length (List.map Ty.enc (Con.gs c))))), (15, (io (wrapF IntKind.i64 (iAdd (Int.ofNat i) 1))))] ([some (.cells (Con.cells c)), some (.cells [(so []), (lo Lin.enc cur)]), some (rowE encB (bs ++ [iLt 0 (Int.ofNat m)])), some (.cells [(so (Ty.elem { elem := xe, row := [], dims := xd })), (so []), (lo Lin.enc (Ty.dims { elem := xe, row := [], dims := xd }))])]) ?_
        refine CG.endL rfl ?_
        rw [wrapI (by omega)]
        rotate_left
        all_goals first
          | (rw [hinv, if_pos (by omega)]; rfl)
          | (refine ⟨(_, bs ++ [iLt 0 (Int.ofNat m)]), ⟨?_, by simp [hbs]⟩, Tidy.trim 3 [1, 2, 3, 4, 13, 14, 15] rfl rfl rfl rfl (by simp only [heapLt, boxLt_row]; rfl)⟩
             rw [hinv, if_neg (by omega), if_neg (by omega)])
          | (refine ⟨(_, bs ++ [iLt 0 (Int.ofNat m)]), ⟨?_, by simp [hbs]⟩, Tidy.trim 3 [1, 2, 3, 4, 13, 14, 15] rfl rfl rfl rfl (by simp only [heapLt, boxLt_row]; rfl)⟩
             rw [hinv, if_neg (by omega), if_pos (by omega)])
  · rw [frameF, show knownB c = false by assumption]; rfl
end Fw.Tz.Fg

/-
  Small constraints are small enough.
-/
set_option linter.unusedVariables false
namespace Fw.Tz
open Go Fw.Tz.Va Fw.Tz.Vb Fw.Tz.Vc Fw.Tz.Ve
theorem fewL_sm {x : Lin} (h : fewL x = true) : Lin.sm x ∧ x.ts.length < 1073741824 := by
  simp only [fewL, Bool.and_eq_true, List.all_eq_true, decide_eq_true_eq] at h
  refine ⟨⟨by omega, fun t ht => ?_⟩, by omega⟩
  have := h.1 t ht
  simp only [fewV, decide_eq_true_eq] at this
  omega
theorem fewS_sm {row : List UInt8} {dims : List Lin} (h : fewS row dims = true) : (row.length < 1099511627776 ∧ dims.length < 1099511627776 ∧ ∀ x ∈ dims, Lin.sm x) ∧ dims.length < 1073741824 ∧ ∀ x ∈ dims, x.ts.length < 1073741824 := by
  simp only [fewS, Bool.and_eq_true, List.all_eq_true, decide_eq_true_eq] at h
  exact ⟨⟨by omega, by omega, fun x hx => (fewL_sm (h.1.1 x hx)).1⟩, by omega, fun x hx => (fewL_sm (h.1.1 x hx)).2⟩
theorem fewT_sm {t : Ty} (h : fewT t = true) : Ty.sm t ∧ t.dims.length < 1073741824 ∧ ∀ x ∈ t.dims, x.ts.length < 1073741824 := by
  simp only [fewT, Bool.and_eq_true, decide_eq_true_eq] at h
  have := fewS_sm h.2
  exact ⟨⟨by omega, this.1⟩, this.2⟩
theorem fewC_all {c : Con} (h : fewC c = true) : (∀ t ∈ c.gs, fewT t = true) ∧ (∀ t ∈ c.ws, fewT t = true) ∧ c.gs.length ≤ 17 ∧ c.ws.length ≤ 17 ∧ fewT c.r = true ∧ fewT c.x = true ∧ fewT c.ta = true ∧ fewT c.tb = true ∧ fewL c.lin = true := by
  simp only [fewC, Bool.and_eq_true, decide_eq_true_eq] at h
  obtain ⟨⟨⟨⟨⟨⟨⟨⟨h1, h2⟩, h3⟩, h4⟩, h5⟩, h6⟩, h7⟩, h8⟩, h9⟩ := h
  rw [List.take_of_length_le (by omega)] at h1 h2
  rw [List.all_eq_true] at h1 h2
  simp only [fewS, Bool.and_eq_true, List.all_cons, List.all_nil] at h9
  exact ⟨h1, h2, h3, h4, h5, h6, h7, h8, h9.1.1.1⟩
theorem fewC_sm {c : Con} (h : fewC c = true) : Con.sm c ∧ (∀ t ∈ c.gs, t.dims.length < 1073741824 ∧ ∀ x ∈ t.dims, x.ts.length < 1073741824) ∧ (∀ t ∈ c.ws, t.dims.length < 1073741824 ∧ ∀ x ∈ t.dims, x.ts.length < 1073741824) := by
  obtain ⟨h1, h2, h3, h4, h5, h6, h7, h8, h9⟩ := fewC_all h
  exact ⟨⟨by omega, by omega, (fewT_sm h7).1, (fewT_sm h8).1, fun t ht => (fewT_sm (h1 t ht)).1, fun t ht => (fewT_sm (h2 t ht)).1, (fewT_sm h5).1, (fewT_sm h6).1⟩, fun t ht => (fewT_sm (h1 t ht)).2, fun t ht => (fewT_sm (h2 t ht)).2⟩
end Fw.Tz

/-
  Pairs of an application, whether it holds, and its only frame: the plain law.
-/
namespace Fw.Tz.Pp
open Go Fw.Tz.Va Fw.Tz.Vb Fw.Tz.Vc Fw.Tz.Fg Fw.Tz.Eq
def liftB (row : List UInt8) (dims : List Lin) (t : Ty) (b : Bool) : Option Ty := bif b then (bif decide (dims.length + t.dims.length ≤ 6) then some ⟨t.elem, row, dims ++ t.dims⟩ else none) else some t
def prs (row : List UInt8) (dims : List Lin) : List (Ty × Ty) → List Ty → List Ty → List Bool → Option (List (Ty × Ty))
  | acc, g :: gs, w :: ws, b :: bs => match liftB row dims w b with
    | none => none
    | some t => prs row dims (acc ++ [(g, t)]) gs ws bs
  | acc, _, _, _ => some acc
def badP (c : Con) (row : List UInt8) (dims : List Lin) (bs : List Bool) : Bool := !conB c || !shpB row dims || !decide (bs.length = c.gs.length) || (!bs.any id && !shEq row dims [] [])
def pairsO (c : Con) (row : List UInt8) (dims : List Lin) (bs : List Bool) : Option (List (Ty × Ty)) := prs row dims [] (c.gs ++ [c.r]) (c.ws ++ [c.x]) (bs ++ [bs.any id])
def eqP (p : Ty × Ty) : Bool := tyEq p.1 p.2
def holdsB (c : Con) (row : List UInt8) (dims : List Lin) (bs : List Bool) : Bool := !badP c row dims bs && match pairsO c row dims bs with
  | none => false
  | some l => l.all eqP
def fits (row : List UInt8) (dims : List Lin) : List Ty → List Ty → List Bool → Prop
  | g :: gs, w :: ws, b :: bs => liftB row dims w b = some g ∧ fits row dims gs ws bs
  | _, _, _ => True
theorem prs_all (row : List UInt8) (dims : List Lin) : ∀ (gs ws : List Ty) (bs : List Bool) (acc : List (Ty × Ty)), (match prs row dims acc gs ws bs with | none => false | some l => l.all eqP) = true ↔ acc.all eqP = true ∧ fits row dims gs ws bs
  | [], _, _, acc => by simp [prs, fits]
  | _ :: _, [], _, acc => by simp [prs, fits]
  | _ :: _, _ :: _, [], acc => by simp [prs, fits]
  | g :: gs, w :: ws, b :: bs, acc => by
    rw [prs, fits]
    cases hl : liftB row dims w b with
    | none => simp
    | some t =>
      have ih := prs_all row dims gs ws bs (acc ++ [(g, t)])
      simp only
      rw [ih, List.all_append, Bool.and_eq_true]
      simp only [List.all_cons, List.all_nil, Bool.and_true, eqP, tyEq_iff, Option.some.injEq, and_assoc]
      constructor
      · rintro ⟨h1, h2, h3⟩; exact ⟨h1, h2.symm, h3⟩
      · rintro ⟨h1, h2, h3⟩; exact ⟨h1, h2.symm, h3⟩
theorem fits_snoc (row : List UInt8) (dims : List Lin) (r x : Ty) (s : Bool) : ∀ (gs ws : List Ty) (bs : List Bool), gs.length = ws.length → bs.length = gs.length → (fits row dims (gs ++ [r]) (ws ++ [x]) (bs ++ [s]) ↔ fits row dims gs ws bs ∧ liftB row dims x s = some r)
  | [], [], [], _, _ => by simp [fits]
  | g :: gs, w :: ws, b :: bs, h1, h2 => by
    simp only [List.cons_append, fits]
    rw [fits_snoc row dims r x s gs ws bs (by simpa using h1) (by simpa using h2), and_assoc]
theorem holdsB_iff {c : Con} {row : List UInt8} {dims : List Lin} {bs : List Bool} (hc : conB c = true) : holdsB c row dims bs = true ↔ shpB row dims = true ∧ bs.length = c.gs.length ∧ (bs.any id = false → row = [] ∧ dims = []) ∧ fits row dims c.gs c.ws bs ∧ liftB row dims c.x (bs.any id) = some c.r := by
  have hl : c.gs.length = c.ws.length := by
    simp only [conB, Bool.and_eq_true, decide_eq_true_eq] at hc
    exact hc.1.1.1.1.1.1.2
  have e1 : badP c row dims bs = false ↔ shpB row dims = true ∧ bs.length = c.gs.length ∧ (bs.any id = false → row = [] ∧ dims = []) := by
    have h0 : (shEq row dims [] [] = true) = (row = [] ∧ dims = []) := propext (shEq_iff row dims [] [])
    rw [badP, hc]
    cases h1 : shpB row dims <;> cases h2 : bs.any id <;> simp [h0, ← Bool.not_eq_true]
  rw [holdsB, Bool.and_eq_true, Bool.not_eq_true', e1, pairsO]
  constructor
  · rintro ⟨⟨h1, h2, h3⟩, h4⟩
    rw [prs_all] at h4
    have := (fits_snoc row dims c.r c.x (bs.any id) c.gs c.ws bs hl h2).1 h4.2
    exact ⟨h1, h2, h3, this.1, this.2⟩
  · rintro ⟨h1, h2, h3, h4, h5⟩
    refine ⟨⟨h1, h2, h3⟩, ?_⟩
    rw [prs_all]
    exact ⟨rfl, (fits_snoc row dims c.r c.x (bs.any id) c.gs c.ws bs hl h2).2 ⟨h4, h5⟩⟩
theorem lift_some {row : List UInt8} {dims : List Lin} {w g : Ty} {b : Bool} (h : liftB row dims w b = some g) : (b = true ∧ dims.length + w.dims.length ≤ 6 ∧ g = ⟨w.elem, row, dims ++ w.dims⟩) ∨ (b = false ∧ g = w) := by
  cases b with
  | false => exact .inr ⟨rfl, by simpa [liftB] using h.symm⟩
  | true =>
    by_cases h6 : dims.length + w.dims.length ≤ 6
    · simp only [liftB, cond_true, decide_eq_true h6, Option.some.injEq] at h
      exact .inl ⟨rfl, h6, h.symm⟩
    · simp only [liftB, cond_true, decide_eq_false h6, cond_false] at h
      cases h
theorem known_ws {c : Con} (h : knownB c = true) : (∀ w ∈ c.ws, w.row = []) ∧ c.x.row = [] ∧ conB c = true := by
  have h0 := h
  simp only [knownB, conB, Bool.and_eq_true, decide_eq_true_eq, Bool.not_eq_true', List.any_eq_false] at h
  obtain ⟨⟨⟨⟨⟨⟨⟨⟨_, h1⟩, h2⟩, _⟩, _⟩, h6⟩, h3⟩, h5⟩, h4⟩ := h
  refine ⟨fun t ht => ?_, by simpa [hasRow, Fw.bytesEq_iff] using h6, ?_⟩
  · have := h5 t ht
    simp only [badW, Bool.or_eq_true, not_or, Bool.not_eq_true] at this
    simpa [hasRow, Fw.bytesEq_iff] using this.2
  · rw [knownB, Bool.and_eq_true] at h0; exact h0.1
end Fw.Tz.Pp

/-
  Concatenated shapes and lifted cells, of the program.
-/
namespace Fw.Tz.Pa
open Go Go.Proofs Fw.X Fw.Tz Fw.Nu Fw.Tz.Sd Fw.Tz.Na Fw.Tz.El Fw.Tz.Va Fw.Tz.Vb Fw.Tz.Vc Fw.Tz.Vh Fw.Tz.Eq Fw.Tz.Ew Fw.Tz.Fg Fw.Tz.Pp
variable {W : World}
def outS (row : List UInt8) (dims : List Lin) (e : Int) : V := .tuple [vS row dims, .d (.int .i64 e)]
theorem pc_catL (hW : W0 W) (a b : List Lin) (ha : a.length < 1048576) (hb : b.length < 1048576) : PC P (gl W) 176 [.d (.list [[.list (a.map Lin.enc)], [.list (b.map Lin.enc)]])] (.d (.list ((a ++ b).map Lin.enc))) := by
  refine CG.start is176 ca176 rfl ?_
  refine s1 hW 30 0 [true] 1 [(2, .nils), (3, (io (wrapF IntKind.i64 (iAdd 0 (Int.ofNat (List.length (List.map Lin.enc a))))))), (9, (.d (.list [[(.list (List.map Lin.enc a))], [(.list (List.map Lin.enc b))]]))), (10, (io 2)), (11, (io 0)), (20, (bo (iLt (wrapF IntKind.i64 (iAdd 0 (Int.ofNat (List.length (List.map Lin.enc a))))) 0)))] ?_
  rw [show wrapF .i64 (iAdd 0 (Int.ofNat (List.length (List.map Lin.enc a)))) = Int.ofNat a.length from by rw [wrapF_eq, iAdd_eq, IntKind.wrap_i64, List.length_map]; simp only [Int.ofNat_eq_natCast]; omega]
  refine s1 hW 24 0 [false, true] 27 [(3, (io (wrapF IntKind.i64 (iAdd (Int.ofNat (List.length a)) (Int.ofNat (List.length (List.map Lin.enc b))))))), (11, (io 1)), (20, (bo (iLt (wrapF IntKind.i64 (iAdd (Int.ofNat (List.length a)) (Int.ofNat (List.length (List.map Lin.enc b))))) 0)))] ?_
  rw [show wrapF .i64 (iAdd (Int.ofNat a.length) (Int.ofNat (List.length (List.map Lin.enc b)))) = Int.ofNat (a.length + b.length) from by rw [wrapF_eq, iAdd_eq, IntKind.wrap_i64, List.length_map]; simp only [Int.ofNat_eq_natCast]; omega]
  refine s1 hW 17 1 [false, false] 3 [(23, (no (List.length a + List.length b)))] ?_
  rotate_left
  refine CG.wfR (w248 (a.length + b.length) (by omega)) rfl rfl (by kernel_rfl) rfl ?_
  rintro v H' ⟨rfl, rfl⟩
  by_cases h0 : a.length + b.length = 0
  · rw [row248, if_pos h0, heap248, if_pos h0]
    obtain rfl := List.length_eq_zero_iff.1 (show a.length = 0 by omega)
    obtain rfl := List.length_eq_zero_iff.1 (show b.length = 0 by omega)
    refine CG.tidyO (Tidy.nilS 24 2 (tm' := [(0, (.d (.list [[(.list [])], [(.list [])]]))), (2, .nils), (23, (io 0)), (24, .sl 0 0 0 0 2)]) (Nat.le_refl _) (by kernel_rfl) (by kernel_rfl)) ?_
    refine CG.isH ([some .nil]) (by kernel_rfl) ?_
    refine CG.is [(0, (.d (.list [[(.list [])], [(.list [])]]))), (2, .nils), (23, (io 0)), (24, .sl 0 (List.length ([] : List Lin) * 2) 0 (List.length ([] : List Lin)) 2)] ([some (rowE Lin.enc ([] : List Lin))]) (by kernel_rfl) ?_
    refine s1 hW 55 0 [true, true, false] 0 [(2, (.sl 0 0 0 0 2))] ?_
    refine CG.ret (v' := (.d (.list []))) (by kernel_rfl) ?_
    rfl
  · rw [row248, if_neg h0, heap248, if_neg h0]
    refine CG.is [(0, (.d (.list [[(.list (List.map Lin.enc a))], [(.list (List.map Lin.enc b))]]))), (2, .nils), (23, (no (List.length a + List.length b))), (24, .sl 1 (List.length ([] : List Lin) * 2) 0 (List.length ([] : List Lin)) 2)] ([none, some (cellE Lin.enc ([] : List Lin))]) (by kernel_rfl) ?_
    refine s1 hW 20 2 [true] 2 [(6, (.sl 1 0 0 0 2)), (25, (.d (.list [[(.list (List.map Lin.enc a))], [(.list (List.map Lin.enc b))]]))), (26, (io 2)), (27, (io 0)), (31, (.sl 1 0 0 0 2)), (32, (lo Lin.enc a))] ?_
    refine CG.apC Lin.enc [] a 1 (fun _ => rfl) rfl (by kernel_rfl) (sliceC_map (enc := Lin.enc) (fun _ => rfl) _ a) (by (try simp only [zz] at *) <;> omega) ?_
    refine s1 hW 17 2 [true] 13 [(6, (.sl 1 (List.length ([] ++ a) * 2) 0 (List.length ([] ++ a)) 2)), (27, (io 1)), (31, (.sl 1 (List.length ([] ++ a) * 2) 0 (List.length ([] ++ a)) 2)), (32, (lo Lin.enc b))] ?_
    refine CG.apC Lin.enc ([] ++ a) b 1 (fun _ => rfl) rfl (by kernel_rfl) (sliceC_map (enc := Lin.enc) (fun _ => rfl) _ b) (by (try simp only [zz] at *) <;> omega) ?_
    refine s1 hW 18 0 [false] 0 [(2, (.sl 1 (List.length ([] ++ a ++ b) * 2) 0 (List.length ([] ++ a ++ b)) 2))] ?_
    rotate_left
    refine CG.tidy (Tidy.frzC (sz := 2) Lin.enc ([] ++ a ++ b) 1 2 (tm' := [(2, (.d (.list (List.map Lin.enc ([] ++ a ++ b)))))]) (H' := [none, none]) (fun _ => rfl) (by kernel_rfl) (by kernel_rfl) ⟨.inr trivial, ⟨.inl rfl, trivial⟩⟩ (by kernel_rfl) (by kernel_rfl)) ?_
    refine CG.ret (v' := (lo Lin.enc ([] ++ a ++ b))) (by kernel_rfl) ?_
    rfl
theorem pc_catT (hW : W0 W) (a b : List Ty) (ha : a.length < 1048576) (hb : b.length < 1048576) : PC P (gl W) 60 [.d (.list [[.list (a.map Ty.enc)], [.list (b.map Ty.enc)]])] (.d (.list ((a ++ b).map Ty.enc))) := by
  refine CG.start is60 ca60 rfl ?_
  refine s1 hW 30 0 [true] 1 [(2, .nils), (3, (io (wrapF IntKind.i64 (iAdd 0 (Int.ofNat (List.length (List.map Ty.enc a))))))), (9, (.d (.list [[(.list (List.map Ty.enc a))], [(.list (List.map Ty.enc b))]]))), (10, (io 2)), (11, (io 0)), (20, (bo (iLt (wrapF IntKind.i64 (iAdd 0 (Int.ofNat (List.length (List.map Ty.enc a))))) 0)))] ?_
  rw [show wrapF .i64 (iAdd 0 (Int.ofNat (List.length (List.map Ty.enc a)))) = Int.ofNat a.length from by rw [wrapF_eq, iAdd_eq, IntKind.wrap_i64, List.length_map]; simp only [Int.ofNat_eq_natCast]; omega]
  refine s1 hW 24 0 [false, true] 27 [(3, (io (wrapF IntKind.i64 (iAdd (Int.ofNat (List.length a)) (Int.ofNat (List.length (List.map Ty.enc b))))))), (11, (io 1)), (20, (bo (iLt (wrapF IntKind.i64 (iAdd (Int.ofNat (List.length a)) (Int.ofNat (List.length (List.map Ty.enc b))))) 0)))] ?_
  rw [show wrapF .i64 (iAdd (Int.ofNat a.length) (Int.ofNat (List.length (List.map Ty.enc b)))) = Int.ofNat (a.length + b.length) from by rw [wrapF_eq, iAdd_eq, IntKind.wrap_i64, List.length_map]; simp only [Int.ofNat_eq_natCast]; omega]
  refine s1 hW 17 1 [false, false] 3 [(23, (no (List.length a + List.length b)))] ?_
  rotate_left
  refine CG.wfR (w118 (a.length + b.length) (by omega)) rfl rfl (by kernel_rfl) rfl ?_
  rintro v H' ⟨rfl, rfl⟩
  by_cases h0 : a.length + b.length = 0
  · rw [row118, if_pos h0, heap118, if_pos h0]
    obtain rfl := List.length_eq_zero_iff.1 (show a.length = 0 by omega)
    obtain rfl := List.length_eq_zero_iff.1 (show b.length = 0 by omega)
    refine CG.tidyO (Tidy.nilS 24 3 (tm' := [(0, (.d (.list [[(.list [])], [(.list [])]]))), (2, .nils), (23, (io 0)), (24, .sl 0 0 0 0 3)]) (Nat.le_refl _) (by kernel_rfl) (by kernel_rfl)) ?_
    refine CG.isH ([some .nil]) (by kernel_rfl) ?_
    refine CG.is [(0, (.d (.list [[(.list [])], [(.list [])]]))), (2, .nils), (23, (io 0)), (24, .sl 0 (List.length ([] : List Ty) * 3) 0 (List.length ([] : List Ty)) 3)] ([some (rowE Ty.enc ([] : List Ty))]) (by kernel_rfl) ?_
    refine s1 hW 55 0 [true, true, false] 0 [(2, (.sl 0 0 0 0 3))] ?_
    refine CG.ret (v' := (.d (.list []))) (by kernel_rfl) ?_
    rfl
  · rw [row118, if_neg h0, heap118, if_neg h0]
    refine CG.is [(0, (.d (.list [[(.list (List.map Ty.enc a))], [(.list (List.map Ty.enc b))]]))), (2, .nils), (23, (no (List.length a + List.length b))), (24, .sl 1 (List.length ([] : List Ty) * 3) 0 (List.length ([] : List Ty)) 3)] ([none, some (cellE Ty.enc ([] : List Ty))]) (by kernel_rfl) ?_
    refine s1 hW 20 2 [true] 2 [(6, (.sl 1 0 0 0 3)), (25, (.d (.list [[(.list (List.map Ty.enc a))], [(.list (List.map Ty.enc b))]]))), (26, (io 2)), (27, (io 0)), (31, (.sl 1 0 0 0 3)), (32, (lo Ty.enc a))] ?_
    refine CG.apC Ty.enc [] a 1 (fun _ => rfl) rfl (by kernel_rfl) (sliceC_map (enc := Ty.enc) (fun _ => rfl) _ a) (by (try simp only [zz] at *) <;> omega) ?_
    refine s1 hW 17 2 [true] 13 [(6, (.sl 1 (List.length ([] ++ a) * 3) 0 (List.length ([] ++ a)) 3)), (27, (io 1)), (31, (.sl 1 (List.length ([] ++ a) * 3) 0 (List.length ([] ++ a)) 3)), (32, (lo Ty.enc b))] ?_
    refine CG.apC Ty.enc ([] ++ a) b 1 (fun _ => rfl) rfl (by kernel_rfl) (sliceC_map (enc := Ty.enc) (fun _ => rfl) _ b) (by (try simp only [zz] at *) <;> omega) ?_
    refine s1 hW 18 0 [false] 0 [(2, (.sl 1 (List.length ([] ++ a ++ b) * 3) 0 (List.length ([] ++ a ++ b)) 3))] ?_
    rotate_left
    refine CG.tidy (Tidy.frzC (sz := 3) Ty.enc ([] ++ a ++ b) 1 2 (tm' := [(2, (.d (.list (List.map Ty.enc ([] ++ a ++ b)))))]) (H' := [none, none]) (fun _ => rfl) (by kernel_rfl) (by kernel_rfl) ⟨.inr trivial, ⟨.inl rfl, trivial⟩⟩ (by kernel_rfl) (by kernel_rfl)) ?_
    refine CG.ret (v' := (lo Ty.enc ([] ++ a ++ b))) (by kernel_rfl) ?_
    rfl
end Fw.Tz.Pa

/-
  Concatenated shapes and lifted cells.
-/
namespace Fw.Tz.Pc
open Go Go.Proofs Fw.X Fw.Tz Fw.Nu Fw.Tz.Sd Fw.Tz.Na Fw.Tz.El Fw.Tz.Va Fw.Tz.Vb Fw.Tz.Vc Fw.Tz.Vh Fw.Tz.Eq Fw.Tz.Ew Fw.Tz.Fg Fw.Tz.Pp Fw.Tz.Pa
variable {W : World}
theorem pc_made (hW : W0 W) (row : List UInt8) (dims : List Lin) (hl : dims.length ≤ 6) (hd : ∀ x ∈ dims, x.ts.length < 1073741824) : PC P (gl W) 175 [.d (.str row), .d (.list (dims.map Lin.enc))] (outS row dims 0) := by
  refine CG.start is175 ca175 rfl ?_
  have hl2 : dims.length < 1073741824 := by omega
  refine s4 hW 7 0 [] 3 [(4, (.ptr 0 2 0)), (5, (io 0)), (8, (bo (iLt 6 (Int.ofNat (List.length (List.map Lin.enc dims))))))] [(0, (.cells [(so []), .nils]))] ?_
  refine CG.condF (show (iLt 6 (Int.ofNat (List.length (List.map Lin.enc dims)))) = false from f_lt (by (try simp only [zz] at *) <;> omega)) (by kernel_rfl) ?_
  refine s1 hW 3 2 [] 12 [(10, (so row)), (11, (lo Lin.enc dims))] ?_
  refine CG.pg (pc_clones hW _ hl2 hd) rfl (by kernel_rfl) ?_
  refine s4 hW 2 0 [] 3 [] [(0, (.cells [(so row), (lo Lin.enc dims)]))] ?_
  refine CG.ret (v' := (.tuple [(.agg [(so row), (lo Lin.enc dims)]), (io 0)])) (by kernel_rfl) ?_
  rfl
theorem pc_madeL (hW : W0 W) (row : List UInt8) (dims : List Lin) (hl : 6 < dims.length) (hl2 : dims.length < 1073741824) : PC P (gl W) 175 [.d (.str row), .d (.list (dims.map Lin.enc))] (outS [] [] 3) := by
  refine CG.start is175 ca175 rfl ?_
  refine s4 hW 7 0 [] 3 [(4, (.ptr 0 2 0)), (5, (io 0)), (8, (bo (iLt 6 (Int.ofNat (List.length (List.map Lin.enc dims))))))] [(0, (.cells [(so []), .nils]))] ?_
  refine CG.condT (show (iLt 6 (Int.ofNat (List.length (List.map Lin.enc dims)))) = true from t_lt (by (try simp only [zz] at *) <;> omega)) (by kernel_rfl) ?_
  refine s1 hW 3 0 [] 7 [(5, (io 3))] ?_
  refine CG.ret (v' := (.tuple [(.agg [(so []), (.d (.list []))]), (io 3)])) (by kernel_rfl) ?_
  rfl
def okD (l : List Lin) : Prop := l.length < 1048576 ∧ ∀ x ∈ l, Lin.sm x ∧ x.ts.length < 1073741824
theorem pc_cat (hW : W0 W) (r1 : List UInt8) (d1 d2 : List Lin) (h1 : okD d1) (h2 : okD d2) (hr : r1.length < 1099511627776) (v1 : shpB r1 d1 = true) (v2 : shpB [] d2 = true) (hl : d1.length + d2.length ≤ 6) : PC P (gl W) 119 [vS r1 d1, vS [] d2] (outS r1 (d1 ++ d2) 0) := by
  refine CG.start is119 ca119 rfl ?_
  have k1 := pc_shp hW r1 d1 hr (by have := h1.1; omega) (fun x hx => (h1.2 x hx).1)
  have k2 := pc_shp hW [] d2 (by simp) (by have := h2.1; omega) (fun x hx => (h2.2 x hx).1)
  rw [v1] at k1
  rw [v2] at k2
  have k3 := pc_made hW r1 (d1 ++ d2) (by simp; omega) (fun x hx => by rcases List.mem_append.1 hx with hx | hx; exact (h1.2 x hx).2; exact (h2.2 x hx).2)
  have k4 := pc_catL hW d1 d2 h1.1 h2.1
  unfold outS at k3
  refine s4 hW 6 1 [] 0 [(2, (.ptr 0 2 0)), (3, (.ptr 1 2 0)), (4, (.ptr 2 2 0)), (5, (io 0)), (7, (.agg [(so r1), (lo Lin.enc d1)]))] [(0, (.cells [(so r1), (lo Lin.enc d1)])), (1, (.cells [(so []), (lo Lin.enc d2)])), (2, (.cells [(so []), .nils]))] ?_
  refine CG.pg (k1) rfl (by kernel_rfl) ?_
  refine s1 hW 0 3 [] 15 [(10, (bo false)), (11, (.agg [(so []), (lo Lin.enc d2)]))] ?_
  refine CG.pg (k2) rfl (by kernel_rfl) ?_
  refine s1 hW 11 0 [false, false] 15 [] ?_
  refine dg hW [] [(7, (lo Lin.enc (d1 ++ d2))), (8, (.tuple [(.agg [(so r1), (lo Lin.enc (d1 ++ d2))]), (io 0)]))] (tm' := [(4, (.ptr 2 2 0)), (5, (io 0))]) (H' := [some (.cells [(so r1), (lo Lin.enc d1)]), some (.cells [(so []), (lo Lin.enc d2)]), some (.cells [(so r1), (lo Lin.enc (d1 ++ d2))])] ++ nn 13 ([])) (cs := []) (calls := [(176, [(.d (.list [[(.list (List.map Lin.enc d1))], [(.list (List.map Lin.enc d2))]]))], (lo Lin.enc (d1 ++ d2))), (175, [(so r1), (lo Lin.enc (d1 ++ d2))], (.tuple [(.agg [(so r1), (lo Lin.enc (d1 ++ d2))]), (io 0)]))]) (by kernel_rfl) trivial ⟨k4, ⟨k3, trivial⟩⟩ ?_
  refine s1 hW 1 0 [] 3 [] ?_
  refine CG.ret (v' := (.tuple [(.agg [(so r1), (lo Lin.enc (d1 ++ d2))]), (io 0)])) (by kernel_rfl) ?_
  rfl
theorem pc_catX (hW : W0 W) (r1 : List UInt8) (d1 d2 : List Lin) (h1 : okD d1) (h2 : okD d2) (hr : r1.length < 1099511627776) (v1 : shpB r1 d1 = true) (v2 : shpB [] d2 = true) (hl : 6 < d1.length + d2.length) : PC P (gl W) 119 [vS r1 d1, vS [] d2] (outS [] [] 3) := by
  refine CG.start is119 ca119 rfl ?_
  have k1 := pc_shp hW r1 d1 hr (by have := h1.1; omega) (fun x hx => (h1.2 x hx).1)
  have k2 := pc_shp hW [] d2 (by simp) (by have := h2.1; omega) (fun x hx => (h2.2 x hx).1)
  rw [v1] at k1
  rw [v2] at k2
  have e1 := h1.1
  have e2 := h2.1
  have k3 := pc_madeL hW r1 (d1 ++ d2) (by simp; omega) (by simp; omega)
  have k4 := pc_catL hW d1 d2 h1.1 h2.1
  unfold outS at k3
  refine s4 hW 6 1 [] 0 [(2, (.ptr 0 2 0)), (3, (.ptr 1 2 0)), (4, (.ptr 2 2 0)), (5, (io 0)), (7, (.agg [(so r1), (lo Lin.enc d1)]))] [(0, (.cells [(so r1), (lo Lin.enc d1)])), (1, (.cells [(so []), (lo Lin.enc d2)])), (2, (.cells [(so []), .nils]))] ?_
  refine CG.pg (k1) rfl (by kernel_rfl) ?_
  refine s1 hW 0 3 [] 15 [(10, (bo false)), (11, (.agg [(so []), (lo Lin.enc d2)]))] ?_
  refine CG.pg (k2) rfl (by kernel_rfl) ?_
  refine s1 hW 11 0 [false, false] 15 [] ?_
  refine dg hW [] [(7, (lo Lin.enc (d1 ++ d2))), (8, (.tuple [(.agg [(so []), (.d (.list []))]), (io 3)]))] (tm' := [(4, (.ptr 2 2 0)), (5, (io 3))]) (H' := [some (.cells [(so r1), (lo Lin.enc d1)]), some (.cells [(so []), (lo Lin.enc d2)]), some (.cells [(so []), (.d (.list []))])] ++ nn 13 ([])) (cs := []) (calls := [(176, [(.d (.list [[(.list (List.map Lin.enc d1))], [(.list (List.map Lin.enc d2))]]))], (lo Lin.enc (d1 ++ d2))), (175, [(so r1), (lo Lin.enc (d1 ++ d2))], (.tuple [(.agg [(so []), (.d (.list []))]), (io 3)]))]) (by kernel_rfl) trivial ⟨k4, ⟨k3, trivial⟩⟩ ?_
  refine s1 hW 1 0 [] 3 [] ?_
  refine CG.ret (v' := (.tuple [(.agg [(so []), (.d (.list []))]), (io 3)])) (by kernel_rfl) ?_
  rfl
def outT (t : Ty) (e : Int) : V := .tuple [vT t, .d (.int .i64 e)]
theorem pc_lift (hW : W0 W) (row : List UInt8) (dims : List Lin) (t : Ty) (h1 : okD dims) (h2 : okD t.dims) (hr : row.length < 1099511627776) (v1 : shpB row dims = true) (v2 : shpB [] t.dims = true) (hw : t.row = []) (hl : dims.length + t.dims.length ≤ 6) : PC P (gl W) 61 [vS row dims, vT t] (outT ⟨t.elem, row, dims ++ t.dims⟩ 0) := by
  refine CG.start is61 ca61 rfl ?_
  have k := pc_cat hW row dims t.dims h1 h2 hr v1 v2 hl
  unfold outS at k
  obtain ⟨te, tr, td⟩ := t
  simp only at hw
  subst hw
  refine s4 hW 4 3 [] 0 [(3, (.ptr 1 3 0)), (4, (.ptr 2 3 0)), (5, (io 0)), (9, (.agg [(so row), (lo Lin.enc dims)])), (11, (.agg [(so []), (lo Lin.enc (Ty.dims { elem := te, row := [], dims := td }))]))] [(0, (.cells [(so row), (lo Lin.enc dims)])), (1, (.cells [(so (Ty.elem { elem := te, row := [], dims := td })), (so []), (lo Lin.enc (Ty.dims { elem := te, row := [], dims := td }))])), (2, (.cells [(so []), (so []), .nils]))] ?_
  refine CG.pg (k) rfl (by kernel_rfl) ?_
  refine s4 hW 5 0 [] 6 [] [(2, (.cells [(so (Ty.elem { elem := te, row := [], dims := td })), (so row), (lo Lin.enc (dims ++ Ty.dims { elem := te, row := [], dims := td }))])), (3, (.cells [(so row), (lo Lin.enc (dims ++ Ty.dims { elem := te, row := [], dims := td }))]))] ?_
  refine CG.ret (v' := (.tuple [(.agg [(so (Ty.elem { elem := te, row := [], dims := td })), (so row), (lo Lin.enc (dims ++ Ty.dims { elem := te, row := [], dims := td }))]), (io 0)])) (by kernel_rfl) ?_
  rfl
theorem pc_liftX (hW : W0 W) (row : List UInt8) (dims : List Lin) (t : Ty) (h1 : okD dims) (h2 : okD t.dims) (hr : row.length < 1099511627776) (v1 : shpB row dims = true) (v2 : shpB [] t.dims = true) (hw : t.row = []) (hl : 6 < dims.length + t.dims.length) : PC P (gl W) 61 [vS row dims, vT t] (outT ⟨t.elem, [], []⟩ 3) := by
  refine CG.start is61 ca61 rfl ?_
  have k := pc_catX hW row dims t.dims h1 h2 hr v1 v2 hl
  unfold outS at k
  obtain ⟨te, tr, td⟩ := t
  simp only at hw
  subst hw
  refine s4 hW 4 3 [] 0 [(3, (.ptr 1 3 0)), (4, (.ptr 2 3 0)), (5, (io 0)), (9, (.agg [(so row), (lo Lin.enc dims)])), (11, (.agg [(so []), (lo Lin.enc (Ty.dims { elem := te, row := [], dims := td }))]))] [(0, (.cells [(so row), (lo Lin.enc dims)])), (1, (.cells [(so (Ty.elem { elem := te, row := [], dims := td })), (so []), (lo Lin.enc (Ty.dims { elem := te, row := [], dims := td }))])), (2, (.cells [(so []), (so []), .nils]))] ?_
  refine CG.pg (k) rfl (by kernel_rfl) ?_
  refine s4 hW 5 0 [] 2 [(5, (io 3))] [(2, (.cells [(so (Ty.elem { elem := te, row := [], dims := td })), (so []), (.d (.list []))])), (3, (.cells [(so []), (.d (.list []))]))] ?_
  refine CG.ret (v' := (.tuple [(.agg [(so (Ty.elem { elem := te, row := [], dims := td })), (so []), (.d (.list []))]), (io 3)])) (by kernel_rfl) ?_
  rfl
end Fw.Tz.Pc

/-
  Pairs of an application.
-/
namespace Fw.Tz.Pb
open Go Go.Proofs Fw.X Fw.Tz Fw.Nu Fw.Tz.Sd Fw.Tz.Na Fw.Tz.El Fw.Tz.Va Fw.Tz.Vb Fw.Tz.Vc Fw.Tz.Vd Fw.Tz.Vf Fw.Tz.Vh Fw.Tz.Eq Fw.Tz.Ew Fw.Tz.Fg Fw.Tz.Pp Fw.Tz.Pa Fw.Tz.Pc
variable {W : World}
def encP (p : Ty × Ty) : List D := Ty.enc p.1 ++ Ty.enc p.2
def outP (l : List (Ty × Ty)) (e : Int) : V := .tuple [.d (.list (l.map encP)), .d (.int .i64 e)]
def prV : Option (List (Ty × Ty)) → V
  | none => outP [] 3
  | some l => outP l 0
def pairsV (c : Con) (row : List UInt8) (dims : List Lin) (bs : List Bool) : V := bif badP c row dims bs then outP [] 1 else prV (pairsO c row dims bs)
theorem shEq_nil (row : List UInt8) (dims : List Lin) : shEq row dims [] [] = (bytesEq row [] && decide (dims.length = 0)) := by
  cases dims with
  | nil => rfl
  | cons a l => simp [shEq, lEq]
theorem pc_idxB (hW : W0 W) (l : List Bool) (hl : l.length < 1099511627776) : PC P (gl W) 114 [.d (.list (l.map encB)), .d (.bool true)] (fiV (l.findIdx? id)) := by
  refine CG.start is114 ca114 rfl ?_
  refine s1 hW 8 0 [] 3 [(4, (io 0)), (7, (no (List.length (List.map encB l)))), (8, (io 0))] ?_
  rotate_left
  refine CG.loopL l (fun i u => [(0, (lo encB l)), (1, (bo true)), (4, (io 0)), (7, (no (List.length (List.map encB l)))), (8, .d (.int .i64 (.ofNat i)))]) (fun i u => []) (fun i u r => (fiV (l.findIdx? id) = fiV ((r.findIdx? id).map (· + i)))) () ?_ (Tidy.refl _ _) ?_ ?_
  · cases l.findIdx? id <;> rfl
  · intro i u hi hdr hinv
    refine s1 hW 4 0 [] 23 [(9, (bo (iLt (Int.ofNat i) (Int.ofNat (List.length (List.map encB l))))))] ?_
    refine CG.condF (show (iLt (Int.ofNat i) (Int.ofNat (List.length (List.map encB l)))) = false from f_lt (by (try simp only [zz] at *) <;> omega)) (by kernel_rfl) ?_
    refine CG.exitL (by decide) ?_
    refine s1 hW 5 0 [] 0 [(4, (io (-1)))] ?_
    refine CG.ret (v' := (io (-1))) (by kernel_rfl) ?_
    rotate_left
    rw [hinv]; rfl
  · intro i u y r hdr hy hlt hinv
    rw [List.findIdx?_cons] at hinv
    cases y with
    | true =>
      refine s1 hW 4 0 [] 31 [(9, (bo (iLt (Int.ofNat i) (Int.ofNat (List.length (List.map encB l))))))] ?_
      refine CG.condT (show (iLt (Int.ofNat i) (Int.ofNat (List.length (List.map encB l)))) = true from t_lt (by (try simp only [zz] at *) <;> omega)) (by kernel_rfl) ?_
      refine s1 hW 8 3 [] 31 [(5, (no i)), (11, (bo true)), (12, (lo encB l)), (13, (no i))] ?_
      refine CG.ix (idx_map (enc := encB) hy) rfl (by kernel_rfl) ?_
      refine s1 hW 6 0 [true] 51 [(4, (no i))] ?_
      refine CG.retL (v' := (no i)) (by kernel_rfl) ?_
      rotate_left
      rw [hinv]; simp [fiV]
    | false =>
      refine s1 hW 4 0 [] 31 [(9, (bo (iLt (Int.ofNat i) (Int.ofNat (List.length (List.map encB l))))))] ?_
      refine CG.condT (show (iLt (Int.ofNat i) (Int.ofNat (List.length (List.map encB l)))) = true from t_lt (by (try simp only [zz] at *) <;> omega)) (by kernel_rfl) ?_
      refine s1 hW 8 3 [] 31 [(5, (no i)), (11, (bo true)), (12, (lo encB l)), (13, (no i))] ?_
      refine CG.ix (idx_map (enc := encB) hy) rfl (by kernel_rfl) ?_
      refine s3 hW 6 2 [false] [(0, (lo encB l)), (1, (bo true)), (4, (io 0)), (7, (no (List.length (List.map encB l)))), (8, (io (wrapF IntKind.i64 (iAdd (Int.ofNat i) 1))))] ([]) ?_
      refine CG.endL rfl ?_
      rw [wrapI (by omega)]
      rotate_left
      refine ⟨(), ?_, Tidy.refl _ _⟩
      rw [hinv]
      cases r.findIdx? id with
      | none => rfl
      | some j => simp only [id, Bool.false_eq_true, if_false, Option.map_some, fiV]; rw [show j + 1 + i = j + (i + 1) by omega]
theorem pc_contB (hW : W0 W) (l : List Bool) (hl : l.length < 1099511627776) : PC P (gl W) 58 [.d (.list (l.map encB)), .d (.bool true)] (.d (.bool (l.any id))) := by
  refine CG.start is58 ca58 rfl ?_
  refine s1 hW 4 2 [] 0 [(4, (bo false)), (5, (lo encB l)), (6, (bo true))] ?_
  refine CG.pg (pc_idxB hW _ hl) rfl (by kernel_rfl) ?_
  rotate_left
  have : l.any id = (l.findIdx? id).isSome := by rw [List.findIdx?_isSome]
  rw [this]
  cases l.findIdx? id with
  | none => refine s1 hW 2 0 [] 1 [] ?_
            refine CG.ret (v' := (bo false)) (by kernel_rfl) ?_
            rfl
  | some i => refine s1 hW 2 0 [] 0 [(4, (bo true))] ?_
              refine CG.ret (v' := (bo true)) (by kernel_rfl) ?_
              rfl
end Fw.Tz.Pb

/-
  Pairs, by the program.
-/
namespace Fw.Tz.Pd
open Go Go.Proofs Fw.X Fw.Tz Fw.Nu Fw.Tz.Sd Fw.Tz.Na Fw.Tz.El Fw.Tz.Va Fw.Tz.Vb Fw.Tz.Vc Fw.Tz.Vd Fw.Tz.Vf Fw.Tz.Vh Fw.Tz.Eq Fw.Tz.Ew Fw.Tz.Fg Fw.Tz.Pp Fw.Tz.Pa Fw.Tz.Pb Fw.Tz.Pc
variable {W : World}
structure Okc (c : Con) (row : List UInt8) (dims : List Lin) (bs : List Bool) : Prop where
  sm : Con.sm c
  ws : ∀ t ∈ c.ws, okD t.dims
  x : okD c.x.dims
  row : row.length < 1099511627776
  dims : okD dims
  bs : bs.length < 1099511627776
structure Okp (c : Con) (row : List UInt8) (dims : List Lin) (bs : List Bool) : Prop where
  con : conB c = true
  len : c.gs.length = c.ws.length
  le : c.gs.length ≤ 16
  wrow : ∀ t ∈ c.ws, t.row = []
  wshp : ∀ t ∈ c.ws, shpB [] t.dims = true
  xrow : c.x.row = []
  xshp : shpB [] c.x.dims = true
  shp : shpB row dims = true
  bsl : bs.length = c.gs.length
theorem okp_of {c : Con} {row : List UInt8} {dims : List Lin} {bs : List Bool} (h1 : conB c = true) (h2 : shpB row dims = true) (h3 : bs.length = c.gs.length) : Okp c row dims bs := by
  have h := h1
  simp only [conB, Bool.and_eq_true, decide_eq_true_eq, Bool.not_eq_true', List.any_eq_false] at h
  obtain ⟨⟨⟨⟨⟨⟨⟨_, k1⟩, k2⟩, k3⟩, k4⟩, k5⟩, _⟩, k6⟩ := h
  have e1 : ∀ t ∈ c.ws, t.row = [] := fun t ht => by
    have := k6 t ht
    simp only [badW, Bool.or_eq_true, not_or, Bool.not_eq_true] at this
    simpa [hasRow, Fw.bytesEq_iff] using this.2
  have e2 : c.x.row = [] := by simpa [hasRow, Fw.bytesEq_iff] using k5
  refine ⟨h1, k1, k2, e1, fun t ht => ?_, e2, ?_, h2, h3⟩
  · have := k6 t ht
    simp only [badW, badT, Bool.or_eq_true, not_or, Bool.not_eq_true, Bool.not_eq_false', tyB, Bool.and_eq_true] at this
    have k := this.1.2
    rwa [e1 t ht] at k
  · simp only [tyB, Bool.and_eq_true] at k4
    have k := k4.2
    rwa [e2] at k
theorem drop_snoc {α : Type} {l : List α} {y x : α} {i : Nat} (h : l[i]? = some x) : (l ++ [y]).drop i = x :: (l ++ [y]).drop (i + 1) := by
  obtain ⟨hi, _⟩ := List.getElem?_eq_some_iff.1 h
  exact drop_at (by rw [List.getElem?_append_left hi]; exact h)
theorem pr_loop (hW : W0 W) (c : Con) (row : List UInt8) (dims : List Lin) (bs : List Bool) (hs : Okc c row dims bs) (hp : Okp c row dims bs) : CG P (gl W) (.code (.loop f23.l19)) [.block 0, .seq (.seq (.region f23.r20) .ret)] f23.ntmps
    [(2, lo encB bs), (3, .ptr 0 18 0), (4, .ptr 1 2 0), (6, .nils), (7, io 0), (8, bo (bs.any id)), (9, .nils), (55, lo Ty.enc (c.gs ++ [c.r])), (56, no (List.length (List.map Ty.enc (c.gs ++ [c.r])))), (57, io 0)] [some (.cells (Con.cells c)), some (.cells [so row, lo Lin.enc dims])] (RetQ f23.res (prV (pairsO c row dims bs))) := by
  have hlen := hp.len
  have hle := hp.le
  have hbl := hp.bsl
  have hdl := hs.dims.1
  refine CG.tidy (Tidy.nilS 9 6 (tm' := [(2, (lo encB bs)), (3, (.ptr 0 18 0)), (4, (.ptr 1 2 0)), (6, .nils), (7, (io 0)), (8, (bo (List.any bs id))), (9, .sl 2 0 0 0 6), (55, (lo Ty.enc (Con.gs c ++ [Con.r c]))), (56, (no (List.length (List.map Ty.enc (Con.gs c ++ [Con.r c]))))), (57, (io 0))]) (Nat.le_refl _) (by kernel_rfl) (by kernel_rfl)) ?_
  refine CG.isH ([some (.cells (Con.cells c)), some (.cells [(so row), (lo Lin.enc dims)]), some .nil]) (by kernel_rfl) ?_
  refine CG.is [(2, (lo encB bs)), (3, (.ptr 0 18 0)), (4, (.ptr 1 2 0)), (6, .nils), (7, (io 0)), (8, (bo (List.any bs id))), (9, .sl 2 (List.length ([] : List (Ty × Ty)) * 6) 0 (List.length ([] : List (Ty × Ty))) 6), (55, (lo Ty.enc (Con.gs c ++ [Con.r c]))), (56, (no (List.length (List.map Ty.enc (Con.gs c ++ [Con.r c]))))), (57, (io 0))] ([some (.cells (Con.cells c)), some (.cells [(so row), (lo Lin.enc dims)]), some (rowE encP ([] : List (Ty × Ty)))]) (by kernel_rfl) ?_
  refine CG.loopL (c.gs ++ [c.r]) (fun i a => [(2, (lo encB bs)), (3, (.ptr 0 18 0)), (4, (.ptr 1 2 0)), (6, .nils), (7, (io 0)), (8, (bo (List.any bs id))), (9, .sl 2 (a.length * 6) 0 a.length 6), (55, (lo Ty.enc (Con.gs c ++ [Con.r c]))), (56, (no (List.length (List.map Ty.enc (Con.gs c ++ [Con.r c]))))), (57, .d (.int .i64 (.ofNat i)))]) (fun i a => [some (.cells (Con.cells c)), some (.cells [(so row), (lo Lin.enc dims)]), some (rowE encP a)]) (fun i a r => (pairsO c row dims bs = prs row dims a r ((c.ws ++ [c.x]).drop i) ((bs ++ [bs.any id]).drop i) ∧ a.length = i)) ([] : List (Ty × Ty)) ?_ (Tidy.refl _ _) ?_ ?_
  · exact ⟨rfl, rfl⟩
  · rintro i a hi hd ⟨hinv, ha⟩
    have hR : prV (pairsO c row dims bs) = outP a 0 := by rw [hinv]; simp [prs, prV]
    rw [hR]
    refine s1 hW 4 0 [] 767 [(58, (bo (iLt (Int.ofNat i) (Int.ofNat (List.length (List.map Ty.enc (Con.gs c ++ [Con.r c])))))))] ?_
    refine CG.condF (show (iLt (Int.ofNat i) (Int.ofNat (List.length (List.map Ty.enc (Con.gs c ++ [Con.r c]))))) = false from f_lt (by (try simp only [zz] at *) <;> omega)) (by kernel_rfl) ?_
    refine CG.exitL (by decide) ?_
    refine s1 hW 5 0 [] 16 [(6, (.sl 2 (List.length a * 6) 0 (List.length a) 6))] ?_
    rotate_left
    refine CG.tidy (Tidy.frzE (sz := 6) encP a 2 6 (tm' := [(6, (.d (.list (List.map encP a)))), (7, (io 0))]) (H' := [some (.cells (Con.cells c)), some (.cells [(so row), (lo Lin.enc dims)]), none]) (fun _ => rfl) (by kernel_rfl) (by kernel_rfl) ⟨.inr rfl, ⟨.inr rfl, ⟨.inl rfl, trivial⟩⟩⟩ (by kernel_rfl) (by kernel_rfl)) ?_
    refine CG.ret (v' := (.tuple [(lo encP a), (io 0)])) (by kernel_rfl) ?_
    rfl
  · rintro i a x r hd hx hlt ⟨hinv, ha⟩
    rw [List.length_append] at hlt
    simp only [List.length_cons, List.length_nil] at hlt
    by_cases hlast : i < c.gs.length
    · obtain ⟨w, hw⟩ : ∃ w, c.ws[i]? = some w := ⟨_, List.getElem?_eq_getElem (by omega)⟩
      obtain ⟨b, hb⟩ : ∃ b, bs[i]? = some b := ⟨_, List.getElem?_eq_getElem (by omega)⟩
      have hwm := List.mem_of_getElem? hw
      have hwd := hs.ws w hwm
      have hwl := hwd.1
      rw [drop_snoc hw, drop_snoc hb, prs] at hinv
      cases b with
      | false =>
        refine s1 hW 4 0 [] 1023 [(58, (bo (iLt (Int.ofNat i) (Int.ofNat (List.length (List.map Ty.enc (Con.gs c ++ [Con.r c])))))))] ?_
        refine CG.condT (show (iLt (Int.ofNat i) (Int.ofNat (List.length (List.map Ty.enc (Con.gs c ++ [Con.r c]))))) = true from t_lt (by (try simp only [zz] at *) <;> omega)) (by kernel_rfl) ?_
        refine s1 hW 5 1 [] 1023 [(59, (no i))] ?_
        refine CG.ix (idx_map (enc := Ty.enc) hx) rfl (by kernel_rfl) ?_
        refine s4 hW 12 0 [] 1023 [(10, (no i)), (11, (.ptr 3 3 0)), (13, (.ptr 4 3 0)), (14, (bo (List.any bs id))), (71, (bo (!iEq (Int.ofNat i) (Int.ofNat (List.length (List.map Ty.enc (Con.gs c)))))))] [(3, (.cells [(so (Ty.elem x)), (so (Ty.row x)), (lo Lin.enc (Ty.dims x))])), (4, (.cells [(so (Ty.elem (Con.x c))), (so (Ty.row (Con.x c))), (lo Lin.enc (Ty.dims (Con.x c)))]))] ?_
        have q29 : (iEq (Int.ofNat i) (Int.ofNat (List.length (List.map Ty.enc (Con.gs c))))) = false := f_eq (by (try simp only [zz] at *) <;> omega)
        refine CG.condT (b := (!iEq (Int.ofNat i) (Int.ofNat (List.length (List.map Ty.enc (Con.gs c)))))) (by rw [q29]; rfl) (by kernel_rfl) ?_
        refine CG.drawW orders (by kernel_rfl) ?_
        refine AW.rk 3 [(72, (.ptr 0 18 9)), (73, (lo Ty.enc (Con.ws c))), (74, (no i))] [] (by kernel_rfl) ?_
        refine AW.idx (idx_map (enc := Ty.enc) hw) rfl (by kernel_rfl) (by kernel_rfl) (by kernel_rfl) rfl ?_
        refine AW.rk 3 [(76, (.agg [(so (Ty.elem w)), (so (Ty.row w)), (lo Lin.enc (Ty.dims w))])), (77, (lo encB bs)), (78, (no i))] [] (by kernel_rfl) ?_
        refine AW.idx (idx_map (enc := encB) hb) rfl (by kernel_rfl) (by kernel_rfl) (by kernel_rfl) rfl ?_
        refine AW.rk 3 [(14, (bo false)), (80, (bo false))] [(4, (.cells [(so (Ty.elem w)), (so (Ty.row w)), (lo Lin.enc (Ty.dims w))]))] (by kernel_rfl) ?_
        refine AW.nil rfl ⟨by kernel_rfl, AW.fin (H2 := [some (.cells (Con.cells c)), some (.cells [(so row), (lo Lin.enc dims)]), some (rowE encP a), some (.cells [(so (Ty.elem x)), (so (Ty.row x)), (lo Lin.enc (Ty.dims x))]), some (.cells [(so (Ty.elem w)), (so (Ty.row w)), (lo Lin.enc (Ty.dims w))])]) 5 [2, 3, 4, 6, 7, 8, 9, 11, 13, 14, 55, 56, 57] (by kernel_rfl) rfl (by kernel_rfl) (by kernel_rfl) (by simp [nn, heapLt, boxLt_row, boxLt_cell, boxLt_cs, boxLt_nil, refsLtL, refsLt, Con.cells]) ?_⟩
        refine s1 hW 8 5 [false] 7295 [(91, (.sl 2 (List.length a * 6) 0 (List.length a) 6)), (95, (.d (.list [[(.str (Ty.elem x)), (.str (Ty.row x)), (.list (List.map Lin.enc (Ty.dims x))), (.str (Ty.elem w)), (.str (Ty.row w)), (.list (List.map Lin.enc (Ty.dims w)))]])))] ?_
        refine CG.apE encP a (((x, w)) :: []) 2 (fun _ => rfl) rfl (by kernel_rfl) (by kernel_rfl) (by (try simp only [zz] at *) <;> omega) ?_
        refine s3 hW 3 2 [] [(2, (lo encB bs)), (3, (.ptr 0 18 0)), (4, (.ptr 1 2 0)), (6, .nils), (7, (io 0)), (8, (bo (List.any bs id))), (9, (.sl 2 (List.length (a ++ [(x, w)]) * 6) 0 (List.length (a ++ [(x, w)])) 6)), (55, (lo Ty.enc (Con.gs c ++ [Con.r c]))), (56, (no (List.length (List.map Ty.enc (Con.gs c ++ [Con.r c]))))), (57, (io (wrapF IntKind.i64 (iAdd (Int.ofNat i) 1))))] ([some (.cells (Con.cells c)), some (.cells [(so row), (lo Lin.enc dims)]), some (rowE encP (a ++ [(x, w)])), some (.cells [(so (Ty.elem x)), (so (Ty.row x)), (lo Lin.enc (Ty.dims x))]), some (.cells [(so (Ty.elem w)), (so (Ty.row w)), (lo Lin.enc (Ty.dims w))])]) ?_
        refine CG.endL rfl ?_
        rw [wrapI (by omega)]
        rotate_left
        exact ⟨a ++ [(x, w)], ⟨hinv, by simp [ha]⟩, Tidy.trim 3 [2, 3, 4, 6, 7, 8, 9, 55, 56, 57] rfl rfl rfl rfl (by simp only [List.take_succ_cons, List.take_zero, heapLt, boxLt_row]; rfl)⟩
      | true =>
        by_cases h6 : dims.length + w.dims.length ≤ 6
        · have hl := pc_lift hW row dims w hs.dims hwd hs.row hp.shp (hp.wshp w hwm) (hp.wrow w hwm) h6
          unfold outT at hl
          rw [show liftB row dims w true = some ⟨w.elem, row, dims ++ w.dims⟩ from by simp [liftB, h6]] at hinv
          refine s1 hW 4 0 [] 1023 [(58, (bo (iLt (Int.ofNat i) (Int.ofNat (List.length (List.map Ty.enc (Con.gs c ++ [Con.r c])))))))] ?_
          refine CG.condT (show (iLt (Int.ofNat i) (Int.ofNat (List.length (List.map Ty.enc (Con.gs c ++ [Con.r c]))))) = true from t_lt (by (try simp only [zz] at *) <;> omega)) (by kernel_rfl) ?_
          refine s1 hW 5 1 [] 1023 [(59, (no i))] ?_
          refine CG.ix (idx_map (enc := Ty.enc) hx) rfl (by kernel_rfl) ?_
          refine s4 hW 12 0 [] 1023 [(10, (no i)), (11, (.ptr 3 3 0)), (13, (.ptr 4 3 0)), (14, (bo (List.any bs id))), (71, (bo (!iEq (Int.ofNat i) (Int.ofNat (List.length (List.map Ty.enc (Con.gs c)))))))] [(3, (.cells [(so (Ty.elem x)), (so (Ty.row x)), (lo Lin.enc (Ty.dims x))])), (4, (.cells [(so (Ty.elem (Con.x c))), (so (Ty.row (Con.x c))), (lo Lin.enc (Ty.dims (Con.x c)))]))] ?_
          have q31 : (iEq (Int.ofNat i) (Int.ofNat (List.length (List.map Ty.enc (Con.gs c))))) = false := f_eq (by (try simp only [zz] at *) <;> omega)
          refine CG.condT (b := (!iEq (Int.ofNat i) (Int.ofNat (List.length (List.map Ty.enc (Con.gs c)))))) (by rw [q31]; rfl) (by kernel_rfl) ?_
          refine CG.drawW orders (by kernel_rfl) ?_
          refine AW.rk 3 [(72, (.ptr 0 18 9)), (73, (lo Ty.enc (Con.ws c))), (74, (no i))] [] (by kernel_rfl) ?_
          refine AW.idx (idx_map (enc := Ty.enc) hw) rfl (by kernel_rfl) (by kernel_rfl) (by kernel_rfl) rfl ?_
          refine AW.rk 3 [(76, (.agg [(so (Ty.elem w)), (so (Ty.row w)), (lo Lin.enc (Ty.dims w))])), (77, (lo encB bs)), (78, (no i))] [] (by kernel_rfl) ?_
          refine AW.idx (idx_map (enc := encB) hb) rfl (by kernel_rfl) (by kernel_rfl) (by kernel_rfl) rfl ?_
          refine AW.rk 3 [(14, (bo true)), (80, (bo true))] [(4, (.cells [(so (Ty.elem w)), (so (Ty.row w)), (lo Lin.enc (Ty.dims w))]))] (by kernel_rfl) ?_
          refine AW.nil rfl ⟨by kernel_rfl, AW.fin (H2 := [some (.cells (Con.cells c)), some (.cells [(so row), (lo Lin.enc dims)]), some (rowE encP a), some (.cells [(so (Ty.elem x)), (so (Ty.row x)), (lo Lin.enc (Ty.dims x))]), some (.cells [(so (Ty.elem w)), (so (Ty.row w)), (lo Lin.enc (Ty.dims w))])]) 5 [2, 3, 4, 6, 7, 8, 9, 11, 13, 14, 55, 56, 57] (by kernel_rfl) rfl (by kernel_rfl) (by kernel_rfl) (by simp [nn, heapLt, boxLt_row, boxLt_cell, boxLt_cs, boxLt_nil, refsLtL, refsLt, Con.cells]) ?_⟩
          refine s1 hW 10 2 [true] 7679 [(15, (io 0)), (83, (.agg [(so row), (lo Lin.enc dims)])), (84, (.agg [(so (Ty.elem w)), (so (Ty.row w)), (lo Lin.enc (Ty.dims w))]))] ?_
          refine CG.pg (hl) rfl (by kernel_rfl) ?_
          refine s4 hW 8 5 [false] 7295 [(91, (.sl 2 (List.length a * 6) 0 (List.length a) 6)), (95, (.d (.list [[(.str (Ty.elem x)), (.str (Ty.row x)), (.list (List.map Lin.enc (Ty.dims x))), (.str (Ty.elem { elem := Ty.elem w, row := row, dims := dims ++ Ty.dims w })), (.str (Ty.row { elem := Ty.elem w, row := row, dims := dims ++ Ty.dims w })), (.list (List.map Lin.enc (Ty.dims { elem := Ty.elem w, row := row, dims := dims ++ Ty.dims w })))]])))] [(4, (.cells [(so (Ty.elem { elem := Ty.elem w, row := row, dims := dims ++ Ty.dims w })), (so (Ty.row { elem := Ty.elem w, row := row, dims := dims ++ Ty.dims w })), (lo Lin.enc (Ty.dims { elem := Ty.elem w, row := row, dims := dims ++ Ty.dims w }))]))] ?_
          refine CG.apE encP a (((x, { elem := Ty.elem w, row := row, dims := dims ++ Ty.dims w })) :: []) 2 (fun _ => rfl) rfl (by kernel_rfl) (by kernel_rfl) (by (try simp only [zz] at *) <;> omega) ?_
          refine s3 hW 3 2 [] [(2, (lo encB bs)), (3, (.ptr 0 18 0)), (4, (.ptr 1 2 0)), (6, .nils), (7, (io 0)), (8, (bo (List.any bs id))), (9, (.sl 2 (List.length (a ++ [(x, { elem := Ty.elem w, row := row, dims := dims ++ Ty.dims w })]) * 6) 0 (List.length (a ++ [(x, { elem := Ty.elem w, row := row, dims := dims ++ Ty.dims w })])) 6)), (55, (lo Ty.enc (Con.gs c ++ [Con.r c]))), (56, (no (List.length (List.map Ty.enc (Con.gs c ++ [Con.r c]))))), (57, (io (wrapF IntKind.i64 (iAdd (Int.ofNat i) 1))))] ([some (.cells (Con.cells c)), some (.cells [(so row), (lo Lin.enc dims)]), some (rowE encP (a ++ [(x, { elem := Ty.elem w, row := row, dims := dims ++ Ty.dims w })])), some (.cells [(so (Ty.elem x)), (so (Ty.row x)), (lo Lin.enc (Ty.dims x))]), some (.cells [(so (Ty.elem { elem := Ty.elem w, row := row, dims := dims ++ Ty.dims w })), (so (Ty.row { elem := Ty.elem w, row := row, dims := dims ++ Ty.dims w })), (lo Lin.enc (Ty.dims { elem := Ty.elem w, row := row, dims := dims ++ Ty.dims w }))])]) ?_
          refine CG.endL rfl ?_
          rw [wrapI (by omega)]
          rotate_left
          exact ⟨a ++ [(x, ⟨w.elem, row, dims ++ w.dims⟩)], ⟨hinv, by simp [ha]⟩, Tidy.trim 3 [2, 3, 4, 6, 7, 8, 9, 55, 56, 57] rfl rfl rfl rfl (by simp only [List.take_succ_cons, List.take_zero, heapLt, boxLt_row]; rfl)⟩
        · have hl := pc_liftX hW row dims w hs.dims hwd hs.row hp.shp (hp.wshp w hwm) (hp.wrow w hwm) (by omega)
          unfold outT at hl
          rw [show liftB row dims w true = none from by simp [liftB, h6]] at hinv
          refine s1 hW 4 0 [] 1023 [(58, (bo (iLt (Int.ofNat i) (Int.ofNat (List.length (List.map Ty.enc (Con.gs c ++ [Con.r c])))))))] ?_
          refine CG.condT (show (iLt (Int.ofNat i) (Int.ofNat (List.length (List.map Ty.enc (Con.gs c ++ [Con.r c]))))) = true from t_lt (by (try simp only [zz] at *) <;> omega)) (by kernel_rfl) ?_
          refine s1 hW 5 1 [] 1023 [(59, (no i))] ?_
          refine CG.ix (idx_map (enc := Ty.enc) hx) rfl (by kernel_rfl) ?_
          refine s4 hW 12 0 [] 1023 [(10, (no i)), (11, (.ptr 3 3 0)), (13, (.ptr 4 3 0)), (14, (bo (List.any bs id))), (71, (bo (!iEq (Int.ofNat i) (Int.ofNat (List.length (List.map Ty.enc (Con.gs c)))))))] [(3, (.cells [(so (Ty.elem x)), (so (Ty.row x)), (lo Lin.enc (Ty.dims x))])), (4, (.cells [(so (Ty.elem (Con.x c))), (so (Ty.row (Con.x c))), (lo Lin.enc (Ty.dims (Con.x c)))]))] ?_
          have q31 : (iEq (Int.ofNat i) (Int.ofNat (List.length (List.map Ty.enc (Con.gs c))))) = false := f_eq (by (try simp only [zz] at *) <;> omega)
          refine CG.condT (b := (!iEq (Int.ofNat i) (Int.ofNat (List.length (List.map Ty.enc (Con.gs c)))))) (by rw [q31]; rfl) (by kernel_rfl) ?_
          refine CG.drawW orders (by kernel_rfl) ?_
          refine AW.rk 3 [(72, (.ptr 0 18 9)), (73, (lo Ty.enc (Con.ws c))), (74, (no i))] [] (by kernel_rfl) ?_
          refine AW.idx (idx_map (enc := Ty.enc) hw) rfl (by kernel_rfl) (by kernel_rfl) (by kernel_rfl) rfl ?_
          refine AW.rk 3 [(76, (.agg [(so (Ty.elem w)), (so (Ty.row w)), (lo Lin.enc (Ty.dims w))])), (77, (lo encB bs)), (78, (no i))] [] (by kernel_rfl) ?_
          refine AW.idx (idx_map (enc := encB) hb) rfl (by kernel_rfl) (by kernel_rfl) (by kernel_rfl) rfl ?_
          refine AW.rk 3 [(14, (bo true)), (80, (bo true))] [(4, (.cells [(so (Ty.elem w)), (so (Ty.row w)), (lo Lin.enc (Ty.dims w))]))] (by kernel_rfl) ?_
          refine AW.nil rfl ⟨by kernel_rfl, AW.fin (H2 := [some (.cells (Con.cells c)), some (.cells [(so row), (lo Lin.enc dims)]), some (rowE encP a), some (.cells [(so (Ty.elem x)), (so (Ty.row x)), (lo Lin.enc (Ty.dims x))]), some (.cells [(so (Ty.elem w)), (so (Ty.row w)), (lo Lin.enc (Ty.dims w))])]) 5 [2, 3, 4, 6, 7, 8, 9, 11, 13, 14, 55, 56, 57] (by kernel_rfl) rfl (by kernel_rfl) (by kernel_rfl) (by simp [nn, heapLt, boxLt_row, boxLt_cell, boxLt_cs, boxLt_nil, refsLtL, refsLt, Con.cells]) ?_⟩
          refine s1 hW 10 2 [true] 7679 [(15, (io 0)), (83, (.agg [(so row), (lo Lin.enc dims)])), (84, (.agg [(so (Ty.elem w)), (so (Ty.row w)), (lo Lin.enc (Ty.dims w))]))] ?_
          refine CG.pg (hl) rfl (by kernel_rfl) ?_
          refine s4 hW 9 0 [true] 7663 [(7, (io 3))] [(4, (.cells [(so (Ty.elem { elem := Ty.elem w, row := [], dims := [] })), (so []), (.d (.list []))]))] ?_
          refine CG.retL (v' := (.tuple [(.d (.list [])), (io 3)])) (by kernel_rfl) ?_
          rotate_left
          rw [hinv]; rfl
    · have hi : i = c.gs.length := by omega
      have hw : (c.ws ++ [c.x])[i]? = some c.x := by rw [hi, hlen]; simp
      have hb : (bs ++ [bs.any id])[i]? = some (bs.any id) := by rw [hi, ← hbl]; simp
      have hwl := hs.x.1
      rw [drop_at hw, drop_at hb, prs] at hinv
      cases hany : bs.any id with
      | false =>
        rw [hany] at hinv
        refine s1 hW 4 0 [] 1023 [(58, (bo (iLt (Int.ofNat i) (Int.ofNat (List.length (List.map Ty.enc (Con.gs c ++ [Con.r c])))))))] ?_
        refine CG.condT (show (iLt (Int.ofNat i) (Int.ofNat (List.length (List.map Ty.enc (Con.gs c ++ [Con.r c]))))) = true from t_lt (by (try simp only [zz] at *) <;> omega)) (by kernel_rfl) ?_
        refine s1 hW 5 1 [] 1023 [(59, (no i))] ?_
        refine CG.ix (idx_map (enc := Ty.enc) hx) rfl (by kernel_rfl) ?_
        refine s4 hW 12 0 [] 1023 [(10, (no i)), (11, (.ptr 3 3 0)), (13, (.ptr 4 3 0)), (14, (bo false)), (71, (bo (!iEq (Int.ofNat i) (Int.ofNat (List.length (List.map Ty.enc (Con.gs c)))))))] [(3, (.cells [(so (Ty.elem x)), (so (Ty.row x)), (lo Lin.enc (Ty.dims x))])), (4, (.cells [(so (Ty.elem (Con.x c))), (so (Ty.row (Con.x c))), (lo Lin.enc (Ty.dims (Con.x c)))]))] ?_
        have q28 : (iEq (Int.ofNat i) (Int.ofNat (List.length (List.map Ty.enc (Con.gs c))))) = true := t_eq (by (try simp only [zz] at *) <;> omega)
        refine CG.condF (b := (!iEq (Int.ofNat i) (Int.ofNat (List.length (List.map Ty.enc (Con.gs c)))))) (by rw [q28]; rfl) (by kernel_rfl) ?_
        refine s1 hW 9 5 [false] 14463 [(91, (.sl 2 (List.length a * 6) 0 (List.length a) 6)), (95, (.d (.list [[(.str (Ty.elem x)), (.str (Ty.row x)), (.list (List.map Lin.enc (Ty.dims x))), (.str (Ty.elem (Con.x c))), (.str (Ty.row (Con.x c))), (.list (List.map Lin.enc (Ty.dims (Con.x c))))]])))] ?_
        refine CG.apE encP a (((x, c.8)) :: []) 2 (fun _ => rfl) rfl (by kernel_rfl) (by kernel_rfl) (by (try simp only [zz] at *) <;> omega) ?_
        refine s3 hW 3 2 [] [(2, (lo encB bs)), (3, (.ptr 0 18 0)), (4, (.ptr 1 2 0)), (6, .nils), (7, (io 0)), (8, (bo false)), (9, (.sl 2 (List.length (a ++ [(x, Con.x c)]) * 6) 0 (List.length (a ++ [(x, Con.x c)])) 6)), (55, (lo Ty.enc (Con.gs c ++ [Con.r c]))), (56, (no (List.length (List.map Ty.enc (Con.gs c ++ [Con.r c]))))), (57, (io (wrapF IntKind.i64 (iAdd (Int.ofNat i) 1))))] ([some (.cells (Con.cells c)), some (.cells [(so row), (lo Lin.enc dims)]), some (rowE encP (a ++ [(x, Con.x c)])), some (.cells [(so (Ty.elem x)), (so (Ty.row x)), (lo Lin.enc (Ty.dims x))]), some (.cells [(so (Ty.elem (Con.x c))), (so (Ty.row (Con.x c))), (lo Lin.enc (Ty.dims (Con.x c)))])]) ?_
        refine CG.endL rfl ?_
        rw [wrapI (by omega)]
        rotate_left
        exact ⟨a ++ [(x, c.x)], ⟨hinv, by simp [ha]⟩, Tidy.trim 3 [2, 3, 4, 6, 7, 8, 9, 55, 56, 57] rfl rfl rfl rfl (by simp only [List.take_succ_cons, List.take_zero, heapLt, boxLt_row]; rfl)⟩
      | true =>
        rw [hany] at hinv
        by_cases h6 : dims.length + c.x.dims.length ≤ 6
        · have hl := pc_lift hW row dims c.x hs.dims hs.x hs.row hp.shp hp.xshp hp.xrow h6
          unfold outT at hl
          rw [show liftB row dims c.x true = some ⟨c.x.elem, row, dims ++ c.x.dims⟩ from by simp [liftB, h6]] at hinv
          refine s1 hW 4 0 [] 1023 [(58, (bo (iLt (Int.ofNat i) (Int.ofNat (List.length (List.map Ty.enc (Con.gs c ++ [Con.r c])))))))] ?_
          refine CG.condT (show (iLt (Int.ofNat i) (Int.ofNat (List.length (List.map Ty.enc (Con.gs c ++ [Con.r c]))))) = true from t_lt (by (try simp only [zz] at *) <;> omega)) (by kernel_rfl) ?_
          refine s1 hW 5 1 [] 1023 [(59, (no i))] ?_
          refine CG.ix (idx_map (enc := Ty.enc) hx) rfl (by kernel_rfl) ?_
          refine s4 hW 12 0 [] 1023 [(10, (no i)), (11, (.ptr 3 3 0)), (13, (.ptr 4 3 0)), (14, (bo true)), (71, (bo (!iEq (Int.ofNat i) (Int.ofNat (List.length (List.map Ty.enc (Con.gs c)))))))] [(3, (.cells [(so (Ty.elem x)), (so (Ty.row x)), (lo Lin.enc (Ty.dims x))])), (4, (.cells [(so (Ty.elem (Con.x c))), (so (Ty.row (Con.x c))), (lo Lin.enc (Ty.dims (Con.x c)))]))] ?_
          have q30 : (iEq (Int.ofNat i) (Int.ofNat (List.length (List.map Ty.enc (Con.gs c))))) = true := t_eq (by (try simp only [zz] at *) <;> omega)
          refine CG.condF (b := (!iEq (Int.ofNat i) (Int.ofNat (List.length (List.map Ty.enc (Con.gs c)))))) (by rw [q30]; rfl) (by kernel_rfl) ?_
          refine s1 hW 11 2 [true] 15231 [(15, (io 0)), (83, (.agg [(so row), (lo Lin.enc dims)])), (84, (.agg [(so (Ty.elem (Con.x c))), (so (Ty.row (Con.x c))), (lo Lin.enc (Ty.dims (Con.x c)))]))] ?_
          refine CG.pg (hl) rfl (by kernel_rfl) ?_
          refine s4 hW 8 5 [false] 7295 [(91, (.sl 2 (List.length a * 6) 0 (List.length a) 6)), (95, (.d (.list [[(.str (Ty.elem x)), (.str (Ty.row x)), (.list (List.map Lin.enc (Ty.dims x))), (.str (Ty.elem { elem := Ty.elem (Con.x c), row := row, dims := dims ++ Ty.dims (Con.x c) })), (.str (Ty.row { elem := Ty.elem (Con.x c), row := row, dims := dims ++ Ty.dims (Con.x c) })), (.list (List.map Lin.enc (Ty.dims { elem := Ty.elem (Con.x c), row := row, dims := dims ++ Ty.dims (Con.x c) })))]])))] [(4, (.cells [(so (Ty.elem { elem := Ty.elem (Con.x c), row := row, dims := dims ++ Ty.dims (Con.x c) })), (so (Ty.row { elem := Ty.elem (Con.x c), row := row, dims := dims ++ Ty.dims (Con.x c) })), (lo Lin.enc (Ty.dims { elem := Ty.elem (Con.x c), row := row, dims := dims ++ Ty.dims (Con.x c) }))]))] ?_
          refine CG.apE encP a (((x, { elem := Ty.elem (Con.x c), row := row, dims := dims ++ Ty.dims (Con.x c) })) :: []) 2 (fun _ => rfl) rfl (by kernel_rfl) (by kernel_rfl) (by (try simp only [zz] at *) <;> omega) ?_
          refine s3 hW 3 2 [] [(2, (lo encB bs)), (3, (.ptr 0 18 0)), (4, (.ptr 1 2 0)), (6, .nils), (7, (io 0)), (8, (bo true)), (9, (.sl 2 (List.length (a ++ [(x, { elem := Ty.elem (Con.x c), row := row, dims := dims ++ Ty.dims (Con.x c) })]) * 6) 0 (List.length (a ++ [(x, { elem := Ty.elem (Con.x c), row := row, dims := dims ++ Ty.dims (Con.x c) })])) 6)), (55, (lo Ty.enc (Con.gs c ++ [Con.r c]))), (56, (no (List.length (List.map Ty.enc (Con.gs c ++ [Con.r c]))))), (57, (io (wrapF IntKind.i64 (iAdd (Int.ofNat i) 1))))] ([some (.cells (Con.cells c)), some (.cells [(so row), (lo Lin.enc dims)]), some (rowE encP (a ++ [(x, { elem := Ty.elem (Con.x c), row := row, dims := dims ++ Ty.dims (Con.x c) })])), some (.cells [(so (Ty.elem x)), (so (Ty.row x)), (lo Lin.enc (Ty.dims x))]), some (.cells [(so (Ty.elem { elem := Ty.elem (Con.x c), row := row, dims := dims ++ Ty.dims (Con.x c) })), (so (Ty.row { elem := Ty.elem (Con.x c), row := row, dims := dims ++ Ty.dims (Con.x c) })), (lo Lin.enc (Ty.dims { elem := Ty.elem (Con.x c), row := row, dims := dims ++ Ty.dims (Con.x c) }))])]) ?_
          refine CG.endL rfl ?_
          rw [wrapI (by omega)]
          rotate_left
          exact ⟨a ++ [(x, ⟨c.x.elem, row, dims ++ c.x.dims⟩)], ⟨hinv, by simp [ha]⟩, Tidy.trim 3 [2, 3, 4, 6, 7, 8, 9, 55, 56, 57] rfl rfl rfl rfl (by simp only [List.take_succ_cons, List.take_zero, heapLt, boxLt_row]; rfl)⟩
        · have hl := pc_liftX hW row dims c.x hs.dims hs.x hs.row hp.shp hp.xshp hp.xrow (by omega)
          unfold outT at hl
          rw [show liftB row dims c.x true = none from by simp [liftB, h6]] at hinv
          refine s1 hW 4 0 [] 1023 [(58, (bo (iLt (Int.ofNat i) (Int.ofNat (List.length (List.map Ty.enc (Con.gs c ++ [Con.r c])))))))] ?_
          refine CG.condT (show (iLt (Int.ofNat i) (Int.ofNat (List.length (List.map Ty.enc (Con.gs c ++ [Con.r c]))))) = true from t_lt (by (try simp only [zz] at *) <;> omega)) (by kernel_rfl) ?_
          refine s1 hW 5 1 [] 1023 [(59, (no i))] ?_
          refine CG.ix (idx_map (enc := Ty.enc) hx) rfl (by kernel_rfl) ?_
          refine s4 hW 12 0 [] 1023 [(10, (no i)), (11, (.ptr 3 3 0)), (13, (.ptr 4 3 0)), (14, (bo true)), (71, (bo (!iEq (Int.ofNat i) (Int.ofNat (List.length (List.map Ty.enc (Con.gs c)))))))] [(3, (.cells [(so (Ty.elem x)), (so (Ty.row x)), (lo Lin.enc (Ty.dims x))])), (4, (.cells [(so (Ty.elem (Con.x c))), (so (Ty.row (Con.x c))), (lo Lin.enc (Ty.dims (Con.x c)))]))] ?_
          have q30 : (iEq (Int.ofNat i) (Int.ofNat (List.length (List.map Ty.enc (Con.gs c))))) = true := t_eq (by (try simp only [zz] at *) <;> omega)
          refine CG.condF (b := (!iEq (Int.ofNat i) (Int.ofNat (List.length (List.map Ty.enc (Con.gs c)))))) (by rw [q30]; rfl) (by kernel_rfl) ?_
          refine s1 hW 11 2 [true] 15231 [(15, (io 0)), (83, (.agg [(so row), (lo Lin.enc dims)])), (84, (.agg [(so (Ty.elem (Con.x c))), (so (Ty.row (Con.x c))), (lo Lin.enc (Ty.dims (Con.x c)))]))] ?_
          refine CG.pg (hl) rfl (by kernel_rfl) ?_
          refine s4 hW 9 0 [true] 7663 [(7, (io 3))] [(4, (.cells [(so (Ty.elem { elem := Ty.elem (Con.x c), row := [], dims := [] })), (so []), (.d (.list []))]))] ?_
          refine CG.retL (v' := (.tuple [(.d (.list [])), (io 3)])) (by kernel_rfl) ?_
          rotate_left
          rw [hinv]; rfl
theorem pc_pairs (hW : W0 W) (c : Con) (row : List UInt8) (dims : List Lin) (bs : List Bool) (hs : Okc c row dims bs) : PC P (gl W) 23 [.agg (Con.cells c), vS row dims, .d (.list (bs.map encB))] (pairsV c row dims bs) := by
  refine CG.start is23 ca23 rfl ?_
  have hbl := hs.bs
  have hgl := hs.sm.gl
  have k1 := pc_shp hW row dims hs.row (by have := hs.dims.1; omega) (fun x hx => (hs.dims.2 x hx).1)
  have k2 : ∀ h, PC P (gl W) 60 [.d (.list [[.list (c.gs.map Ty.enc)], [.list ([c.r].map Ty.enc)]])] (.d (.list ((c.gs ++ [c.r]).map Ty.enc))) := fun h => pc_catT hW c.gs [c.r] h (by simp)
  refine s4 hW 4 1 [] 4 [(3, (.ptr 0 18 0)), (4, (.ptr 1 2 0)), (6, .nils), (7, (io 0)), (16, (lo encB bs))] [(0, (.cells (Con.cells c))), (1, (.cells [(so row), (lo Lin.enc dims)]))] ?_
  refine CG.pg (pc_contB hW bs hbl) rfl (by kernel_rfl) ?_
  refine s1 hW 4 1 [] 31 [(8, (bo (List.any bs id))), (18, (.agg (Con.cells c)))] ?_
  refine CG.pg (pc_con hW c hs.sm) rfl (by kernel_rfl) ?_
  refine s1 hW 0 2 [] 63 [(21, (bo (!conB c)))] ?_
  refine sp (conB c) (fun q12 => ?_) (fun q12 => ?_)
  rw [q12]
  refine s1 hW 0 1 [] 127 [(22, (.agg [(so row), (lo Lin.enc dims)]))] ?_
  refine CG.pg (k1) rfl (by kernel_rfl) ?_
  refine s1 hW 0 3 [] 63 [(26, (bo (!shpB row dims)))] ?_
  refine sp (shpB row dims) (fun q13 => ?_) (fun q13 => ?_)
  rw [q13]
  refine s1 hW 0 8 [] 63 [(34, (bo (!iEq (Int.ofNat (List.length (List.map encB bs))) (Int.ofNat (List.length (List.map Ty.enc (Con.gs c)))))))] ?_
  refine spEqN (List.length (List.map encB bs)) (List.length (List.map Ty.enc (Con.gs c))) (fun q15 p15 => ?_) (fun q15 p15 => ?_) <;> simp only [zz] at p15
  rw [q15]
  refine s1 hW 0 3 [] 127 [(37, (bo (!List.any bs id)))] ?_
  refine sp (List.any bs id) (fun q16 => ?_) (fun q16 => ?_)
  rw [q16]
  refine s1 hW 10 6 [false] 63 [(9, .nils), (54, (.d (.list [[(.list (List.map Ty.enc (Con.gs c)))], [(.list [[(.str (Ty.elem (Con.r c))), (.str (Ty.row (Con.r c))), (.list (List.map Lin.enc (Ty.dims (Con.r c))))]])]])))] ?_
  rotate_left
  rw [q16]
  refine s1 hW 0 4 [] 255 [(41, (bo (!bytesEq row [])))] ?_
  refine sp (bytesEq row []) (fun q17 => ?_) (fun q17 => ?_)
  rw [q17]
  refine s1 hW 2 0 [] 63 [(48, (bo (iLt 0 (Int.ofNat (List.length (List.map Lin.enc dims))))))] ?_
  refine spLtN 0 (List.length (List.map Lin.enc dims)) (fun q18 p18 => ?_) (fun q18 p18 => ?_) <;> simp only [zz] at p18
  refine CG.condT (show (iLt 0 (Int.ofNat (List.length (List.map Lin.enc dims)))) = true from t_lt (by (try simp only [zz] at *) <;> omega)) (by kernel_rfl) ?_
  refine s1 hW 3 0 [] 47 [(7, (io 1))] ?_
  refine CG.ret (v' := (.tuple [(.d (.list [])), (io 1)])) (by kernel_rfl) ?_
  rotate_left
  refine CG.condF (show (iLt 0 (Int.ofNat (List.length (List.map Lin.enc dims)))) = false from f_lt (by (try simp only [zz] at *) <;> omega)) (by kernel_rfl) ?_
  refine s1 hW 7 6 [] 63 [(9, .nils), (54, (.d (.list [[(.list (List.map Ty.enc (Con.gs c)))], [(.list [[(.str (Ty.elem (Con.r c))), (.str (Ty.row (Con.r c))), (.list (List.map Lin.enc (Ty.dims (Con.r c))))]])]])))] ?_
  rotate_left
  rw [q17]
  refine s1 hW 6 0 [true] 47 [(7, (io 1))] ?_
  refine CG.ret (v' := (.tuple [(.d (.list [])), (io 1)])) (by kernel_rfl) ?_
  rotate_left
  rw [q15]
  refine s1 hW 6 0 [true] 47 [(7, (io 1))] ?_
  refine CG.ret (v' := (.tuple [(.d (.list [])), (io 1)])) (by kernel_rfl) ?_
  rotate_left
  rw [q13]
  refine s1 hW 6 0 [true] 47 [(7, (io 1))] ?_
  refine CG.ret (v' := (.tuple [(.d (.list [])), (io 1)])) (by kernel_rfl) ?_
  rotate_left
  rw [q12]
  refine s1 hW 6 0 [true] 47 [(7, (io 1))] ?_
  refine CG.ret (v' := (.tuple [(.d (.list [])), (io 1)])) (by kernel_rfl) ?_
  rotate_left
  · have hp : Okp c row dims bs := okp_of (by assumption) (by assumption) (by omega)
    have hle := hp.le
    have hnb : badP c row dims bs = false := by
      have hl : bs.length = c.gs.length := hp.bsl
      simp [badP, *]
    have h3 := k2 (by omega)
    rw [pairsV, hnb, cond_false]
    refine CG.pg (h3) rfl (by kernel_rfl) ?_
    refine s1 hW 3 0 [] 383 [(56, (no (List.length (List.map Ty.enc (Con.gs c ++ [Con.r c]))))), (57, (io 0))] ?_
    rotate_left
    refine CG.keep rfl [2, 3, 4, 6, 7, 8, 9, 55, 56, 57] ?_
    refine CG.is [(2, (lo encB bs)), (3, (.ptr 0 18 0)), (4, (.ptr 1 2 0)), (6, .nils), (7, (io 0)), (8, (bo true)), (9, .nils), (55, (lo Ty.enc (Con.gs c ++ [Con.r c]))), (56, (no (List.length (List.map Ty.enc (Con.gs c ++ [Con.r c]))))), (57, (io 0))] ([some (.cells (Con.cells c)), some (.cells [(so row), (lo Lin.enc dims)])]) (by kernel_rfl) ?_
    have h4 := pr_loop hW c row dims bs hs hp
    rw [show bs.any id = true by assumption] at h4
    exact h4
  · have hl2 : ¬ dims.length = 0 := by omega
    have hb : badP c row dims bs = true := by
      simp [badP, shEq_nil, *] at hl2 ⊢
    rw [pairsV, hb]; rfl
  · have hp : Okp c row dims bs := okp_of (by assumption) (by assumption) (by omega)
    have hle := hp.le
    have hnb : badP c row dims bs = false := by
      have hl : bs.length = c.gs.length := hp.bsl
      have hl2 : dims.length = 0 := by omega
      simp [badP, shEq_nil, *]
    have h3 := k2 (by omega)
    rw [pairsV, hnb, cond_false]
    refine CG.pg (h3) rfl (by kernel_rfl) ?_
    refine s1 hW 3 0 [] 383 [(56, (no (List.length (List.map Ty.enc (Con.gs c ++ [Con.r c]))))), (57, (io 0))] ?_
    rotate_left
    refine CG.keep rfl [2, 3, 4, 6, 7, 8, 9, 55, 56, 57] ?_
    refine CG.is [(2, (lo encB bs)), (3, (.ptr 0 18 0)), (4, (.ptr 1 2 0)), (6, .nils), (7, (io 0)), (8, (bo false)), (9, .nils), (55, (lo Ty.enc (Con.gs c ++ [Con.r c]))), (56, (no (List.length (List.map Ty.enc (Con.gs c ++ [Con.r c]))))), (57, (io 0))] ([some (.cells (Con.cells c)), some (.cells [(so row), (lo Lin.enc dims)])]) (by kernel_rfl) ?_
    have h4 := pr_loop hW c row dims bs hs hp
    rw [show bs.any id = false by assumption] at h4
    exact h4
  all_goals
    have hb : badP c row dims bs = true := by
      first
        | (simp [badP, shEq_nil, *]; done)
        | (have hl2 : ¬ dims.length = 0 := by omega
           simp [badP, shEq_nil, *]; done)
        | (have hl2 : ¬ bs.length = c.gs.length := by omega
           simp [badP, shEq_nil, *]; done)
    rw [pairsV, hb]; rfl
end Fw.Tz.Pd
