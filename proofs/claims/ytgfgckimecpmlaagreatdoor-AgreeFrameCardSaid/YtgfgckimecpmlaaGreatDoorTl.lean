/-
  Frames.
-/
import Derived.Test.YtgfgckimecpmlaaGreatDoorTf
import Derived.Test.YtgfgckimecpmlaaGreatDoorTd
import Derived.Test.YtgfgckimecpmlaaGreatDoorFg
import Derived.Test.YtgfgckimecpmlaaGreatDoorTe

set_option linter.unusedSimpArgs false
set_option maxRecDepth 1000000
set_option maxHeartbeats 4000000
namespace Fw.Tz.Fg
open Go Go.Proofs Fw.X Fw.Tz Fw.Nu Fw.Tz.Sd Fw.Tz.Na Fw.Tz.El Fw.Tz.Va Fw.Tz.Vb Fw.Tz.Vc Fw.Tz.Vf Fw.Tz.Vh Fw.Tz.Vi
variable {W : World}
def frm : List Lin → List Bool → List Ty → List Ty → Option (List Lin × List Bool)
  | cur, bs, g :: gs, w :: ws =>
    if g.dims.length < w.dims.length then none
    else if w.dims.length < g.dims.length ∧ cur ≠ [] ∧ g.dims.length - w.dims.length ≠ cur.length then none
    else frm (if w.dims.length < g.dims.length ∧ cur = [] then g.dims.take (g.dims.length - w.dims.length) else cur) (bs ++ [decide (w.dims.length < g.dims.length)]) gs ws
  | cur, bs, _, _ => some (cur, bs)
theorem frm_cons {g w : Ty} {m : Nat} (hm : m + w.dims.length = g.dims.length) (cur : List Lin) (bs : List Bool) (r ws : List Ty) : frm cur bs (g :: r) (w :: ws) =
    if 0 < m ∧ 0 < cur.length ∧ m ≠ cur.length then none else frm (if 0 < m ∧ cur.length = 0 then g.dims.take m else cur) (bs ++ [iLt 0 (.ofNat m)]) r ws := by
  have e0 : g.dims.length - w.dims.length = m := by omega
  have e1 : (w.dims.length < g.dims.length) = (0 < m) := propext ⟨fun h => by omega, fun h => by omega⟩
  have e2 : (cur = []) = (cur.length = 0) := propext List.length_eq_zero_iff.symm
  have e3 : (cur ≠ []) = (0 < cur.length) := propext ⟨fun h => List.length_pos_iff.2 h, fun h => List.length_pos_iff.1 h⟩
  have e6 : iLt 0 (Int.ofNat m) = decide (0 < m) := by rw [iLt_eq]; congr 1; exact propext ⟨fun h => by simpa using h, fun h => by simpa using h⟩
  rw [frm, if_neg (by omega)]
  simp only [e0, e1, e2, e3, e6]
theorem frm_short {g w : Ty} (h : g.dims.length < w.dims.length) (cur : List Lin) (bs : List Bool) (r ws : List Ty) : frm cur bs (g :: r) (w :: ws) = none := by rw [frm, if_pos h]
theorem frm_len : ∀ (gs ws : List Ty) (cur : List Lin) (bs : List Bool) {fr : List Lin} {fd : List Bool}, frm cur bs gs ws = some (fr, fd) → fd.length ≤ bs.length + gs.length ∧ (fr = cur ∨ ∃ g ∈ gs, ∃ k, fr = g.dims.take k)
  | [], _, cur, bs, fr, fd, h => by
    simp only [frm, Option.some.injEq, Prod.mk.injEq] at h
    obtain ⟨rfl, rfl⟩ := h
    exact ⟨by simp, .inl rfl⟩
  | g :: gs, [], cur, bs, fr, fd, h => by
    simp only [frm, Option.some.injEq, Prod.mk.injEq] at h
    obtain ⟨rfl, rfl⟩ := h
    exact ⟨by simp, .inl rfl⟩
  | g :: gs, w :: ws, cur, bs, fr, fd, h => by
    rw [frm] at h
    split at h
    · cases h
    · split at h
      · cases h
      · obtain ⟨h1, h2⟩ := frm_len gs ws _ _ h
        refine ⟨by simp only [List.length_append, List.length_cons, List.length_nil] at h1 ⊢; omega, ?_⟩
        rcases h2 with h2 | ⟨g', hg', k, hk⟩
        · split at h2
          · exact .inr ⟨g, List.mem_cons_self, _, h2⟩
          · exact .inl h2
        · exact .inr ⟨g', List.mem_cons_of_mem _ hg', k, hk⟩
def outF (cur : List Lin) (bs : List Bool) (e : Int) : V := .tuple [.agg [.d (.str []), .d (.list (cur.map Lin.enc))], .d (.list (bs.map encB)), .d (.int .i64 e)]
def frmV : Option (List Lin × List Bool) → V
  | none => outF [] [] 13
  | some (cur, bs) => outF cur bs 0
def frameF (c : Con) : V := bif knownB c then frmV (frm [] [] c.gs c.ws) else outF [] [] 1
structure Fit (c : Con) : Prop where
  len : c.gs.length = c.ws.length
  le : c.gs.length ≤ 16
  row : ∀ t ∈ c.gs, t.row = []
  shp : ∀ t ∈ c.gs, shpB t.row t.dims = true
theorem fit_of {c : Con} (h : knownB c = true) : Fit c := by
  simp only [knownB, conB, Bool.and_eq_true, decide_eq_true_eq, Bool.not_eq_true', List.any_eq_false] at h
  obtain ⟨⟨⟨⟨⟨⟨⟨⟨_, h1⟩, h2⟩, _⟩, _⟩, _⟩, h3⟩, _⟩, h4⟩ := h
  refine ⟨h1, h2, fun t ht => ?_, fun t ht => ?_⟩
  · have := h4 t ht
    simpa [hasRow, Fw.bytesEq_iff] using this
  · have := h3 t ht
    simp only [badT, Bool.not_eq_true', Bool.not_eq_false, tyB, Bool.and_eq_true] at this
    exact this.2
theorem pc_frame (hW : W0 W) (c : Con) (hs : Con.sm c) (hm : ∀ t ∈ c.gs, t.dims.length < 1073741824 ∧ ∀ x ∈ t.dims, x.ts.length < 1073741824) : PC P (gl W) 14 [.agg (Con.cells c)] (frameF c) := by
  refine CG.start is14 ca14 rfl ?_
  refine s4 hW 5 1 [] 0 [(1, (.ptr 0 18 0)), (2, (.ptr 1 2 0)), (3, .nils), (4, (io 0)), (8, (.agg [(io (Con.k c)), (.d (Con.s c)), (so (Ty.elem (Con.ta c))), (so (Ty.row (Con.ta c))), (lo Lin.enc (Ty.dims (Con.ta c))), (so (Ty.elem (Con.tb c))), (so (Ty.row (Con.tb c))), (lo Lin.enc (Ty.dims (Con.tb c))), (lo Ty.enc (Con.gs c)), (lo Ty.enc (Con.ws c)), (so (Ty.elem (Con.r c))), (so (Ty.row (Con.r c))), (lo Lin.enc (Ty.dims (Con.r c))), (so (Ty.elem (Con.x c))), (so (Ty.row (Con.x c))), (lo Lin.enc (Ty.dims (Con.x c))), (io (Lin.c (Con.lin c))), (lo Cf.enc (Lin.ts (Con.lin c)))]))] [(0, (.cells [(io (Con.k c)), (.d (Con.s c)), (so (Ty.elem (Con.ta c))), (so (Ty.row (Con.ta c))), (lo Lin.enc (Ty.dims (Con.ta c))), (so (Ty.elem (Con.tb c))), (so (Ty.row (Con.tb c))), (lo Lin.enc (Ty.dims (Con.tb c))), (lo Ty.enc (Con.gs c)), (lo Ty.enc (Con.ws c)), (so (Ty.elem (Con.r c))), (so (Ty.row (Con.r c))), (lo Lin.enc (Ty.dims (Con.r c))), (so (Ty.elem (Con.x c))), (so (Ty.row (Con.x c))), (lo Lin.enc (Ty.dims (Con.x c))), (io (Lin.c (Con.lin c))), (lo Cf.enc (Lin.ts (Con.lin c)))])), (1, (.cells [(so []), .nils]))] rfl (by kernel_rfl) ?_
  refine CG.pg (pc_known hW c hs) rfl (by kernel_rfl) ?_
  refine s1 hW 2 0 [] 15 [(10, (bo (!knownB c)))] rfl (by kernel_rfl) ?_
  refine sp (knownB c) (fun q6 => ?_) (fun q6 => ?_)
  refine CG.condF (b := (!knownB c)) (by rw [q6]; rfl) (by kernel_rfl) ?_
  refine s1 hW 7 0 [] 15 [(13, (lo Ty.enc (Con.gs c))), (14, (no (List.length (List.map Ty.enc (Con.gs c))))), (15, (io 0))] rfl (by kernel_rfl) ?_
  rotate_left
  refine CG.condT (b := (!knownB c)) (by rw [q6]; rfl) (by kernel_rfl) ?_
  refine s1 hW 3 0 [] 7 [(4, (io 1))] rfl (by kernel_rfl) ?_
  refine CG.ret (v' := (.tuple [(.agg [(so []), (.d (.list []))]), (.d (.list [])), (io 1)])) (by kernel_rfl) ?_
  rotate_left
  · have hk : knownB c = true := by assumption
    have hf := fit_of hk
    have hR : frameF c = frmV (frm [] [] c.gs c.ws) := by rw [frameF, hk]; rfl
    rw [hR]
    refine CG.tidy (Tidy.nilCD 1 1 (cs := [(so []), .nils]) (H' := [some (.cells [(io (Con.k c)), (.d (Con.s c)), (so (Ty.elem (Con.ta c))), (so (Ty.row (Con.ta c))), (lo Lin.enc (Ty.dims (Con.ta c))), (so (Ty.elem (Con.tb c))), (so (Ty.row (Con.tb c))), (lo Lin.enc (Ty.dims (Con.tb c))), (lo Ty.enc (Con.gs c)), (lo Ty.enc (Con.ws c)), (so (Ty.elem (Con.r c))), (so (Ty.row (Con.r c))), (lo Lin.enc (Ty.dims (Con.r c))), (so (Ty.elem (Con.x c))), (so (Ty.row (Con.x c))), (lo Lin.enc (Ty.dims (Con.x c))), (io (Lin.c (Con.lin c))), (lo Cf.enc (Lin.ts (Con.lin c)))]), some (.cells [(so []), (.d (.list []))])]) (by kernel_rfl) (by kernel_rfl) (by kernel_rfl)) ?_
    refine CG.tidy (Tidy.nilS 3 1 (tm' := [(1, (.ptr 0 18 0)), (2, (.ptr 1 2 0)), (3, .sl 2 0 0 0 1), (4, (io 0)), (13, (lo Ty.enc (Con.gs c))), (14, (no (List.length (List.map Ty.enc (Con.gs c))))), (15, (io 0))]) (Nat.le_refl _) (by kernel_rfl) (by kernel_rfl)) ?_
    show CG _ _ _ _ _ _ ([some (.cells [(io (Con.k c)), (.d (Con.s c)), (so (Ty.elem (Con.ta c))), (so (Ty.row (Con.ta c))), (lo Lin.enc (Ty.dims (Con.ta c))), (so (Ty.elem (Con.tb c))), (so (Ty.row (Con.tb c))), (lo Lin.enc (Ty.dims (Con.tb c))), (lo Ty.enc (Con.gs c)), (lo Ty.enc (Con.ws c)), (so (Ty.elem (Con.r c))), (so (Ty.row (Con.r c))), (lo Lin.enc (Ty.dims (Con.r c))), (so (Ty.elem (Con.x c))), (so (Ty.row (Con.x c))), (lo Lin.enc (Ty.dims (Con.x c))), (io (Lin.c (Con.lin c))), (lo Cf.enc (Lin.ts (Con.lin c)))]), some (.cells [(so []), (.d (.list []))]), some .nil]) _
    show CG _ _ _ _ _ ([(1, (.ptr 0 18 0)), (2, (.ptr 1 2 0)), (3, .sl 2 (List.length ([] : List Bool) * 1) 0 (List.length ([] : List Bool)) 1), (4, (io 0)), (13, (lo Ty.enc (Con.gs c))), (14, (no (List.length (List.map Ty.enc (Con.gs c))))), (15, (io 0))]) ([some (.cells [(io (Con.k c)), (.d (Con.s c)), (so (Ty.elem (Con.ta c))), (so (Ty.row (Con.ta c))), (lo Lin.enc (Ty.dims (Con.ta c))), (so (Ty.elem (Con.tb c))), (so (Ty.row (Con.tb c))), (lo Lin.enc (Ty.dims (Con.tb c))), (lo Ty.enc (Con.gs c)), (lo Ty.enc (Con.ws c)), (so (Ty.elem (Con.r c))), (so (Ty.row (Con.r c))), (lo Lin.enc (Ty.dims (Con.r c))), (so (Ty.elem (Con.x c))), (so (Ty.row (Con.x c))), (lo Lin.enc (Ty.dims (Con.x c))), (io (Lin.c (Con.lin c))), (lo Cf.enc (Lin.ts (Con.lin c)))]), some (.cells [(so []), (.d (.list []))]), some (rowE encB ([] : List Bool))]) _
    refine CG.loopL c.gs (fun i a => [(1, (.ptr 0 18 0)), (2, (.ptr 1 2 0)), (3, .sl 2 (a.2.length * 1) 0 a.2.length 1), (4, (io 0)), (13, (lo Ty.enc (Con.gs c))), (14, (no (List.length (List.map Ty.enc (Con.gs c))))), (15, .d (.int .i64 (.ofNat i)))]) (fun i a => [some (.cells [(io (Con.k c)), (.d (Con.s c)), (so (Ty.elem (Con.ta c))), (so (Ty.row (Con.ta c))), (lo Lin.enc (Ty.dims (Con.ta c))), (so (Ty.elem (Con.tb c))), (so (Ty.row (Con.tb c))), (lo Lin.enc (Ty.dims (Con.tb c))), (lo Ty.enc (Con.gs c)), (lo Ty.enc (Con.ws c)), (so (Ty.elem (Con.r c))), (so (Ty.row (Con.r c))), (lo Lin.enc (Ty.dims (Con.r c))), (so (Ty.elem (Con.x c))), (so (Ty.row (Con.x c))), (lo Lin.enc (Ty.dims (Con.x c))), (io (Lin.c (Con.lin c))), (lo Cf.enc (Lin.ts (Con.lin c)))]), some (.cells [.d (.str []), .d (.list (a.1.map Lin.enc))]), some (rowE encB a.2)]) (fun i a r => (frmV (frm [] [] c.gs c.ws) = frmV (frm a.1 a.2 r (c.ws.drop i)) ∧ a.2.length = i)) (([], []) : List Lin × List Bool) ?_ (Tidy.refl _ _) ?_ ?_
    · exact ⟨rfl, rfl⟩
    · rintro i ⟨cur, bs⟩ hi hd ⟨hinv, hbs⟩
      dsimp only at hinv hbs ⊢
      have hR : frmV (frm [] [] c.gs c.ws) = outF cur bs 0 := by
        rw [hinv]; simp [frm, frmV]
      rw [hR]
      refine s1 hW 4 0 [] 95 [(16, (bo (iLt (Int.ofNat i) (Int.ofNat (List.length (List.map Ty.enc (Con.gs c)))))))] rfl (by kernel_rfl) ?_
      refine CG.condF (show (iLt (Int.ofNat i) (Int.ofNat (List.length (List.map Ty.enc (Con.gs c))))) = false from f_lt (by (try simp only [zz] at *) <;> omega)) (by kernel_rfl) ?_
      refine CG.exitL (by decide) ?_
      refine s1 hW 5 0 [] 14 [] rfl (by kernel_rfl) ?_
      rotate_left
      refine CG.tidy (Tidy.frzE (sz := 1) encB bs 2 3 (tm' := [(2, (.ptr 1 2 0)), (3, (.d (.list (List.map encB bs)))), (4, (io 0))]) (H' := [some (.cells [(io (Con.k c)), (.d (Con.s c)), (so (Ty.elem (Con.ta c))), (so (Ty.row (Con.ta c))), (lo Lin.enc (Ty.dims (Con.ta c))), (so (Ty.elem (Con.tb c))), (so (Ty.row (Con.tb c))), (lo Lin.enc (Ty.dims (Con.tb c))), (lo Ty.enc (Con.gs c)), (lo Ty.enc (Con.ws c)), (so (Ty.elem (Con.r c))), (so (Ty.row (Con.r c))), (lo Lin.enc (Ty.dims (Con.r c))), (so (Ty.elem (Con.x c))), (so (Ty.row (Con.x c))), (lo Lin.enc (Ty.dims (Con.x c))), (io (Lin.c (Con.lin c))), (lo Cf.enc (Lin.ts (Con.lin c)))]), some (.cells [(so []), (lo Lin.enc cur)]), none]) (fun _ => rfl) (by kernel_rfl) (by kernel_rfl) ⟨.inr rfl, ⟨.inr rfl, ⟨.inl rfl, trivial⟩⟩⟩ (by kernel_rfl) (by kernel_rfl)) ?_
      refine CG.ret (v' := (.tuple [(.agg [(so []), (lo Lin.enc cur)]), (lo encB bs), (io 0)])) (by kernel_rfl) ?_
      rfl
    · rintro i ⟨cur, bs⟩ x r hd hx hlt ⟨hinv, hbs⟩
      dsimp only at hinv hbs ⊢
      have hfl := hf.len
      have hfe := hf.le
      obtain ⟨y, hy⟩ : ∃ y, c.ws[i]? = some y := ⟨_, List.getElem?_eq_getElem (by omega)⟩
      have hxg := List.mem_of_getElem? hx
      obtain ⟨hx1, hx2, hx3, hx4⟩ := hs.g x hxg
      obtain ⟨hy1, hy2, hy3, hy4⟩ := hs.w y (List.mem_of_getElem? hy)
      obtain ⟨hm1, hm2⟩ := hm x hxg
      have hrow := hf.row x hxg
      have hshp := hf.shp x hxg
      rw [drop_at hy] at hinv
      obtain ⟨xe, xr, xd⟩ := x
      simp only at hx1 hx2 hx3 hx4 hm1 hm2 hrow hshp
      subst hrow
      refine s1 hW 4 0 [] 127 [(16, (bo (iLt (Int.ofNat i) (Int.ofNat (List.length (List.map Ty.enc (Con.gs c)))))))] rfl (by kernel_rfl) ?_
      refine CG.condT (show (iLt (Int.ofNat i) (Int.ofNat (List.length (List.map Ty.enc (Con.gs c))))) = true from t_lt (by (try simp only [zz] at *) <;> omega)) (by kernel_rfl) ?_
      refine s1 hW 5 1 [] 127 [(17, (no i))] rfl (by kernel_rfl) ?_
      refine CG.ix (idx_map (enc := Ty.enc) hx) rfl (by kernel_rfl) ?_
      refine s4 hW 3 0 [] 127 [(5, (no i)), (6, (.ptr 3 3 0))] [(3, (.cells [(so (Ty.elem { elem := xe, row := [], dims := xd })), (so []), (lo Lin.enc (Ty.dims { elem := xe, row := [], dims := xd }))]))] rfl (by kernel_rfl) ?_
      refine CG.isH ([some (.cells [(io (Con.k c)), (.d (Con.s c)), (so (Ty.elem (Con.ta c))), (so (Ty.row (Con.ta c))), (lo Lin.enc (Ty.dims (Con.ta c))), (so (Ty.elem (Con.tb c))), (so (Ty.row (Con.tb c))), (lo Lin.enc (Ty.dims (Con.tb c))), (lo Ty.enc (Con.gs c)), (lo Ty.enc (Con.ws c)), (so (Ty.elem (Con.r c))), (so (Ty.row (Con.r c))), (lo Lin.enc (Ty.dims (Con.r c))), (so (Ty.elem (Con.x c))), (so (Ty.row (Con.x c))), (lo Lin.enc (Ty.dims (Con.x c))), (io (Lin.c (Con.lin c))), (lo Cf.enc (Lin.ts (Con.lin c)))]), some (.cells [(so []), (lo Lin.enc cur)]), some (rowE encB bs), some (.cells [(so (Ty.elem { elem := xe, row := [], dims := xd })), (so []), (lo Lin.enc (Ty.dims { elem := xe, row := [], dims := xd }))])]) (by kernel_rfl) ?_
      refine CG.drawA orders (by kernel_rfl) (by simp [heapLt, boxLt_row, boxLt_cell, boxLt_cs, boxLt_nil, refsLtL, refsLt]) ?_
      refine AO.rd 7 [(20, (.ptr 3 3 1)), (21, (.ptr 3 3 2)), (22, (lo Lin.enc (Ty.dims { elem := xe, row := [], dims := xd }))), (23, (no (List.length (List.map Lin.enc (Ty.dims { elem := xe, row := [], dims := xd }))))), (24, (.ptr 0 18 9)), (25, (lo Ty.enc (Con.ws c))), (26, (no i))] (by kernel_rfl) ?_
      refine AO.idx (idx_map (enc := Ty.enc) hy) rfl (by kernel_rfl) (by kernel_rfl) (by kernel_rfl) rfl ?_
      refine AO.rd 6 [(7, (io (IntKind.wrap IntKind.i64 (Int.ofNat (List.length (List.map Lin.enc (Ty.dims { elem := xe, row := [], dims := xd }))) - Int.ofNat (List.length (List.map Lin.enc (Ty.dims y))))))), (28, (.cptr [(.str (Ty.row y)), (.list (List.map Lin.enc (Ty.dims y)))])), (29, (.cptr [(.list (List.map Lin.enc (Ty.dims y)))])), (30, (lo Lin.enc (Ty.dims y))), (31, (no (List.length (List.map Lin.enc (Ty.dims y))))), (32, (io (IntKind.wrap IntKind.i64 (Int.ofNat (List.length (List.map Lin.enc (Ty.dims { elem := xe, row := [], dims := xd }))) - Int.ofNat (List.length (List.map Lin.enc (Ty.dims y)))))))] (by kernel_rfl) ?_
      refine AO.done [1, 2, 3, 4, 5, 6, 7, 13, 14, 15] rfl rfl (by kernel_rfl) ?_
      refine s1 hW 3 3 [] 1023 [(35, (bo (iLt (IntKind.wrap IntKind.i64 (Int.ofNat (List.length (List.map Lin.enc (Ty.dims { elem := xe, row := [], dims := xd }))) - Int.ofNat (List.length (List.map Lin.enc (Ty.dims y))))) 0)))] rfl (by kernel_rfl) ?_
      rw [show IntKind.wrap .i64 (Int.ofNat (List.length (List.map Lin.enc (Ty.dims ⟨xe, [], xd⟩))) - Int.ofNat (List.length (List.map Lin.enc (Ty.dims y)))) = Int.ofNat xd.length - Int.ofNat y.dims.length from by rw [IntKind.wrap_i64, List.length_map, List.length_map]; simp only [Int.ofNat_eq_natCast]; omega]
      by_cases hn : xd.length < y.dims.length
      · have q38 : (iLt (Int.ofNat (List.length xd) - Int.ofNat (List.length (Ty.dims y))) 0) = true := t_lt (by (try simp only [zz] at *) <;> omega)
        rw [q38]
        refine s4 hW 6 0 [true] 1011 [(3, .nils), (4, (io 13))] [(1, (.cells [(so []), .nils]))] rfl (by kernel_rfl) ?_
        refine CG.retL (v' := (.tuple [(.agg [(so []), (.d (.list []))]), (.d (.list [])), (io 13)])) (by kernel_rfl) ?_
        rotate_left
        rw [hinv, frm_short hn]; rfl
      · obtain ⟨m, hm0⟩ : ∃ m, m + y.dims.length = xd.length := ⟨xd.length - y.dims.length, by omega⟩
        rw [show Int.ofNat xd.length - Int.ofNat y.dims.length = Int.ofNat m from by simp only [Int.ofNat_eq_natCast]; omega]
        rw [frm_cons hm0] at hinv
        have hsp : PC P (gl W) 50 [.agg [.d (.str []), .d (.list (xd.map Lin.enc))], .d (.int .i64 (.ofNat (List.length (List.map Lin.enc y.dims))))]
            (.tuple [.agg [.d (.str []), .d (.list ((xd.take m).map Lin.enc))], .agg [.d (.str []), .d (.list ((xd.drop m).map Lin.enc))], .d (.int .i64 0)]) := by
          have := pc_split hW [] xd y.dims.length hshp (by omega) (by simp) hm1 hx4 hm2
          rw [show xd.length - y.dims.length = m by omega] at this
          rw [List.length_map]; exact this
        refine s1 hW 0 3 [] 2047 [(38, (bo (iLt 0 (Int.ofNat m))))] rfl (by kernel_rfl) ?_
        refine spLtN 0 m (fun q42 p42 => ?_) (fun q42 p42 => ?_)
        have q43 : (iLt 0 (Int.ofNat m)) = true := t_lt (by (try simp only [zz] at *) <;> omega)
        rw [q43]
        refine s1 hW 0 6 [] 2047 [(44, (bo (iLt 0 (Int.ofNat (List.length (List.map Lin.enc cur))))))] rfl (by kernel_rfl) ?_
        refine spLtN 0 (List.length (List.map Lin.enc cur)) (fun q45 p45 => ?_) (fun q45 p45 => ?_) <;> simp only [zz] at p45
        have q46 : (iLt 0 (Int.ofNat (List.length (List.map Lin.enc cur)))) = true := t_lt (by (try simp only [zz] at *) <;> omega)
        rw [q46]
        refine s1 hW 2 0 [] 1023 [(51, (bo (!iEq (Int.ofNat m) (Int.ofNat (List.length (List.map Lin.enc cur))))))] rfl (by kernel_rfl) ?_
        refine spEqN m (List.length (List.map Lin.enc cur)) (fun q48 p48 => ?_) (fun q48 p48 => ?_) <;> simp only [zz] at p48
        refine CG.condF (b := (!iEq (Int.ofNat m) (Int.ofNat (List.length (List.map Lin.enc cur))))) (by rw [q48]; rfl) (by kernel_rfl) ?_
        refine s1 hW 4 3 [] 1023 [(55, (bo (iLt 0 (Int.ofNat m))))] rfl (by kernel_rfl) ?_
        rw [q43]
        refine s1 hW 2 0 [] 1023 [(60, (bo (iEq (Int.ofNat (List.length (List.map Lin.enc cur))) 0)))] rfl (by kernel_rfl) ?_
        refine CG.condF (show (iEq (Int.ofNat (List.length (List.map Lin.enc cur))) 0) = false from f_eq (by (try simp only [zz] at *) <;> omega)) (by kernel_rfl) ?_
        refine s1 hW 2 4 [] 911 [(76, (.sl 2 (List.length bs * 1) 0 (List.length bs) 1)), (79, (.d (.list [[(.bool (iLt 0 (Int.ofNat m)))]])))] rfl (by kernel_rfl) ?_
        refine CG.apE encB bs ((iLt 0 (Int.ofNat m)) :: []) 2 (fun _ => rfl) rfl (by kernel_rfl) (by kernel_rfl) (by (try simp only [zz] at *) <;> omega) ?_
        refine s3 hW 3 2 [] [(1, (.ptr 0 18 0)), (2, (.ptr 1 2 0)), (3, (.sl 2 (List.length (bs ++ [iLt 0 (Int.ofNat m)]) * 1) 0 (List.length (bs ++ [iLt 0 (Int.ofNat m)])) 1)), (4, (io 0)), (13, (lo Ty.enc (Con.gs c))), (14, (no (List.length (List.map Ty.enc (Con.gs c))))), (15, (io (wrapF IntKind.i64 (iAdd (Int.ofNat i) 1))))] ([some (.cells [(io (Con.k c)), (.d (Con.s c)), (so (Ty.elem (Con.ta c))), (so (Ty.row (Con.ta c))), (lo Lin.enc (Ty.dims (Con.ta c))), (so (Ty.elem (Con.tb c))), (so (Ty.row (Con.tb c))), (lo Lin.enc (Ty.dims (Con.tb c))), (lo Ty.enc (Con.gs c)), (lo Ty.enc (Con.ws c)), (so (Ty.elem (Con.r c))), (so (Ty.row (Con.r c))), (lo Lin.enc (Ty.dims (Con.r c))), (so (Ty.elem (Con.x c))), (so (Ty.row (Con.x c))), (lo Lin.enc (Ty.dims (Con.x c))), (io (Lin.c (Con.lin c))), (lo Cf.enc (Lin.ts (Con.lin c)))]), some (.cells [(so []), (lo Lin.enc cur)]), some (rowE encB (bs ++ [iLt 0 (Int.ofNat m)])), some (.cells [(so (Ty.elem { elem := xe, row := [], dims := xd })), (so []), (lo Lin.enc (Ty.dims { elem := xe, row := [], dims := xd }))])]) rfl (by kernel_rfl) ?_
        refine CG.endL rfl ?_
        rw [wrapI (by omega)]
        rotate_left
        refine CG.condT (b := (!iEq (Int.ofNat m) (Int.ofNat (List.length (List.map Lin.enc cur))))) (by rw [q48]; rfl) (by kernel_rfl) ?_
        refine s4 hW 3 0 [] 1011 [(3, .nils), (4, (io 13))] [(1, (.cells [(so []), .nils]))] rfl (by kernel_rfl) ?_
        refine CG.retL (v' := (.tuple [(.agg [(so []), (.d (.list []))]), (.d (.list [])), (io 13)])) (by kernel_rfl) ?_
        rotate_left
        have q49 : (iLt 0 (Int.ofNat (List.length (List.map Lin.enc cur)))) = false := f_lt (by (try simp only [zz] at *) <;> omega)
        rw [q49]
        refine s1 hW 7 3 [false] 1023 [(55, (bo (iLt 0 (Int.ofNat m))))] rfl (by kernel_rfl) ?_
        rw [q43]
        refine s1 hW 2 0 [] 1023 [(60, (bo (iEq (Int.ofNat (List.length (List.map Lin.enc cur))) 0)))] rfl (by kernel_rfl) ?_
        refine CG.condT (show (iEq (Int.ofNat (List.length (List.map Lin.enc cur))) 0) = true from t_eq (by (try simp only [zz] at *) <;> omega)) (by kernel_rfl) ?_
        refine CG.drawW orders (by kernel_rfl) ?_
        refine AW.rk 5 [(62, (.ptr 3 3 1)), (63, (.agg [(so []), (lo Lin.enc (Ty.dims { elem := xe, row := [], dims := xd }))])), (64, (.ptr 0 18 9)), (65, (lo Ty.enc (Con.ws c))), (66, (no i))] [] (by kernel_rfl) ?_
        refine AW.idx (idx_map (enc := Ty.enc) hy) rfl (by kernel_rfl) (by kernel_rfl) (by kernel_rfl) rfl ?_
        refine AW.rk 4 [(68, (.cptr [(.str (Ty.row y)), (.list (List.map Lin.enc (Ty.dims y)))])), (69, (.cptr [(.list (List.map Lin.enc (Ty.dims y)))])), (70, (lo Lin.enc (Ty.dims y))), (71, (no (List.length (List.map Lin.enc (Ty.dims y)))))] [] (by kernel_rfl) ?_
        refine AW.pcG hsp rfl (by kernel_rfl) (by kernel_rfl) ?_
        refine AW.rk 5 [(61, (.tuple [(.agg [(so []), (lo Lin.enc (List.take m xd))]), (.agg [(so []), (lo Lin.enc (List.drop m xd))]), (io 0)])), (73, (.agg [(so []), (lo Lin.enc (List.take m xd))])), (74, (.agg [(so []), (lo Lin.enc (List.drop m xd))])), (75, (io 0))] [(1, (.cells [(so []), (lo Lin.enc (List.take m xd))]))] (by kernel_rfl) ?_
        refine AW.nil rfl ⟨by kernel_rfl, AW.fin (H2 := [some (.cells [(io (Con.k c)), (.d (Con.s c)), (so (Ty.elem (Con.ta c))), (so (Ty.row (Con.ta c))), (lo Lin.enc (Ty.dims (Con.ta c))), (so (Ty.elem (Con.tb c))), (so (Ty.row (Con.tb c))), (lo Lin.enc (Ty.dims (Con.tb c))), (lo Ty.enc (Con.gs c)), (lo Ty.enc (Con.ws c)), (so (Ty.elem (Con.r c))), (so (Ty.row (Con.r c))), (lo Lin.enc (Ty.dims (Con.r c))), (so (Ty.elem (Con.x c))), (so (Ty.row (Con.x c))), (lo Lin.enc (Ty.dims (Con.x c))), (io (Lin.c (Con.lin c))), (lo Cf.enc (Lin.ts (Con.lin c)))]), some (.cells [(so []), (lo Lin.enc (List.take m xd))]), some (rowE encB bs), some (.cells [(so (Ty.elem { elem := xe, row := [], dims := xd })), (so []), (lo Lin.enc (Ty.dims { elem := xe, row := [], dims := xd }))])]) 4 [1, 2, 3, 4, 7, 13, 14, 15] (by kernel_rfl) rfl (by kernel_rfl) (by kernel_rfl) (by simp [nn, heapLt, boxLt_row, boxLt_cell, boxLt_cs, boxLt_nil, refsLtL, refsLt]) ?_⟩
        refine s1 hW 1 4 [] 239 [(76, (.sl 2 (List.length bs * 1) 0 (List.length bs) 1)), (79, (.d (.list [[(.bool (iLt 0 (Int.ofNat m)))]])))] rfl (by kernel_rfl) ?_
        refine CG.apE encB bs ((iLt 0 (Int.ofNat m)) :: []) 2 (fun _ => rfl) rfl (by kernel_rfl) (by kernel_rfl) (by (try simp only [zz] at *) <;> omega) ?_
        refine s3 hW 3 2 [] [(1, (.ptr 0 18 0)), (2, (.ptr 1 2 0)), (3, (.sl 2 (List.length (bs ++ [iLt 0 (Int.ofNat m)]) * 1) 0 (List.length (bs ++ [iLt 0 (Int.ofNat m)])) 1)), (4, (io 0)), (13, (lo Ty.enc (Con.gs c))), (14, (no (List.length (List.map Ty.enc (Con.gs c))))), (15, (io (wrapF IntKind.i64 (iAdd (Int.ofNat i) 1))))] ([some (.cells [(io (Con.k c)), (.d (Con.s c)), (so (Ty.elem (Con.ta c))), (so (Ty.row (Con.ta c))), (lo Lin.enc (Ty.dims (Con.ta c))), (so (Ty.elem (Con.tb c))), (so (Ty.row (Con.tb c))), (lo Lin.enc (Ty.dims (Con.tb c))), (lo Ty.enc (Con.gs c)), (lo Ty.enc (Con.ws c)), (so (Ty.elem (Con.r c))), (so (Ty.row (Con.r c))), (lo Lin.enc (Ty.dims (Con.r c))), (so (Ty.elem (Con.x c))), (so (Ty.row (Con.x c))), (lo Lin.enc (Ty.dims (Con.x c))), (io (Lin.c (Con.lin c))), (lo Cf.enc (Lin.ts (Con.lin c)))]), some (.cells [(so []), (lo Lin.enc (List.take m xd))]), some (rowE encB (bs ++ [iLt 0 (Int.ofNat m)])), some (.cells [(so (Ty.elem { elem := xe, row := [], dims := xd })), (so []), (lo Lin.enc (Ty.dims { elem := xe, row := [], dims := xd }))])]) rfl (by kernel_rfl) ?_
        refine CG.endL rfl ?_
        rw [wrapI (by omega)]
        rotate_left
        have q50 : (iLt 0 (Int.ofNat m)) = false := f_lt (by (try simp only [zz] at *) <;> omega)
        rw [q50]
        refine s1 hW 7 3 [false] 1023 [(55, (bo (iLt 0 (Int.ofNat m))))] rfl (by kernel_rfl) ?_
        rw [q50]
        refine s1 hW 5 4 [false] 911 [(76, (.sl 2 (List.length bs * 1) 0 (List.length bs) 1)), (79, (.d (.list [[(.bool (iLt 0 (Int.ofNat m)))]])))] rfl (by kernel_rfl) ?_
        refine CG.apE encB bs ((iLt 0 (Int.ofNat m)) :: []) 2 (fun _ => rfl) rfl (by kernel_rfl) (by kernel_rfl) (by (try simp only [zz] at *) <;> omega) ?_
        refine s3 hW 3 2 [] [(1, (.ptr 0 18 0)), (2, (.ptr 1 2 0)), (3, (.sl 2 (List.length (bs ++ [iLt 0 (Int.ofNat m)]) * 1) 0 (List.length (bs ++ [iLt 0 (Int.ofNat m)])) 1)), (4, (io 0)), (13, (lo Ty.enc (Con.gs c))), (14, (no (List.length (List.map Ty.enc (Con.gs c))))), (15, (io (wrapF IntKind.i64 (iAdd (Int.ofNat i) 1))))] ([some (.cells [(io (Con.k c)), (.d (Con.s c)), (so (Ty.elem (Con.ta c))), (so (Ty.row (Con.ta c))), (lo Lin.enc (Ty.dims (Con.ta c))), (so (Ty.elem (Con.tb c))), (so (Ty.row (Con.tb c))), (lo Lin.enc (Ty.dims (Con.tb c))), (lo Ty.enc (Con.gs c)), (lo Ty.enc (Con.ws c)), (so (Ty.elem (Con.r c))), (so (Ty.row (Con.r c))), (lo Lin.enc (Ty.dims (Con.r c))), (so (Ty.elem (Con.x c))), (so (Ty.row (Con.x c))), (lo Lin.enc (Ty.dims (Con.x c))), (io (Lin.c (Con.lin c))), (lo Cf.enc (Lin.ts (Con.lin c)))]), some (.cells [(so []), (lo Lin.enc cur)]), some (rowE encB (bs ++ [iLt 0 (Int.ofNat m)])), some (.cells [(so (Ty.elem { elem := xe, row := [], dims := xd })), (so []), (lo Lin.enc (Ty.dims { elem := xe, row := [], dims := xd }))])]) rfl (by kernel_rfl) ?_
        refine CG.endL rfl ?_
        rw [wrapI (by omega)]
        rotate_left
        all_goals first
          | (rw [hinv, if_pos (by omega)]; rfl)
          | (refine ⟨(_, bs ++ [iLt 0 (Int.ofNat m)]), ⟨?_, by simp [hbs]⟩, Tidy.trim 3 [1, 2, 3, 4, 13, 14, 15] rfl rfl rfl rfl (by simp only [heapLt, boxLt_row]; rfl)⟩
             rw [hinv, if_neg (by omega), if_neg (by omega)])
          | (refine ⟨(_, bs ++ [iLt 0 (Int.ofNat m)]), ⟨?_, by simp [hbs]⟩, Tidy.trim 3 [1, 2, 3, 4, 13, 14, 15] rfl rfl rfl rfl (by simp only [heapLt, boxLt_row]; rfl)⟩
             rw [hinv, if_neg (by omega), if_pos (by omega)])
  · rw [frameF, show knownB c = false by assumption]; rfl
end Fw.Tz.Fg

/-
  Frames, by the reference.
-/
set_option linter.unusedSimpArgs false
set_option maxRecDepth 1000000
set_option maxHeartbeats 4000000
namespace Fw.Tz.Fh
open Go Go.Proofs Fw.X Fw.Tz Fw.Nu Fw.Tz.Na Fw.Tz.El Fw.Tz.Va Fw.Tz.Vb Fw.Tz.Vc Fw.Tz.Vd Fw.Tz.Vf Fw.Tz.Fg
variable {W : World}
noncomputable def rk (W : World) (n : Nat) (c : IR) (ks : List Nat) (tm : List (Nat × V)) (H : Heap) : Option XR :=
  runP [61] (gl W) (callX W kt0 .e (rawX W kt0 .e 40)) (pcallX kt0 .e (rawX W kt0 .e 40)) n c ks tm H
noncomputable def rd (W : World) (ov : List (Nat × Bool)) (sp : List (Nat × V)) (n : Nat) (l : List IOper) (ks : List Nat) (tm : List (Nat × V)) (H : Heap) : Option (List V × Heap × List (Bool × Bool) × CallL) :=
  runDX [61] (gl W) (dcallOf (pcallX kt0 .e (rawX W kt0 .e 40)) (callX W kt0 .e (rawX W kt0 .e 40))) ov sp n l ks tm H
theorem dg (hW : W0 W) (ov : List (Nat × Bool)) (sp : List (Nat × V)) {n : Nat} {l : List IOper} {K : List Fr} {tm tm' : List (Nat × V)} {H H' : Heap} {cs : List (Bool × Bool)} {calls : CallL} {Q : Ex → St → Prop}
    (h : rd W ov sp n l (tm'.map Prod.fst) tm H = some (tm'.map Prod.snd, H', cs, calls)) (hcs : allEq cs) (hcl : allPC P (gl W) calls) (hq : CG P (gl W) (.out .normal) K n tm' H' Q) : CG P (gl W) (.code (.draw l)) K n tm H Q :=
  CG.drawX orders (dcallOf_ok (pcallX_ok hW (ex0) _ (rawX_ok hW (ex0) 40)) (callX_ok hW (ex0) _ (rawX_ok hW (ex0) 40))) ov sp h hcs hcl hq
noncomputable def rg (W : World) (n : Nat) (N j : Nat) (bs : List Bool) (cur : Cur) (K : List Fr) (ks : List Nat) (tm : List (Nat × V)) (H : Heap) : Option XR :=
  runG [61] (gl W) (callX W kt0 .e (rawX W kt0 .e 40)) (pcallX kt0 .e (rawX W kt0 .e 40)) n N j bs cur K ks tm H
theorem s2 (hW : W0 W) (N j : Nat) (bs : List Bool) (m : Nat) (nw : List (Nat × V)) (H' : Heap) {cur c' : Cur} {K K' : List Fr} {n : Nat} {tm : List (Nat × V)} {H : Heap} {Q : Ex → St → Prop} (h1 : ctlJ N j bs cur K = some (c', K')) (h2 : rg W n N j bs cur K ((upd m nw tm).map Prod.fst) tm H = some (.tuple ((upd m nw tm).map Prod.snd), H')) (hq : CG P (gl W) c' K' n (upd m nw tm) H' Q) : CG P (gl W) cur K n tm H Q :=
  CG.st orders (callX_ok hW (ex0) _ (rawX_ok hW (ex0) 40)) (pcallX_ok hW (ex0) _ (rawX_ok hW (ex0) 40)) N j bs h1 h2 hq
theorem s1 (hW : W0 W) (N j : Nat) (bs : List Bool) (m : Nat) (nw : List (Nat × V)) {cur c' : Cur} {K K' : List Fr} {n : Nat} {tm : List (Nat × V)} {H : Heap} {Q : Ex → St → Prop} (h1 : ctlJ N j bs cur K = some (c', K')) (h2 : rg W n N j bs cur K ((upd m nw tm).map Prod.fst) tm H = some (.tuple ((upd m nw tm).map Prod.snd), H)) (hq : CG P (gl W) c' K' n (upd m nw tm) H Q) : CG P (gl W) cur K n tm H Q := s2 hW N j bs m nw H h1 h2 hq
theorem s4 (hW : W0 W) (N j : Nat) (bs : List Bool) (m : Nat) (nw : List (Nat × V)) (hd : List (Nat × Box)) {cur c' : Cur} {K K' : List Fr} {n : Nat} {tm : List (Nat × V)} {H : Heap} {Q : Ex → St → Prop} (h1 : ctlJ N j bs cur K = some (c', K')) (h2 : rg W n N j bs cur K ((upd m nw tm).map Prod.fst) tm H = some (.tuple ((upd m nw tm).map Prod.snd), hpu hd H)) (hq : CG P (gl W) c' K' n (upd m nw tm) (hpu hd H) Q) : CG P (gl W) cur K n tm H Q := s2 hW N j bs m nw (hpu hd H) h1 h2 hq
theorem s3 (hW : W0 W) (N j : Nat) (bs : List Bool) (tm' : List (Nat × V)) (H' : Heap) {cur c' : Cur} {K K' : List Fr} {n : Nat} {tm : List (Nat × V)} {H : Heap} {Q : Ex → St → Prop} (h1 : ctlJ N j bs cur K = some (c', K')) (h2 : rg W n N j bs cur K (tm'.map Prod.fst) tm H = some (.tuple (tm'.map Prod.snd), H')) (hq : CG P (gl W) c' K' n tm' H' Q) : CG P (gl W) cur K n tm H Q :=
  CG.st orders (callX_ok hW (ex0) _ (rawX_ok hW (ex0) 40)) (pcallX_ok hW (ex0) _ (rawX_ok hW (ex0) 40)) N j bs h1 h2 hq
theorem pc_frameR (hW : W0 W) (c : Con) (hs : Con.sm c) (hm : ∀ t ∈ c.gs, t.dims.length < 1073741824 ∧ ∀ x ∈ t.dims, x.ts.length < 1073741824) : PC P (gl W) 15 [.agg (Con.cells c)] (frameF c) := by
  refine CG.start is15 ca15 rfl ?_
  refine s4 hW 5 1 [] 0 [(1, (.ptr 0 18 0)), (2, (.ptr 1 2 0)), (3, .nils), (4, (io 0)), (10, (.agg [(io (Con.k c)), (.d (Con.s c)), (so (Ty.elem (Con.ta c))), (so (Ty.row (Con.ta c))), (lo Lin.enc (Ty.dims (Con.ta c))), (so (Ty.elem (Con.tb c))), (so (Ty.row (Con.tb c))), (lo Lin.enc (Ty.dims (Con.tb c))), (lo Ty.enc (Con.gs c)), (lo Ty.enc (Con.ws c)), (so (Ty.elem (Con.r c))), (so (Ty.row (Con.r c))), (lo Lin.enc (Ty.dims (Con.r c))), (so (Ty.elem (Con.x c))), (so (Ty.row (Con.x c))), (lo Lin.enc (Ty.dims (Con.x c))), (io (Lin.c (Con.lin c))), (lo Cf.enc (Lin.ts (Con.lin c)))]))] [(0, (.cells [(io (Con.k c)), (.d (Con.s c)), (so (Ty.elem (Con.ta c))), (so (Ty.row (Con.ta c))), (lo Lin.enc (Ty.dims (Con.ta c))), (so (Ty.elem (Con.tb c))), (so (Ty.row (Con.tb c))), (lo Lin.enc (Ty.dims (Con.tb c))), (lo Ty.enc (Con.gs c)), (lo Ty.enc (Con.ws c)), (so (Ty.elem (Con.r c))), (so (Ty.row (Con.r c))), (lo Lin.enc (Ty.dims (Con.r c))), (so (Ty.elem (Con.x c))), (so (Ty.row (Con.x c))), (lo Lin.enc (Ty.dims (Con.x c))), (io (Lin.c (Con.lin c))), (lo Cf.enc (Lin.ts (Con.lin c)))])), (1, (.cells [(so []), .nils]))] rfl (by kernel_rfl) ?_
  refine CG.pg (pc_rowR hW c hs) rfl (by kernel_rfl) ?_
  refine s1 hW 2 0 [] 15 [(12, (bo (!knownB c)))] rfl (by kernel_rfl) ?_
  refine sp (knownB c) (fun q6 => ?_) (fun q6 => ?_)
  refine CG.condF (b := (!knownB c)) (by rw [q6]; rfl) (by kernel_rfl) ?_
  refine s4 hW 16 0 [] 15 [(5, (.ptr 2 2 0)), (6, .nils), (7, (io 0)), (8, (io 0))] [(2, (.cells [(so []), .nils]))] rfl (by kernel_rfl) ?_
  rotate_left
  refine CG.condT (b := (!knownB c)) (by rw [q6]; rfl) (by kernel_rfl) ?_
  refine s1 hW 3 0 [] 7 [(4, (io 1))] rfl (by kernel_rfl) ?_
  refine CG.ret (v' := (.tuple [(.agg [(so []), (.d (.list []))]), (.d (.list [])), (io 1)])) (by kernel_rfl) ?_
  rotate_left
  · have hk : knownB c = true := by assumption
    have hf := fit_of hk
    have hR : frameF c = frmV (frm [] [] c.gs c.ws) := by rw [frameF, hk]; rfl
    rw [hR]
    refine CG.tidy (Tidy.nilCD 2 1 (cs := [(so []), .nils]) (H' := [some (.cells [(io (Con.k c)), (.d (Con.s c)), (so (Ty.elem (Con.ta c))), (so (Ty.row (Con.ta c))), (lo Lin.enc (Ty.dims (Con.ta c))), (so (Ty.elem (Con.tb c))), (so (Ty.row (Con.tb c))), (lo Lin.enc (Ty.dims (Con.tb c))), (lo Ty.enc (Con.gs c)), (lo Ty.enc (Con.ws c)), (so (Ty.elem (Con.r c))), (so (Ty.row (Con.r c))), (lo Lin.enc (Ty.dims (Con.r c))), (so (Ty.elem (Con.x c))), (so (Ty.row (Con.x c))), (lo Lin.enc (Ty.dims (Con.x c))), (io (Lin.c (Con.lin c))), (lo Cf.enc (Lin.ts (Con.lin c)))]), some (.cells [(so []), .nils]), some (.cells [(so []), (.d (.list []))])]) (by kernel_rfl) (by kernel_rfl) (by kernel_rfl)) ?_
    refine CG.tidy (Tidy.nilS 6 1 (tm' := [(1, (.ptr 0 18 0)), (2, (.ptr 1 2 0)), (3, .nils), (4, (io 0)), (5, (.ptr 2 2 0)), (6, .sl 3 0 0 0 1), (7, (io 0)), (8, (io 0))]) (Nat.le_refl _) (by kernel_rfl) (by kernel_rfl)) ?_
    refine CG.isH ([some (.cells [(io (Con.k c)), (.d (Con.s c)), (so (Ty.elem (Con.ta c))), (so (Ty.row (Con.ta c))), (lo Lin.enc (Ty.dims (Con.ta c))), (so (Ty.elem (Con.tb c))), (so (Ty.row (Con.tb c))), (lo Lin.enc (Ty.dims (Con.tb c))), (lo Ty.enc (Con.gs c)), (lo Ty.enc (Con.ws c)), (so (Ty.elem (Con.r c))), (so (Ty.row (Con.r c))), (lo Lin.enc (Ty.dims (Con.r c))), (so (Ty.elem (Con.x c))), (so (Ty.row (Con.x c))), (lo Lin.enc (Ty.dims (Con.x c))), (io (Lin.c (Con.lin c))), (lo Cf.enc (Lin.ts (Con.lin c)))]), some (.cells [(so []), .nils]), some (.cells [(so []), (.d (.list []))]), some .nil]) (by kernel_rfl) ?_
    refine CG.is [(1, (.ptr 0 18 0)), (2, (.ptr 1 2 0)), (3, .nils), (4, (io 0)), (5, (.ptr 2 2 0)), (6, .sl 3 (List.length ([] : List Bool) * 1) 0 (List.length ([] : List Bool)) 1), (7, (io 0)), (8, (io 0))] ([some (.cells [(io (Con.k c)), (.d (Con.s c)), (so (Ty.elem (Con.ta c))), (so (Ty.row (Con.ta c))), (lo Lin.enc (Ty.dims (Con.ta c))), (so (Ty.elem (Con.tb c))), (so (Ty.row (Con.tb c))), (lo Lin.enc (Ty.dims (Con.tb c))), (lo Ty.enc (Con.gs c)), (lo Ty.enc (Con.ws c)), (so (Ty.elem (Con.r c))), (so (Ty.row (Con.r c))), (lo Lin.enc (Ty.dims (Con.r c))), (so (Ty.elem (Con.x c))), (so (Ty.row (Con.x c))), (lo Lin.enc (Ty.dims (Con.x c))), (io (Lin.c (Con.lin c))), (lo Cf.enc (Lin.ts (Con.lin c)))]), some (.cells [(so []), .nils]), some (.cells [(so []), (.d (.list []))]), some (rowE encB ([] : List Bool))]) (by kernel_rfl) ?_
    refine CG.loopL c.gs (fun i a => [(1, (.ptr 0 18 0)), (2, (.ptr 1 2 0)), (3, .nils), (4, (io 0)), (5, (.ptr 2 2 0)), (6, .sl 3 (a.2.1.length * 1) 0 a.2.1.length 1), (7, .d (.int .i64 (.ofNat a.2.2))), (8, .d (.int .i64 (.ofNat i)))]) (fun i a => [some (.cells [(io (Con.k c)), (.d (Con.s c)), (so (Ty.elem (Con.ta c))), (so (Ty.row (Con.ta c))), (lo Lin.enc (Ty.dims (Con.ta c))), (so (Ty.elem (Con.tb c))), (so (Ty.row (Con.tb c))), (lo Lin.enc (Ty.dims (Con.tb c))), (lo Ty.enc (Con.gs c)), (lo Ty.enc (Con.ws c)), (so (Ty.elem (Con.r c))), (so (Ty.row (Con.r c))), (lo Lin.enc (Ty.dims (Con.r c))), (so (Ty.elem (Con.x c))), (so (Ty.row (Con.x c))), (lo Lin.enc (Ty.dims (Con.x c))), (io (Lin.c (Con.lin c))), (lo Cf.enc (Lin.ts (Con.lin c)))]), some (.cells [(so []), .nils]), some (.cells [.d (.str []), .d (.list (a.1.map Lin.enc))]), some (rowE encB a.2.1)]) (fun i a r => (frmV (frm [] [] c.gs c.ws) = frmV (frm a.1 a.2.1 r (c.ws.drop i)) ∧ a.2.1.length = i ∧ a.2.2 = a.1.length)) (([], [], 0) : List Lin × List Bool × Nat) ?_ (Tidy.refl _ _) ?_ ?_
    · exact ⟨rfl, rfl, rfl⟩
    · rintro i ⟨cur, bs, rk⟩ hi hd ⟨hinv, hbs, hrk⟩
      dsimp only at hinv hbs hrk ⊢
      have hR : frmV (frm [] [] c.gs c.ws) = outF cur bs 0 := by
        rw [hinv]; simp [frm, frmV]
      rw [hR]
      refine s1 hW 4 0 [] 255 [(18, (bo (iLt (Int.ofNat i) (Int.ofNat (List.length (List.map Ty.enc (Con.gs c)))))))] rfl (by kernel_rfl) ?_
      refine CG.condF (show (iLt (Int.ofNat i) (Int.ofNat (List.length (List.map Ty.enc (Con.gs c))))) = false from f_lt (by (try simp only [zz] at *) <;> omega)) (by kernel_rfl) ?_
      refine CG.exitL (by decide) ?_
      refine s4 hW 5 0 [] 10 [(3, (.sl 3 (List.length bs * 1) 0 (List.length bs) 1))] [(1, (.cells [(so []), (lo Lin.enc cur)]))] rfl (by kernel_rfl) ?_
      rotate_left
      refine CG.tidy (Tidy.frzE (sz := 1) encB bs 3 3 (tm' := [(2, (.ptr 1 2 0)), (3, (.d (.list (List.map encB bs)))), (4, (io 0))]) (H' := [some (.cells [(io (Con.k c)), (.d (Con.s c)), (so (Ty.elem (Con.ta c))), (so (Ty.row (Con.ta c))), (lo Lin.enc (Ty.dims (Con.ta c))), (so (Ty.elem (Con.tb c))), (so (Ty.row (Con.tb c))), (lo Lin.enc (Ty.dims (Con.tb c))), (lo Ty.enc (Con.gs c)), (lo Ty.enc (Con.ws c)), (so (Ty.elem (Con.r c))), (so (Ty.row (Con.r c))), (lo Lin.enc (Ty.dims (Con.r c))), (so (Ty.elem (Con.x c))), (so (Ty.row (Con.x c))), (lo Lin.enc (Ty.dims (Con.x c))), (io (Lin.c (Con.lin c))), (lo Cf.enc (Lin.ts (Con.lin c)))]), some (.cells [(so []), (lo Lin.enc cur)]), some (.cells [(so []), (lo Lin.enc cur)]), none]) (fun _ => rfl) (by kernel_rfl) (by kernel_rfl) ⟨.inr rfl, ⟨.inr rfl, ⟨.inr rfl, ⟨.inl rfl, trivial⟩⟩⟩⟩ (by kernel_rfl) (by kernel_rfl)) ?_
      refine CG.ret (v' := (.tuple [(.agg [(so []), (lo Lin.enc cur)]), (lo encB bs), (io 0)])) (by kernel_rfl) ?_
      rfl
    · rintro i ⟨cur, bs, rk⟩ x r hd hx hlt ⟨hinv, hbs, hrk⟩
      dsimp only at hinv hbs hrk ⊢
      have hfl := hf.len
      have hfe := hf.le
      obtain ⟨y, hy⟩ : ∃ y, c.ws[i]? = some y := ⟨_, List.getElem?_eq_getElem (by omega)⟩
      have hxg := List.mem_of_getElem? hx
      obtain ⟨hx1, hx2, hx3, hx4⟩ := hs.g x hxg
      obtain ⟨hy1, hy2, hy3, hy4⟩ := hs.w y (List.mem_of_getElem? hy)
      obtain ⟨hm1, hm2⟩ := hm x hxg
      rw [drop_at hy] at hinv
      subst hrk
      refine s1 hW 4 0 [] 255 [(18, (bo (iLt (Int.ofNat i) (Int.ofNat (List.length (List.map Ty.enc (Con.gs c)))))))] rfl (by kernel_rfl) ?_
      refine CG.condT (show (iLt (Int.ofNat i) (Int.ofNat (List.length (List.map Ty.enc (Con.gs c))))) = true from t_lt (by (try simp only [zz] at *) <;> omega)) (by kernel_rfl) ?_
      refine s1 hW 5 0 [] 255 [] rfl (by kernel_rfl) ?_
      refine CG.drawA orders (by kernel_rfl) (by simp [heapLt, boxLt_row, boxLt_cell, boxLt_cs, boxLt_nil, refsLtL, refsLt]) ?_
      refine AO.rd 3 [(21, (.ptr 0 18 8)), (22, (lo Ty.enc (Con.gs c))), (23, (no i))] (by kernel_rfl) ?_
      refine AO.idx (idx_map (enc := Ty.enc) hx) rfl (by kernel_rfl) (by kernel_rfl) (by kernel_rfl) rfl ?_
      refine AO.rd 7 [(25, (.cptr [(.str (Ty.row x)), (.list (List.map Lin.enc (Ty.dims x)))])), (26, (.cptr [(.list (List.map Lin.enc (Ty.dims x)))])), (27, (lo Lin.enc (Ty.dims x))), (28, (no (List.length (List.map Lin.enc (Ty.dims x))))), (29, (.ptr 0 18 9)), (30, (lo Ty.enc (Con.ws c))), (31, (no i))] (by kernel_rfl) ?_
      refine AO.idx (idx_map (enc := Ty.enc) hy) rfl (by kernel_rfl) (by kernel_rfl) (by kernel_rfl) rfl ?_
      refine AO.rd 6 [(9, (io (IntKind.wrap IntKind.i64 (Int.ofNat (List.length (List.map Lin.enc (Ty.dims x))) - Int.ofNat (List.length (List.map Lin.enc (Ty.dims y))))))), (33, (.cptr [(.str (Ty.row y)), (.list (List.map Lin.enc (Ty.dims y)))])), (34, (.cptr [(.list (List.map Lin.enc (Ty.dims y)))])), (35, (lo Lin.enc (Ty.dims y))), (36, (no (List.length (List.map Lin.enc (Ty.dims y))))), (37, (io (IntKind.wrap IntKind.i64 (Int.ofNat (List.length (List.map Lin.enc (Ty.dims x))) - Int.ofNat (List.length (List.map Lin.enc (Ty.dims y)))))))] (by kernel_rfl) ?_
      refine AO.done [1, 2, 3, 4, 5, 6, 7, 8, 9] rfl rfl (by kernel_rfl) ?_
      refine s1 hW 3 3 [] 511 [(40, (bo (iLt (IntKind.wrap IntKind.i64 (Int.ofNat (List.length (List.map Lin.enc (Ty.dims x))) - Int.ofNat (List.length (List.map Lin.enc (Ty.dims y))))) 0)))] rfl (by kernel_rfl) ?_
      rw [show IntKind.wrap .i64 (Int.ofNat (List.length (List.map Lin.enc (Ty.dims x))) - Int.ofNat (List.length (List.map Lin.enc (Ty.dims y)))) = Int.ofNat x.dims.length - Int.ofNat y.dims.length from by rw [IntKind.wrap_i64, List.length_map, List.length_map]; simp only [Int.ofNat_eq_natCast]; omega]
      by_cases hn : x.dims.length < y.dims.length
      · have q36 : (iLt (Int.ofNat (List.length (Ty.dims x)) - Int.ofNat (List.length (Ty.dims y))) 0) = true := t_lt (by (try simp only [zz] at *) <;> omega)
        rw [q36]
        refine s1 hW 6 0 [true] 503 [(4, (io 13))] rfl (by kernel_rfl) ?_
        refine CG.retL (v' := (.tuple [(.agg [(so []), (.d (.list []))]), (.d (.list [])), (io 13)])) (by kernel_rfl) ?_
        rotate_left
        rw [hinv, frm_short hn]; rfl
      · obtain ⟨m, hm0⟩ : ∃ m, m + y.dims.length = x.dims.length := ⟨x.dims.length - y.dims.length, by omega⟩
        rw [show Int.ofNat x.dims.length - Int.ofNat y.dims.length = Int.ofNat m from by simp only [Int.ofNat_eq_natCast]; omega]
        rw [frm_cons hm0] at hinv
        refine s1 hW 0 3 [] 1023 [(43, (bo (iLt 0 (Int.ofNat m))))] rfl (by kernel_rfl) ?_
        refine spLtN 0 m (fun q39 p39 => ?_) (fun q39 p39 => ?_)
        have q40 : (iLt 0 (Int.ofNat m)) = true := t_lt (by (try simp only [zz] at *) <;> omega)
        rw [q40]
        refine s1 hW 0 4 [] 1023 [(47, (bo (iLt 0 (Int.ofNat (List.length cur)))))] rfl (by kernel_rfl) ?_
        refine spLtN 0 (List.length cur) (fun q42 p42 => ?_) (fun q42 p42 => ?_)
        have q43 : (iLt 0 (Int.ofNat (List.length cur))) = true := t_lt (by (try simp only [zz] at *) <;> omega)
        rw [q43]
        refine s1 hW 2 0 [] 511 [(52, (bo (!iEq (Int.ofNat m) (Int.ofNat (List.length cur)))))] rfl (by kernel_rfl) ?_
        refine spEqN m (List.length cur) (fun q45 p45 => ?_) (fun q45 p45 => ?_)
        refine CG.condF (b := (!iEq (Int.ofNat m) (Int.ofNat (List.length cur)))) (by rw [q45]; rfl) (by kernel_rfl) ?_
        refine s1 hW 4 3 [] 511 [(56, (bo (iLt 0 (Int.ofNat m))))] rfl (by kernel_rfl) ?_
        rw [q40]
        refine s1 hW 2 0 [] 511 [(59, (bo (iEq (Int.ofNat (List.length cur)) 0)))] rfl (by kernel_rfl) ?_
        refine CG.condF (show (iEq (Int.ofNat (List.length cur)) 0) = false from f_eq (by (try simp only [zz] at *) <;> omega)) (by kernel_rfl) ?_
        refine s1 hW 2 4 [] 255 [(73, (.sl 3 (List.length bs * 1) 0 (List.length bs) 1)), (76, (.d (.list [[(.bool (iLt 0 (Int.ofNat m)))]])))] rfl (by kernel_rfl) ?_
        refine CG.apE encB bs ((iLt 0 (Int.ofNat m)) :: []) 3 (fun _ => rfl) rfl (by kernel_rfl) (by kernel_rfl) (by (try simp only [zz] at *) <;> omega) ?_
        refine s3 hW 3 3 [] [(1, (.ptr 0 18 0)), (2, (.ptr 1 2 0)), (3, .nils), (4, (io 0)), (5, (.ptr 2 2 0)), (6, (.sl 3 (List.length (bs ++ [iLt 0 (Int.ofNat m)]) * 1) 0 (List.length (bs ++ [iLt 0 (Int.ofNat m)])) 1)), (7, (no (List.length cur))), (8, (io (wrapF IntKind.i64 (iAdd (Int.ofNat i) 1))))] ([some (.cells [(io (Con.k c)), (.d (Con.s c)), (so (Ty.elem (Con.ta c))), (so (Ty.row (Con.ta c))), (lo Lin.enc (Ty.dims (Con.ta c))), (so (Ty.elem (Con.tb c))), (so (Ty.row (Con.tb c))), (lo Lin.enc (Ty.dims (Con.tb c))), (lo Ty.enc (Con.gs c)), (lo Ty.enc (Con.ws c)), (so (Ty.elem (Con.r c))), (so (Ty.row (Con.r c))), (lo Lin.enc (Ty.dims (Con.r c))), (so (Ty.elem (Con.x c))), (so (Ty.row (Con.x c))), (lo Lin.enc (Ty.dims (Con.x c))), (io (Lin.c (Con.lin c))), (lo Cf.enc (Lin.ts (Con.lin c)))]), some (.cells [(so []), .nils]), some (.cells [(so []), (lo Lin.enc cur)]), some (rowE encB (bs ++ [iLt 0 (Int.ofNat m)]))]) rfl (by kernel_rfl) ?_
        refine CG.endL rfl ?_
        rw [wrapI (by omega)]
        rotate_left
        refine CG.condT (b := (!iEq (Int.ofNat m) (Int.ofNat (List.length cur)))) (by rw [q45]; rfl) (by kernel_rfl) ?_
        refine s1 hW 3 0 [] 503 [(4, (io 13))] rfl (by kernel_rfl) ?_
        refine CG.retL (v' := (.tuple [(.agg [(so []), (.d (.list []))]), (.d (.list [])), (io 13)])) (by kernel_rfl) ?_
        rotate_left
        have q46 : (iLt 0 (Int.ofNat (List.length cur))) = false := f_lt (by (try simp only [zz] at *) <;> omega)
        rw [q46]
        refine s1 hW 7 3 [false] 511 [(56, (bo (iLt 0 (Int.ofNat m))))] rfl (by kernel_rfl) ?_
        rw [q40]
        refine s1 hW 2 0 [] 511 [(59, (bo (iEq (Int.ofNat (List.length cur)) 0)))] rfl (by kernel_rfl) ?_
        refine CG.condT (show (iEq (Int.ofNat (List.length cur)) 0) = true from t_eq (by (try simp only [zz] at *) <;> omega)) (by kernel_rfl) ?_
        refine s4 hW 3 4 [] 447 [(7, (no m)), (61, (.sl 4 0 0 0 2)), (63, (lo Ty.enc (Con.gs c))), (64, (no i))] [(4, (.cells []))] rfl (by kernel_rfl) ?_
        refine CG.ix (idx_map (enc := Ty.enc) hx) rfl (by kernel_rfl) ?_
        refine s1 hW 0 4 [] 1023 [(68, (lo Lin.enc (Ty.dims x))), (69, (no m))] rfl (by kernel_rfl) ?_
        refine CG.lsl Lin.enc (Ty.dims x) 0 m (fun _ => rfl) rfl (by kernel_rfl) (by kernel_rfl) (by kernel_rfl) (by kernel_rfl) (by (try simp only [zz] at *) <;> omega) rfl ?_
        rotate_left
        have q47 : (iLt 0 (Int.ofNat m)) = false := f_lt (by (try simp only [zz] at *) <;> omega)
        rw [q47]
        refine s1 hW 7 3 [false] 511 [(56, (bo (iLt 0 (Int.ofNat m))))] rfl (by kernel_rfl) ?_
        rw [q47]
        refine s1 hW 5 4 [false] 255 [(73, (.sl 3 (List.length bs * 1) 0 (List.length bs) 1)), (76, (.d (.list [[(.bool (iLt 0 (Int.ofNat m)))]])))] rfl (by kernel_rfl) ?_
        refine CG.apE encB bs ((iLt 0 (Int.ofNat m)) :: []) 3 (fun _ => rfl) rfl (by kernel_rfl) (by kernel_rfl) (by (try simp only [zz] at *) <;> omega) ?_
        refine s3 hW 3 3 [] [(1, (.ptr 0 18 0)), (2, (.ptr 1 2 0)), (3, .nils), (4, (io 0)), (5, (.ptr 2 2 0)), (6, (.sl 3 (List.length (bs ++ [iLt 0 (Int.ofNat m)]) * 1) 0 (List.length (bs ++ [iLt 0 (Int.ofNat m)])) 1)), (7, (no (List.length cur))), (8, (io (wrapF IntKind.i64 (iAdd (Int.ofNat i) 1))))] ([some (.cells [(io (Con.k c)), (.d (Con.s c)), (so (Ty.elem (Con.ta c))), (so (Ty.row (Con.ta c))), (lo Lin.enc (Ty.dims (Con.ta c))), (so (Ty.elem (Con.tb c))), (so (Ty.row (Con.tb c))), (lo Lin.enc (Ty.dims (Con.tb c))), (lo Ty.enc (Con.gs c)), (lo Ty.enc (Con.ws c)), (so (Ty.elem (Con.r c))), (so (Ty.row (Con.r c))), (lo Lin.enc (Ty.dims (Con.r c))), (so (Ty.elem (Con.x c))), (so (Ty.row (Con.x c))), (lo Lin.enc (Ty.dims (Con.x c))), (io (Lin.c (Con.lin c))), (lo Cf.enc (Lin.ts (Con.lin c)))]), some (.cells [(so []), .nils]), some (.cells [(so []), (lo Lin.enc cur)]), some (rowE encB (bs ++ [iLt 0 (Int.ofNat m)]))]) rfl (by kernel_rfl) ?_
        refine CG.endL rfl ?_
        rw [wrapI (by omega)]
        rotate_left
        · refine ⟨(cur, bs ++ [iLt 0 (Int.ofNat m)], cur.length), ⟨?_, by simp [hbs], rfl⟩, Tidy.refl _ _⟩
          rw [hinv, if_neg (by omega), if_neg (by omega)]
        · rw [hinv, if_pos (by omega)]; rfl
        · refine CG.is [(1, (.ptr 0 18 0)), (2, (.ptr 1 2 0)), (3, .nils), (4, (io 0)), (5, (.ptr 2 2 0)), (6, (.sl 3 (List.length bs * 1) 0 (List.length bs) 1)), (7, (no m)), (8, (no i)), (9, (no m)), (61, .sl 4 (List.length ([] : List Lin) * 2) 0 (List.length ([] : List Lin)) 2), (68, (lo Lin.enc (Ty.dims x))), (69, (no m)), (70, (lo Lin.enc (List.drop 0 (List.take m (Ty.dims x)))))] ([some (.cells [(io (Con.k c)), (.d (Con.s c)), (so (Ty.elem (Con.ta c))), (so (Ty.row (Con.ta c))), (lo Lin.enc (Ty.dims (Con.ta c))), (so (Ty.elem (Con.tb c))), (so (Ty.row (Con.tb c))), (lo Lin.enc (Ty.dims (Con.tb c))), (lo Ty.enc (Con.gs c)), (lo Ty.enc (Con.ws c)), (so (Ty.elem (Con.r c))), (so (Ty.row (Con.r c))), (lo Lin.enc (Ty.dims (Con.r c))), (so (Ty.elem (Con.x c))), (so (Ty.row (Con.x c))), (lo Lin.enc (Ty.dims (Con.x c))), (io (Lin.c (Con.lin c))), (lo Cf.enc (Lin.ts (Con.lin c)))]), some (.cells [(so []), .nils]), some (.cells [(so []), (lo Lin.enc cur)]), some (rowE encB bs), some (cellE Lin.enc ([] : List Lin))]) (by kernel_rfl) ?_
          refine CG.apC Lin.enc [] (List.drop 0 (List.take m (Ty.dims x))) 4 (fun _ => rfl) rfl (by kernel_rfl) (sliceC_map (enc := Lin.enc) (fun _ => rfl) _ (List.drop 0 (List.take m (Ty.dims x)))) (by (try simp only [zz] at *) <;> omega) ?_
          refine CG.tidyO (Tidy.frzC (sz := 2) Lin.enc ([] ++ List.drop 0 (List.take m (Ty.dims x))) 4 71 (tm' := [(1, (.ptr 0 18 0)), (2, (.ptr 1 2 0)), (3, .nils), (4, (io 0)), (5, (.ptr 2 2 0)), (6, (.sl 3 (List.length bs * 1) 0 (List.length bs) 1)), (7, (no m)), (8, (no i)), (9, (no m)), (61, .any), (68, (lo Lin.enc (Ty.dims x))), (69, (no m)), (70, (lo Lin.enc (List.drop 0 (List.take m (Ty.dims x))))), (71, (.d (.list (List.map Lin.enc ([] ++ List.drop 0 (List.take m (Ty.dims x)))))))]) (H' := [some (.cells [(io (Con.k c)), (.d (Con.s c)), (so (Ty.elem (Con.ta c))), (so (Ty.row (Con.ta c))), (lo Lin.enc (Ty.dims (Con.ta c))), (so (Ty.elem (Con.tb c))), (so (Ty.row (Con.tb c))), (lo Lin.enc (Ty.dims (Con.tb c))), (lo Ty.enc (Con.gs c)), (lo Ty.enc (Con.ws c)), (so (Ty.elem (Con.r c))), (so (Ty.row (Con.r c))), (lo Lin.enc (Ty.dims (Con.r c))), (so (Ty.elem (Con.x c))), (so (Ty.row (Con.x c))), (lo Lin.enc (Ty.dims (Con.x c))), (io (Lin.c (Con.lin c))), (lo Cf.enc (Lin.ts (Con.lin c)))]), some (.cells [(so []), .nils]), some (.cells [(so []), (lo Lin.enc cur)]), some (rowE encB bs), none]) (fun _ => rfl) (by kernel_rfl) (by kernel_rfl) ⟨.inr rfl, ⟨.inr rfl, ⟨.inr rfl, ⟨.inr (noref_row _ _ _), ⟨.inl rfl, trivial⟩⟩⟩⟩⟩ (by kernel_rfl) (by kernel_rfl)) ?_
          refine s4 hW 2 4 [] 255 [(73, (.sl 3 (List.length bs * 1) 0 (List.length bs) 1)), (76, (.d (.list [[(.bool (iLt 0 (Int.ofNat m)))]])))] [(2, (.cells [(so []), (lo Lin.enc ([] ++ List.drop 0 (List.take m (Ty.dims x))))]))] rfl (by kernel_rfl) ?_
          refine CG.apE encB bs ((iLt 0 (Int.ofNat m)) :: []) 3 (fun _ => rfl) rfl (by kernel_rfl) (by kernel_rfl) (by (try simp only [zz] at *) <;> omega) ?_
          refine s3 hW 3 3 [] [(1, (.ptr 0 18 0)), (2, (.ptr 1 2 0)), (3, .nils), (4, (io 0)), (5, (.ptr 2 2 0)), (6, (.sl 3 (List.length (bs ++ [iLt 0 (Int.ofNat m)]) * 1) 0 (List.length (bs ++ [iLt 0 (Int.ofNat m)])) 1)), (7, (no m)), (8, (io (wrapF IntKind.i64 (iAdd (Int.ofNat i) 1))))] ([some (.cells [(io (Con.k c)), (.d (Con.s c)), (so (Ty.elem (Con.ta c))), (so (Ty.row (Con.ta c))), (lo Lin.enc (Ty.dims (Con.ta c))), (so (Ty.elem (Con.tb c))), (so (Ty.row (Con.tb c))), (lo Lin.enc (Ty.dims (Con.tb c))), (lo Ty.enc (Con.gs c)), (lo Ty.enc (Con.ws c)), (so (Ty.elem (Con.r c))), (so (Ty.row (Con.r c))), (lo Lin.enc (Ty.dims (Con.r c))), (so (Ty.elem (Con.x c))), (so (Ty.row (Con.x c))), (lo Lin.enc (Ty.dims (Con.x c))), (io (Lin.c (Con.lin c))), (lo Cf.enc (Lin.ts (Con.lin c)))]), some (.cells [(so []), .nils]), some (.cells [(so []), (lo Lin.enc ([] ++ List.drop 0 (List.take m (Ty.dims x))))]), some (rowE encB (bs ++ [iLt 0 (Int.ofNat m)])), none]) rfl (by kernel_rfl) ?_
          refine CG.endL rfl ?_
          rw [wrapI (by omega)]
          rotate_left
          refine ⟨([] ++ List.drop 0 (List.take m x.dims), bs ++ [iLt 0 (Int.ofNat m)], m), ⟨?_, by simp [hbs], by simp; omega⟩, Tidy.trim 4 [1, 2, 3, 4, 5, 6, 7, 8] rfl rfl rfl rfl (by simp only [heapLt, boxLt_row]; rfl)⟩
          show frmV (frm [] [] c.gs c.ws) = frmV (frm (x.dims.take m) (bs ++ [iLt 0 (Int.ofNat m)]) r (List.drop (i + 1) c.ws))
          rw [hinv, if_neg (by omega), if_pos (by omega)]
        · refine ⟨(cur, bs ++ [iLt 0 (Int.ofNat m)], cur.length), ⟨?_, by simp [hbs], rfl⟩, Tidy.refl _ _⟩
          rw [hinv, if_neg (by omega), if_neg (by omega)]
  · rw [frameF, show knownB c = false by assumption]; rfl
end Fw.Tz.Fh

/-
  Small constraints are small enough.
-/
set_option linter.unusedSimpArgs false
set_option linter.unusedVariables false
namespace Fw.Tz
open Go Fw.Tz.Va Fw.Tz.Vb Fw.Tz.Vc Fw.Tz.Ve
theorem fewL_sm {x : Lin} (h : fewL x = true) : Lin.sm x ∧ x.ts.length < 1073741824 := by
  simp only [fewL, Bool.and_eq_true, List.all_eq_true, decide_eq_true_eq] at h
  refine ⟨⟨by omega, fun t ht => ?_⟩, by omega⟩
  have := h.1 t ht
  simp only [fewV, decide_eq_true_eq] at this
  omega
theorem fewS_sm {row : List UInt8} {dims : List Lin} (h : fewS row dims = true) : (row.length < 1099511627776 ∧ dims.length < 1099511627776 ∧ ∀ x ∈ dims, Lin.sm x) ∧ dims.length < 1073741824 ∧ ∀ x ∈ dims, x.ts.length < 1073741824 := by
  simp only [fewS, Bool.and_eq_true, List.all_eq_true, decide_eq_true_eq] at h
  exact ⟨⟨by omega, by omega, fun x hx => (fewL_sm (h.1.1 x hx)).1⟩, by omega, fun x hx => (fewL_sm (h.1.1 x hx)).2⟩
theorem fewT_sm {t : Ty} (h : fewT t = true) : Ty.sm t ∧ t.dims.length < 1073741824 ∧ ∀ x ∈ t.dims, x.ts.length < 1073741824 := by
  simp only [fewT, Bool.and_eq_true, decide_eq_true_eq] at h
  have := fewS_sm h.2
  exact ⟨⟨by omega, this.1⟩, this.2⟩
theorem fewC_all {c : Con} (h : fewC c = true) : (∀ t ∈ c.gs, fewT t = true) ∧ (∀ t ∈ c.ws, fewT t = true) ∧ c.gs.length ≤ 17 ∧ c.ws.length ≤ 17 ∧ fewT c.r = true ∧ fewT c.x = true ∧ fewT c.ta = true ∧ fewT c.tb = true ∧ fewL c.lin = true := by
  simp only [fewC, Bool.and_eq_true, decide_eq_true_eq] at h
  obtain ⟨⟨⟨⟨⟨⟨⟨⟨h1, h2⟩, h3⟩, h4⟩, h5⟩, h6⟩, h7⟩, h8⟩, h9⟩ := h
  rw [List.take_of_length_le (by omega)] at h1 h2
  rw [List.all_eq_true] at h1 h2
  simp only [fewS, Bool.and_eq_true, List.all_cons, List.all_nil] at h9
  exact ⟨h1, h2, h3, h4, h5, h6, h7, h8, h9.1.1.1⟩
theorem fewC_sm {c : Con} (h : fewC c = true) : Con.sm c ∧ (∀ t ∈ c.gs, t.dims.length < 1073741824 ∧ ∀ x ∈ t.dims, x.ts.length < 1073741824) ∧ (∀ t ∈ c.ws, t.dims.length < 1073741824 ∧ ∀ x ∈ t.dims, x.ts.length < 1073741824) := by
  obtain ⟨h1, h2, h3, h4, h5, h6, h7, h8, h9⟩ := fewC_all h
  exact ⟨⟨by omega, by omega, (fewT_sm h7).1, (fewT_sm h8).1, fun t ht => (fewT_sm (h1 t ht)).1, fun t ht => (fewT_sm (h2 t ht)).1, (fewT_sm h5).1, (fewT_sm h6).1⟩, fun t ht => (fewT_sm (h1 t ht)).2, fun t ht => (fewT_sm (h2 t ht)).2⟩
end Fw.Tz

/-
  AgreeFrame: the call returns true.
-/
set_option linter.unusedSimpArgs false
set_option maxRecDepth 1000000
set_option maxHeartbeats 4000000
namespace Fw.Tz.Lf
open Go Go.Proofs Fw.X Fw.Tz Fw.Nu Fw.Tz.Sd Fw.Tz.Na Fw.Tz.El Fw.Tz.Va Fw.Tz.Vb Fw.Tz.Vc Fw.Tz.Vd Fw.Tz.Ve Fw.Tz.Vf Fw.Tz.Eq Fw.Tz.Ew Fw.Tz.Fg
variable {W : World}
theorem frameF_cases (c : Con) (hs : Con.sm c) : ∃ cur bs e, frameF c = outF cur bs e ∧ cur.length < 1099511627776 ∧ (∀ x ∈ cur, x.ts.length < 1099511627776) ∧ bs.length < 1099511627776 := by
  unfold frameF
  cases hk : knownB c with
  | false => exact ⟨[], [], 1, rfl, by simp, by simp, by simp⟩
  | true =>
    rw [cond_true]
    cases h : frm [] [] c.gs c.ws with
    | none => exact ⟨[], [], 13, rfl, by simp, by simp, by simp⟩
    | some p =>
      obtain ⟨cur, bs⟩ := p
      obtain ⟨h1, h2⟩ := frm_len c.gs c.ws [] [] h
      have := (fit_of hk).le
      refine ⟨cur, bs, 0, rfl, ?_, ?_, by simp at h1; omega⟩
      · rcases h2 with rfl | ⟨g, hg, k, rfl⟩
        · simp
        · have := (hs.g g hg).2.2.1
          simp; omega
      · rcases h2 with rfl | ⟨g, hg, k, rfl⟩
        · simp
        · exact fun x hx => ((hs.g g hg).2.2.2 x (List.mem_of_mem_take hx)).1
theorem law_frame (hW : W0 W) (c : Con) (hs : Con.wd c) : PC P (gl W) 3 [.agg (Con.cells c)] (.d (.bool true)) := by
  refine CG.start is3 ca3 rfl ?_
  refine s4 hW 5 4 [] 0 [(1, (.ptr 0 18 0)), (2, (bo false)), (11, (bo false)), (12, (.agg [(io (Con.k c)), (.d (Con.s c)), (so (Ty.elem (Con.ta c))), (so (Ty.row (Con.ta c))), (lo Lin.enc (Ty.dims (Con.ta c))), (so (Ty.elem (Con.tb c))), (so (Ty.row (Con.tb c))), (lo Lin.enc (Ty.dims (Con.tb c))), (lo Ty.enc (Con.gs c)), (lo Ty.enc (Con.ws c)), (so (Ty.elem (Con.r c))), (so (Ty.row (Con.r c))), (lo Lin.enc (Ty.dims (Con.r c))), (so (Ty.elem (Con.x c))), (so (Ty.row (Con.x c))), (lo Lin.enc (Ty.dims (Con.x c))), (io (Lin.c (Con.lin c))), (lo Cf.enc (Lin.ts (Con.lin c)))]))] [(0, (.cells [(io (Con.k c)), (.d (Con.s c)), (so (Ty.elem (Con.ta c))), (so (Ty.row (Con.ta c))), (lo Lin.enc (Ty.dims (Con.ta c))), (so (Ty.elem (Con.tb c))), (so (Ty.row (Con.tb c))), (lo Lin.enc (Ty.dims (Con.tb c))), (lo Ty.enc (Con.gs c)), (lo Ty.enc (Con.ws c)), (so (Ty.elem (Con.r c))), (so (Ty.row (Con.r c))), (lo Lin.enc (Ty.dims (Con.r c))), (so (Ty.elem (Con.x c))), (so (Ty.row (Con.x c))), (lo Lin.enc (Ty.dims (Con.x c))), (io (Lin.c (Con.lin c))), (lo Cf.enc (Lin.ts (Con.lin c)))]))] rfl (by kernel_rfl) ?_
  refine CG.pg (pc_few hW c hs) rfl (by kernel_rfl) ?_
  refine s1 hW 2 0 [] 3 [(15, (bo (!fewC c)))] rfl (by kernel_rfl) ?_
  refine sp (fewC c) (fun q5 => ?_) (fun q5 => ?_)
  refine CG.condF (b := (!fewC c)) (by rw [q5]; rfl) (by kernel_rfl) ?_
  refine s1 hW 3 1 [] 3 [(18, (.agg [(io (Con.k c)), (.d (Con.s c)), (so (Ty.elem (Con.ta c))), (so (Ty.row (Con.ta c))), (lo Lin.enc (Ty.dims (Con.ta c))), (so (Ty.elem (Con.tb c))), (so (Ty.row (Con.tb c))), (lo Lin.enc (Ty.dims (Con.tb c))), (lo Ty.enc (Con.gs c)), (lo Ty.enc (Con.ws c)), (so (Ty.elem (Con.r c))), (so (Ty.row (Con.r c))), (lo Lin.enc (Ty.dims (Con.r c))), (so (Ty.elem (Con.x c))), (so (Ty.row (Con.x c))), (lo Lin.enc (Ty.dims (Con.x c))), (io (Lin.c (Con.lin c))), (lo Cf.enc (Lin.ts (Con.lin c)))]))] rfl (by kernel_rfl) ?_
  rotate_left
  refine CG.condT (b := (!fewC c)) (by rw [q5]; rfl) (by kernel_rfl) ?_
  refine s1 hW 3 0 [] 1 [(2, (bo true))] rfl (by kernel_rfl) ?_
  refine CG.ret (v' := (bo true)) (by kernel_rfl) ?_
  with_reducible rfl
  have hfew : fewC c = true := by assumption
  obtain ⟨hsm, hg, hw⟩ := fewC_sm hfew
  obtain ⟨cur, bs, e, hF, hf1, hf2, hf3⟩ := frameF_cases c hsm
  have h1 := pc_frame hW c hsm hg
  have h2 := Fw.Tz.Fh.pc_frameR hW c hsm hg
  rw [hF] at h1 h2
  unfold outF at h1 h2
  have hsh := pc_shR hW [] [] cur cur ⟨hf1, hf2⟩ ⟨hf1, hf2⟩
  rw [shEq_self] at hsh
  have hq1 : (conB c == conB c) = true := beq_self_eq_true _
  have hq2 : (knownB c == knownB c) = true := beq_self_eq_true _
  have hq3 : (e == e) = true := beq_self_eq_true _
  refine CG.pg (h1) rfl (by kernel_rfl) ?_
  refine s4 hW 3 1 [] 3 [(3, (.ptr 1 2 0)), (4, (lo encB bs)), (5, (io e)), (24, (.agg [(io (Con.k c)), (.d (Con.s c)), (so (Ty.elem (Con.ta c))), (so (Ty.row (Con.ta c))), (lo Lin.enc (Ty.dims (Con.ta c))), (so (Ty.elem (Con.tb c))), (so (Ty.row (Con.tb c))), (lo Lin.enc (Ty.dims (Con.tb c))), (lo Ty.enc (Con.gs c)), (lo Ty.enc (Con.ws c)), (so (Ty.elem (Con.r c))), (so (Ty.row (Con.r c))), (lo Lin.enc (Ty.dims (Con.r c))), (so (Ty.elem (Con.x c))), (so (Ty.row (Con.x c))), (lo Lin.enc (Ty.dims (Con.x c))), (io (Lin.c (Con.lin c))), (lo Cf.enc (Lin.ts (Con.lin c)))]))] [(1, (.cells [(so []), (lo Lin.enc cur)]))] rfl (by kernel_rfl) ?_
  refine CG.pg (h2) rfl (by kernel_rfl) ?_
  refine s4 hW 3 0 [] 31 [(6, (.ptr 2 2 0)), (7, (lo encB bs)), (8, (io e))] [(2, (.cells [(so []), (lo Lin.enc cur)]))] rfl (by kernel_rfl) ?_
  refine dg hW [(4, true), (10, true), (25, true)] [(1, (bo (conB c))), (3, (bo (conB c))), (7, (bo (knownB c))), (9, (bo (knownB c))), (15, (bo true)), (20, (bo true))] (tm' := [(2, (bo true))]) (H' := [some (.cells [(io (Con.k c)), (.d (Con.s c)), (so (Ty.elem (Con.ta c))), (so (Ty.row (Con.ta c))), (lo Lin.enc (Ty.dims (Con.ta c))), (so (Ty.elem (Con.tb c))), (so (Ty.row (Con.tb c))), (lo Lin.enc (Ty.dims (Con.tb c))), (lo Ty.enc (Con.gs c)), (lo Ty.enc (Con.ws c)), (so (Ty.elem (Con.r c))), (so (Ty.row (Con.r c))), (lo Lin.enc (Ty.dims (Con.r c))), (so (Ty.elem (Con.x c))), (so (Ty.row (Con.x c))), (lo Lin.enc (Ty.dims (Con.x c))), (io (Lin.c (Con.lin c))), (lo Cf.enc (Lin.ts (Con.lin c)))]), some (.cells [(so []), (lo Lin.enc cur)]), some (.cells [(so []), (lo Lin.enc cur)])] ++ nn 28 ([])) (cs := [((conB c == conB c), true), ((knownB c == knownB c), true), ((e == e), true)]) (calls := [(16, [(.agg [(io (Con.k c)), (.d (Con.s c)), (so (Ty.elem (Con.ta c))), (so (Ty.row (Con.ta c))), (lo Lin.enc (Ty.dims (Con.ta c))), (so (Ty.elem (Con.tb c))), (so (Ty.row (Con.tb c))), (lo Lin.enc (Ty.dims (Con.tb c))), (lo Ty.enc (Con.gs c)), (lo Ty.enc (Con.ws c)), (so (Ty.elem (Con.r c))), (so (Ty.row (Con.r c))), (lo Lin.enc (Ty.dims (Con.r c))), (so (Ty.elem (Con.x c))), (so (Ty.row (Con.x c))), (lo Lin.enc (Ty.dims (Con.x c))), (io (Lin.c (Con.lin c))), (lo Cf.enc (Lin.ts (Con.lin c)))])], (bo (conB c))), (17, [(.agg [(io (Con.k c)), (.d (Con.s c)), (so (Ty.elem (Con.ta c))), (so (Ty.row (Con.ta c))), (lo Lin.enc (Ty.dims (Con.ta c))), (so (Ty.elem (Con.tb c))), (so (Ty.row (Con.tb c))), (lo Lin.enc (Ty.dims (Con.tb c))), (lo Ty.enc (Con.gs c)), (lo Ty.enc (Con.ws c)), (so (Ty.elem (Con.r c))), (so (Ty.row (Con.r c))), (lo Lin.enc (Ty.dims (Con.r c))), (so (Ty.elem (Con.x c))), (so (Ty.row (Con.x c))), (lo Lin.enc (Ty.dims (Con.x c))), (io (Lin.c (Con.lin c))), (lo Cf.enc (Lin.ts (Con.lin c)))])], (bo (conB c))), (18, [(.agg [(io (Con.k c)), (.d (Con.s c)), (so (Ty.elem (Con.ta c))), (so (Ty.row (Con.ta c))), (lo Lin.enc (Ty.dims (Con.ta c))), (so (Ty.elem (Con.tb c))), (so (Ty.row (Con.tb c))), (lo Lin.enc (Ty.dims (Con.tb c))), (lo Ty.enc (Con.gs c)), (lo Ty.enc (Con.ws c)), (so (Ty.elem (Con.r c))), (so (Ty.row (Con.r c))), (lo Lin.enc (Ty.dims (Con.r c))), (so (Ty.elem (Con.x c))), (so (Ty.row (Con.x c))), (lo Lin.enc (Ty.dims (Con.x c))), (io (Lin.c (Con.lin c))), (lo Cf.enc (Lin.ts (Con.lin c)))])], (bo (knownB c))), (19, [(.agg [(io (Con.k c)), (.d (Con.s c)), (so (Ty.elem (Con.ta c))), (so (Ty.row (Con.ta c))), (lo Lin.enc (Ty.dims (Con.ta c))), (so (Ty.elem (Con.tb c))), (so (Ty.row (Con.tb c))), (lo Lin.enc (Ty.dims (Con.tb c))), (lo Ty.enc (Con.gs c)), (lo Ty.enc (Con.ws c)), (so (Ty.elem (Con.r c))), (so (Ty.row (Con.r c))), (lo Lin.enc (Ty.dims (Con.r c))), (so (Ty.elem (Con.x c))), (so (Ty.row (Con.x c))), (lo Lin.enc (Ty.dims (Con.x c))), (io (Lin.c (Con.lin c))), (lo Cf.enc (Lin.ts (Con.lin c)))])], (bo (knownB c))), (20, [(.agg [(so []), (lo Lin.enc cur)]), (.agg [(so []), (lo Lin.enc cur)])], (bo true)), (21, [(lo encB bs), (lo encB bs)], (bo true))]) (by kernel_rfl) ⟨hq1, ⟨hq2, ⟨hq3, trivial⟩⟩⟩ ⟨pc_con hW c hsm, ⟨pc_conR hW c hsm, ⟨pc_known hW c hsm, ⟨pc_rowR hW c hsm, ⟨hsh, ⟨pc_same_self hW _ hf3, trivial⟩⟩⟩⟩⟩⟩ ?_
  refine s1 hW 1 0 [] 1 [] rfl (by kernel_rfl) ?_
  refine CG.ret (v' := (bo true)) (by kernel_rfl) ?_
  with_reducible rfl
end Fw.Tz.Lf
