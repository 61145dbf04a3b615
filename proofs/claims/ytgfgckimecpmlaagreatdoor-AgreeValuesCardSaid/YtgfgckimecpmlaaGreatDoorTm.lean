/-
  Pairs, by the reference.
-/
import Derived.Test.YtgfgckimecpmlaaGreatDoorTl
import Derived.Test.YtgfgckimecpmlaaGreatDoorTd
import Derived.Test.YtgfgckimecpmlaaGreatDoorFg
import Derived.Test.YtgfgckimecpmlaaGreatDoorTe

set_option linter.unusedSimpArgs false
set_option maxRecDepth 1000000
set_option maxHeartbeats 4000000
namespace Fw.Tz.Pe
open Go Go.Proofs Fw.X Fw.Tz Fw.Nu Fw.Tz.Na Fw.Tz.El Fw.Tz.Va Fw.Tz.Vb Fw.Tz.Vc Fw.Tz.Vd Fw.Tz.Vf Fw.Tz.Vh Fw.Tz.Eq Fw.Tz.Ew Fw.Tz.Fg Fw.Tz.Pp Fw.Tz.Pa Fw.Tz.Pb Fw.Tz.Pc Fw.Tz.Pd
variable {W : World}
end Fw.Tz.Pe

/-
  Pairs, by the reference.
-/
namespace Fw.Tz.Pg
open Go Go.Proofs Fw.X Fw.Tz Fw.Nu Fw.Tz.Sd Fw.Tz.Na Fw.Tz.El Fw.Tz.Va Fw.Tz.Vb Fw.Tz.Vc Fw.Tz.Vd Fw.Tz.Vf Fw.Tz.Vh Fw.Tz.Eq Fw.Tz.Ew Fw.Tz.Fg Fw.Tz.Pp Fw.Tz.Pa Fw.Tz.Pb Fw.Tz.Pc Fw.Tz.Pd
variable {W : World}
end Fw.Tz.Pg

/-
  What holds, by both sides.
-/
namespace Fw.Tz.Ph
open Go Go.Proofs Fw.X Fw.Tz Fw.Nu Fw.Tz.Sd Fw.Tz.Na Fw.Tz.El Fw.Tz.Va Fw.Tz.Vb Fw.Tz.Vc Fw.Tz.Vd Fw.Tz.Vf Fw.Tz.Vh Fw.Tz.Eq Fw.Tz.Ew Fw.Tz.Fg Fw.Tz.Pp Fw.Tz.Pa Fw.Tz.Pb Fw.Tz.Pc Fw.Tz.Pd Fw.Tz.Pg
variable {W : World}
def okP (p : Ty × Ty) : Prop := okL p.1.dims ∧ okL p.2.dims
def okPs (l : List (Ty × Ty)) : Prop := l.length < 1048576 ∧ ∀ p ∈ l, okP p
theorem okL_of {l : List Lin} (h : okD l) : okL l := ⟨by have := h.1; omega, fun x hx => (h.2 x hx).1.1⟩
theorem okL_app {a b : List Lin} (h1 : okD a) (h2 : okD b) : okL (a ++ b) := ⟨by have := h1.1; have := h2.1; simp; omega, fun x hx => by
  rcases List.mem_append.1 hx with hx | hx
  · exact (h1.2 x hx).1.1
  · exact (h2.2 x hx).1.1⟩
theorem prs_ok (row : List UInt8) (dims : List Lin) (hd : okD dims) : ∀ (gs ws : List Ty) (bs : List Bool) (acc l : List (Ty × Ty)), prs row dims acc gs ws bs = some l → (∀ p ∈ acc, okP p) → (∀ g ∈ gs, okL g.dims) → (∀ w ∈ ws, okD w.dims) → l.length ≤ acc.length + gs.length ∧ ∀ p ∈ l, okP p
  | [], _, _, acc, l, h, ha, _, _ => by
    simp only [prs, Option.some.injEq] at h
    subst h
    exact ⟨by simp, ha⟩
  | _ :: _, [], _, acc, l, h, ha, _, _ => by
    simp only [prs, Option.some.injEq] at h
    subst h
    exact ⟨by simp, ha⟩
  | _ :: _, _ :: _, [], acc, l, h, ha, _, _ => by
    simp only [prs, Option.some.injEq] at h
    subst h
    exact ⟨by simp, ha⟩
  | g :: gs, w :: ws, b :: bs, acc, l, h, ha, hg, hw => by
    rw [prs] at h
    cases hl : liftB row dims w b with
    | none => rw [hl] at h; cases h
    | some t =>
      rw [hl] at h
      have ht : okP (g, t) := by
        refine ⟨hg g List.mem_cons_self, ?_⟩
        rcases lift_some hl with ⟨_, _, rfl⟩ | ⟨_, rfl⟩
        · exact okL_app hd (hw w List.mem_cons_self)
        · exact okL_of (hw t List.mem_cons_self)
      obtain ⟨h1, h2⟩ := prs_ok row dims hd gs ws bs _ l h (fun p hp => by
        rcases List.mem_append.1 hp with hp | hp
        · exact ha p hp
        · rw [List.mem_singleton.1 hp]; exact ht) (fun g hg' => hg g (List.mem_cons_of_mem _ hg')) (fun w hw' => hw w (List.mem_cons_of_mem _ hw'))
      exact ⟨by simp at h1 ⊢; omega, h2⟩
theorem pairs_ok {c : Con} {row : List UInt8} {dims : List Lin} {bs : List Bool} (hs : Okc c row dims bs) (hle : c.gs.length ≤ 16) {l : List (Ty × Ty)} (h : pairsO c row dims bs = some l) : okPs l := by
  obtain ⟨h1, h2⟩ := prs_ok row dims hs.dims _ _ _ [] l h (by simp) (fun g hg => by
    rcases List.mem_append.1 hg with hg | hg
    · have := hs.sm.g g hg
      exact ⟨this.2.2.1, fun x hx => (this.2.2.2 x hx).1⟩
    · rw [List.mem_singleton.1 hg]
      have := hs.sm.r
      exact ⟨this.2.2.1, fun x hx => (this.2.2.2 x hx).1⟩) (fun w hw => by
    rcases List.mem_append.1 hw with hw | hw
    · exact hs.ws w hw
    · rw [List.mem_singleton.1 hw]; exact hs.x)
  exact ⟨by simp at h1; omega, h2⟩
def neP (p : Ty × Ty) : Bool := !eqP p
theorem any_neP (l : List (Ty × Ty)) : (!l.any neP) = l.all eqP := by
  induction l with
  | nil => rfl
  | cons a l ih => simp only [List.any_cons, List.all_cons, neP, Bool.not_or, Bool.not_not, ← ih]
abbrev vP (p : Ty × Ty) : V := .agg [.d (.str p.1.elem), .d (.str p.1.row), .d (.list (p.1.dims.map Lin.enc)), .d (.str p.2.elem), .d (.str p.2.row), .d (.list (p.2.dims.map Lin.enc))]
theorem pc_neP (hW : W0 W) (p : Ty × Ty) (hp : okP p) : PC P (gl W) 67 [vP p] (.d (.bool (neP p))) := by
  refine CG.start is67 ca67 rfl ?_
  refine s4 hW 4 4 [] 0 [(2, (bo false)), (4, (.agg [(so (Ty.elem (Prod.fst p))), (so (Ty.row (Prod.fst p))), (lo Lin.enc (Ty.dims (Prod.fst p)))])), (6, (.agg [(so (Ty.elem (Prod.snd p))), (so (Ty.row (Prod.snd p))), (lo Lin.enc (Ty.dims (Prod.snd p)))]))] [(0, (.cells [(so (Ty.elem (Prod.fst p))), (so (Ty.row (Prod.fst p))), (lo Lin.enc (Ty.dims (Prod.fst p))), (so (Ty.elem (Prod.snd p))), (so (Ty.row (Prod.snd p))), (lo Lin.enc (Ty.dims (Prod.snd p)))]))] ?_
  refine CG.pg (pc_tyE hW p.1 p.2 hp.1) rfl (by kernel_rfl) ?_
  refine s1 hW 2 0 [] 0 [(2, (bo (!tyEq (Prod.fst p) (Prod.snd p))))] ?_
  refine CG.ret (v' := (bo (!tyEq (Prod.fst p) (Prod.snd p)))) (by kernel_rfl) ?_
  rfl
theorem pc_neIdx (hW : W0 W) (l : List (Ty × Ty)) (hl : okPs l) : PC P (gl W) 122 [.d (.list (l.map encP)), .func 67 [] []] (fiV (l.findIdx? neP)) := by
  refine CG.start is122 ca122 rfl ?_
  have hll := hl.1
  refine s1 hW 8 0 [] 3 [(4, (io 0)), (7, (no (List.length (List.map encP l)))), (8, (io 0))] ?_
  rotate_left
  refine CG.loopL l (fun i u => [(0, (lo encP l)), (1, (.func 67 [] [])), (4, (io 0)), (7, (no (List.length (List.map encP l)))), (8, .d (.int .i64 (.ofNat i)))]) (fun i u => []) (fun i u r => (fiV (l.findIdx? neP) = fiV ((r.findIdx? neP).map (· + i)))) () ?_ (Tidy.refl _ _) ?_ ?_
  · cases l.findIdx? neP <;> rfl
  · intro i u hi hd hinv
    refine s1 hW 4 0 [] 23 [(9, (bo (iLt (Int.ofNat i) (Int.ofNat (List.length (List.map encP l))))))] ?_
    refine CG.condF (show (iLt (Int.ofNat i) (Int.ofNat (List.length (List.map encP l)))) = false from f_lt (by (try simp only [zz] at *) <;> omega)) (by kernel_rfl) ?_
    refine CG.exitL (by decide) ?_
    refine s1 hW 5 0 [] 0 [(4, (io (-1)))] ?_
    refine CG.ret (v' := (io (-1))) (by kernel_rfl) ?_
    rotate_left
    rw [hinv]; rfl
  · intro i u x r hdr hx hlt hinv
    have hxp := hl.2 x (List.mem_of_getElem? hx)
    refine s1 hW 4 0 [] 31 [(9, (bo (iLt (Int.ofNat i) (Int.ofNat (List.length (List.map encP l))))))] ?_
    refine CG.condT (show (iLt (Int.ofNat i) (Int.ofNat (List.length (List.map encP l)))) = true from t_lt (by (try simp only [zz] at *) <;> omega)) (by kernel_rfl) ?_
    refine s1 hW 8 3 [] 31 [(5, (no i)), (11, (.func 67 [] [])), (12, (lo encP l)), (13, (no i))] ?_
    refine CG.ix (idx_map (enc := encP) hx) rfl (by kernel_rfl) ?_
    refine s1 hW 0 1 [] 127 [(15, (.agg [(so (Ty.elem (Prod.fst x))), (so (Ty.row (Prod.fst x))), (lo Lin.enc (Ty.dims (Prod.fst x))), (so (Ty.elem (Prod.snd x))), (so (Ty.row (Prod.snd x))), (lo Lin.enc (Ty.dims (Prod.snd x)))]))] ?_
    refine CG.pcv (first := []) (cap := []) (pc_neP hW x hxp) rfl (by kernel_rfl) (by kernel_rfl) (by kernel_rfl) rfl ?_
    refine s1 hW 2 0 [] 319 [] ?_
    refine sp (neP x) (fun q15 => ?_) (fun q15 => ?_)
    refine CG.condT q15 (by kernel_rfl) ?_
    refine s1 hW 3 0 [] 51 [(4, (no i))] ?_
    refine CG.retL (v' := (no i)) (by kernel_rfl) ?_
    rotate_left
    refine CG.condF q15 (by kernel_rfl) ?_
    refine s3 hW 3 2 [] [(0, (lo encP l)), (1, (.func 67 [] [])), (4, (io 0)), (7, (no (List.length (List.map encP l)))), (8, (io (wrapF IntKind.i64 (iAdd (Int.ofNat i) 1))))] ([]) ?_
    refine CG.endL rfl ?_
    rw [wrapI (by omega)]
    rotate_left
    · rw [hinv, List.findIdx?_cons, show neP x = true by assumption]; simp [fiV]
    · refine ⟨(), ?_, Tidy.refl _ _⟩
      rw [hinv, List.findIdx?_cons, show neP x = false by assumption]
      cases r.findIdx? neP with
      | none => rfl
      | some j => simp only [cond_false, Option.map_some, fiV, if_false, Bool.false_eq_true]; rw [show j + 1 + i = j + (i + 1) by omega]
theorem pc_neAny (hW : W0 W) (l : List (Ty × Ty)) (hl : okPs l) : PC P (gl W) 66 [.d (.list (l.map encP)), .func 67 [] []] (.d (.bool (l.any neP))) := by
  refine CG.start is66 ca66 rfl ?_
  refine s1 hW 4 2 [] 0 [(4, (bo false)), (5, (lo encP l)), (6, (.func 67 [] []))] ?_
  refine CG.pg (pc_neIdx hW _ hl) rfl (by kernel_rfl) ?_
  rotate_left
  have : l.any neP = (l.findIdx? neP).isSome := by rw [List.findIdx?_isSome]
  rw [this]
  cases l.findIdx? neP with
  | none => refine s1 hW 2 0 [] 1 [] ?_
            refine CG.ret (v' := (bo false)) (by kernel_rfl) ?_
            rfl
  | some i => refine s1 hW 2 0 [] 0 [(4, (bo true))] ?_
              refine CG.ret (v' := (bo true)) (by kernel_rfl) ?_
              rfl
theorem pc_holds (hW : W0 W) (c : Con) (row : List UInt8) (dims : List Lin) (bs : List Bool) (hs : Okc c row dims bs) : PC P (gl W) 27 [.agg (Con.cells c), vS row dims, .d (.list (bs.map encB))] (.d (.bool (holdsB c row dims bs))) := by
  refine CG.start is27 ca27 rfl ?_
  have k := pc_pairs hW c row dims bs hs
  rw [pairsV] at k
  cases hb : badP c row dims bs with
  | true =>
    rw [hb, cond_true] at k
    unfold outP at k
    have hh : holdsB c row dims bs = false := by rw [holdsB, hb]; rfl
    rw [hh]
    refine s4 hW 4 3 [] 0 [(6, (bo false)), (10, (.agg (Con.cells c))), (11, (.agg [(so row), (lo Lin.enc dims)])), (12, (lo encB bs))] [(0, (.cells (Con.cells c))), (1, (.cells [(so row), (lo Lin.enc dims)]))] ?_
    refine CG.pg (k) rfl (by kernel_rfl) ?_
    refine s1 hW 5 0 [] 1 [] ?_
    refine CG.ret (v' := (bo false)) (by kernel_rfl) ?_
    with_reducible rfl
  | false =>
    have hle : c.gs.length ≤ 16 := by
      simp only [badP, Bool.or_eq_false_iff, Bool.not_eq_false', conB, Bool.and_eq_true, decide_eq_true_eq] at hb
      exact hb.1.1.1.1.1.1.1.1.2
    rw [hb, cond_false] at k
    cases hp : pairsO c row dims bs with
    | none =>
      rw [hp] at k
      unfold prV outP at k
      have hh : holdsB c row dims bs = false := by rw [holdsB, hb, hp]; rfl
      rw [hh]
      refine s4 hW 4 3 [] 0 [(6, (bo false)), (10, (.agg (Con.cells c))), (11, (.agg [(so row), (lo Lin.enc dims)])), (12, (lo encB bs))] [(0, (.cells (Con.cells c))), (1, (.cells [(so row), (lo Lin.enc dims)]))] ?_
      refine CG.pg (k) rfl (by kernel_rfl) ?_
      refine s1 hW 5 0 [] 1 [] ?_
      refine CG.ret (v' := (bo false)) (by kernel_rfl) ?_
      with_reducible rfl
    | some l =>
      rw [hp] at k
      unfold prV outP at k
      have hh : holdsB c row dims bs = !l.any neP := by rw [holdsB, hb, hp, any_neP]; rfl
      rw [hh]
      have h2 := pc_neAny hW l (pairs_ok hs hle hp)
      refine s4 hW 4 3 [] 0 [(6, (bo false)), (10, (.agg (Con.cells c))), (11, (.agg [(so row), (lo Lin.enc dims)])), (12, (lo encB bs))] [(0, (.cells (Con.cells c))), (1, (.cells [(so row), (lo Lin.enc dims)]))] ?_
      refine CG.pg (k) rfl (by kernel_rfl) ?_
      refine s1 hW 3 4 [] 1 [(18, (bo true)), (19, (lo encP l))] ?_
      refine CG.pg (h2) rfl (by kernel_rfl) ?_
      refine s1 hW 2 0 [] 0 [(6, (bo (!List.any l neP)))] ?_
      refine CG.ret (v' := (bo (!List.any l neP))) (by kernel_rfl) ?_
      with_reducible rfl
end Fw.Tz.Ph

/-
  AgreePairs: the call returns true.
-/
namespace Fw.Tz.Lp
open Go Go.Proofs Fw.X Fw.Tz Fw.Nu Fw.Tz.Sd Fw.Tz.Na Fw.Tz.El Fw.Tz.Va Fw.Tz.Vb Fw.Tz.Vc Fw.Tz.Vd Fw.Tz.Vf Fw.Tz.Vh Fw.Tz.Eq Fw.Tz.Ew Fw.Tz.Fg Fw.Tz.Pp Fw.Tz.Pa Fw.Tz.Pb Fw.Tz.Pc Fw.Tz.Pd Fw.Tz.Pg Fw.Tz.Ph Fw.Tz.Ve
variable {W : World}
theorem fewS_okD {row : List UInt8} {dims : List Lin} (h : fewS row dims = true) : okD dims ∧ row.length < 1099511627776 := by
  have h1 := (fewS_sm h).1
  have h2 := (fewS_sm h).2.2
  simp only [fewS, Bool.and_eq_true, decide_eq_true_eq] at h
  exact ⟨⟨by omega, fun x hx => ⟨h1.2.2 x hx, h2 x hx⟩⟩, h1.1⟩
theorem fewT_okD {t : Ty} (h : fewT t = true) : okD t.dims := by
  simp only [fewT, Bool.and_eq_true] at h
  exact (fewS_okD h.2).1
end Fw.Tz.Lp
