/-
  Maps of truth values at open keys: looked up and set true.
-/
import Derived.Test.YtonjnjkdebpilaaGreatDoorTc
import Derived.Test.YtonjnjkdebpilaaGreatDoorFh
import Derived.Test.YtonjnjkdebpilaaGreatDoorTf

set_option linter.unusedSimpArgs false
set_option linter.unusedVariables false
namespace Fw.Tz.Mb
open Go Go.Proofs Fw.X Fw.Tz
def esB (ks : List (List UInt8)) : List (D × V) := ks.map fun k => (.str k, .d (.bool true))
def bput (ks : List (List UInt8)) (k : List UInt8) : List (List UInt8) := if k ∈ ks then ks else ks ++ [k]
theorem mem_bput {ks : List (List UInt8)} {k s : List UInt8} : s ∈ bput ks k ↔ s ∈ ks ∨ s = k := by
  unfold bput; split
  · constructor
    · exact .inl
    · rintro (h | rfl) <;> assumption
  · simp
theorem mfindB (k : List UInt8) : ∀ (ks : List (List UInt8)) (j : Nat), ∃ r, mfind (.str k) (esB ks) j = some r ∧
    match r with
    | some (i, v) => v = .d (.bool true) ∧ k ∈ ks ∧ j ≤ i ∧ (esB ks).set (i - j) (.str k, .d (.bool true)) = esB ks
    | none => k ∉ ks
  | [], j => ⟨none, rfl, by simp⟩
  | a :: ks, j => by
    simp only [esB, List.map_cons, mfind, dEq]
    rw [Fw.bytesEq_eq]
    by_cases h : k = a
    · subst h
      simp only [beq_self_eq_true]
      exact ⟨_, rfl, rfl, List.mem_cons_self, Nat.le_refl _, by simp⟩
    · have e1 : (k == a) = false := by simpa using h
      rw [e1]
      obtain ⟨r, h1, h2⟩ := mfindB k ks (j + 1)
      refine ⟨r, h1, ?_⟩
      cases r with
      | none =>
        simp only at h2 ⊢
        simp [h, h2]
      | some p =>
        obtain ⟨i, v⟩ := p
        simp only at h2 ⊢
        obtain ⟨k1, k2, k3, k4⟩ := h2
        refine ⟨k1, List.mem_cons_of_mem _ k2, by omega, ?_⟩
        rw [show i - j = (i - (j + 1)) + 1 by omega, List.set_cons_succ]
        exact congrArg _ k4
section
variable {P : Program} {GL : GLT}
theorem eff_lookB {GL : GLT} {tm : List (Nat × V)} {H : Heap} {m k : Opd} {z : V} {b ns : Nat} {ks : List (List UInt8)} {s : List UInt8} (h2 : evo GL tm m = .map b) (h3 : hget H b = some (.map (esB ks))) (h4 : evo GL tm k = .d (.str s)) (hz : z = .d (.bool false)) :
    eff (evo GL tm) H ns (.lookup .str z false m k) = some (.d (.bool (decide (s ∈ ks))), none) := by
  subst hz
  obtain ⟨r, k1, k2⟩ := mfindB s ks 0
  simp only [eff, h2, h4, keyIs, mapEs, h3, cond_true, k1]
  cases r with
  | none => simp only at k2 ⊢; simp [k2]
  | some p => obtain ⟨i, v⟩ := p; simp only at k2 ⊢; simp [k2.1, k2.2.1]
theorem eff_updB {GL : GLT} {tm : List (Nat × V)} {H : Heap} {m k x : Opd} {b ns : Nat} {ks : List (List UInt8)} {s : List UInt8} (h2 : evo GL tm m = .map b) (h3 : hget H b = some (.map (esB ks))) (h4 : evo GL tm k = .d (.str s)) (h5 : evo GL tm x = .d (.bool true)) :
    eff (evo GL tm) H ns (.mapUpd .str m k x) = some (.any, some (b, .map (esB (bput ks s)))) := by
  obtain ⟨r, k1, k2⟩ := mfindB s ks 0
  simp only [eff, h2, h4, h5, keyIs, h3, cond_true, k1]
  cases r with
  | none => simp only at k2 ⊢; simp [bput, k2, esB]
  | some p => obtain ⟨i, v⟩ := p; simp only [Nat.sub_zero] at k2 ⊢; rw [k2.2.2.2]; simp [bput, k2.2.1]
theorem lookB {d : Nat} {z : V} {m k : Opd} {g : Option (Nat × Bool)} {af : List Nat} {l : List IOper} {K : List Fr} {n : Nat} {tm : List (Nat × V)} {H : Heap} {Q : Ex → St → Prop} (b : Nat) (ks : List (List UInt8)) (s : List UInt8)
    (ho : l.head? = some ⟨some d, .lookup .str z false m k, g, af⟩) (hc : (guardB g tm, evo GL tm m, hget H b, evo GL tm k, z, Nat.blt d n) = (some true, .map b, some (.map (esB ks)), .d (.str s), .d (.bool false), true))
    (hq : CG P GL (.ops (l.drop 1)) K n (put tm d (.d (.bool (decide (s ∈ ks))))) H Q) : CG P GL (.ops l) K n tm H Q := by
  simp only [Prod.mk.injEq] at hc
  obtain ⟨h1, h2, h3, h4, h5, h6⟩ := hc
  exact CG.eff1 ho h1 (eff_lookB h2 h3 h4 h5) rfl h6 hq
theorem updBW {base i : Nat} {m k x : Opd} {g : Option (Nat × Bool)} {af : List Nat} {l : List IOper} {tm : List (Nat × V)} {H : Heap} {Q : RS → List (Nat × V) → Heap → Prop} (b : Nat) (ks : List (List UInt8)) (s : List UInt8)
    (ho : l.head? = some ⟨none, .mapUpd .str m k x, g, af⟩) (hc : (guardB g tm, evo GL tm m, hget H b, evo GL tm k, evo GL tm x) = (some true, .map b, some (.map (esB ks)), .d (.str s), .d (.bool true)))
    (hq : AW P GL base (i + 1) (l.drop 1) tm (hput H b (.map (esB (bput ks s)))) (fun rs t k' => Q (((.any, some (b, .map (esB (bput ks s)))), rds (evo GL tm) (.mapUpd .str m k x)) :: rs) t k')) : AW P GL base i l tm H Q := by
  simp only [Prod.mk.injEq] at hc
  obtain ⟨h1, h2, h3, h4, h5⟩ := hc
  exact AW.eff0 ho h1 rfl (eff_updB h2 h3 h4 h5) hq
end
end Fw.Tz.Mb

/-
  Plain conditions, by the program.
-/
set_option maxRecDepth 1000000
set_option maxHeartbeats 4000000
namespace Fw.Tz.Gp
open Go Go.Proofs Fw.X Fw.Tz Fw.Nu Fw.Tz.Sd Fw.Tz.Na Fw.Tz.El Fw.Tz.Va Fw.Tz.Vb Fw.Tz.Ga Fw.Tz.Gb Fw.Tz.Mb
variable {W : World}
def hP (l : Lin) (s : Sch) (ks : List (List UInt8)) : Heap := [some (.cells [.d (.int .i64 l.c), .d (.list (l.ts.map Cf.enc))]), some (.cells [.d (.list (s.ps.map Ty.enc)), .d (.str s.r.elem), .d (.str s.r.row), .d (.list (s.r.dims.map Lin.enc)), .d (.list (s.wh.map Lin.enc))]), some (.map (esB ks)), some (.cells [.map 2])]
def badC (ks : List (List UInt8)) (t : Cf) : Bool := decide (t.c < 0) || !decide (t.var ∈ ks)
@[simp] theorem boxLt_esB (n : Nat) (ks : List (List UInt8)) : boxLt n (.map (esB ks)) = true := by
  simp only [boxLt, esB, List.all_map, List.all_eq_true]
  intro k _
  rfl
theorem heapLt_hP (l : Lin) (s : Sch) (ks : List (List UInt8)) : heapLt 4 (hP l s ks) = true := by
  unfold hP
  simp only [heapLt, boxLt_esB, Bool.and_true, Bool.true_and]
  simp [boxLt, refsLtL, refsLt]
theorem wf_badC (hW : W0 W) (l : Lin) (s : Sch) (ks : List (List UInt8)) (t : Cf) : WF P (gl W) 21 [.agg [.d (.str t.var), .d (.int .i64 t.c)], .ptr 3 1 0] (hP l s ks) (Same (.d (.bool (badC ks t))) (hP l s ks)) := by
  refine WF.cut ?_
  refine CG.startW is21 ca21 rfl ?_
  unfold hP
  refine s4 hW 4 4 [] 2 [(2, (.ptr 4 2 0)), (3, (bo false)), (7, (bo (iLt (Cf.c t) 0)))] [(4, (.cells [(so (Cf.var t)), (io (Cf.c t))]))] ?_
  refine spLt (Cf.c t) 0 (fun q8 p8 => ?_) (fun q8 p8 => ?_)
  rw [q8]
  refine s1 hW 2 0 [] 0 [(3, (bo true))] ?_
  refine CG.retW (v' := (bo true)) (by kernel_rfl) ?_
  rotate_left
  rw [q8]
  refine s1 hW 0 3 [] 12 [(8, (.map 2)), (10, (so (Cf.var t)))] ?_
  rotate_left
  · exact .inr ⟨rfl, heapLt_hP l s ks, by rw [badC, decide_eq_true (show t.c < 0 by omega)]; rfl, rfl⟩
  · refine lookB 2 ks t.var rfl (by kernel_rfl) ?_
    refine s1 hW 2 0 [] 0 [(3, (bo (!decide (Cf.var t ∈ ks))))] ?_
    refine CG.retW (v' := (bo (!decide (Cf.var t ∈ ks)))) (by kernel_rfl) ?_
    rotate_left
    exact .inr ⟨rfl, heapLt_hP l s ks, by rw [badC, decide_eq_false (show ¬ t.c < 0 by omega)]; rfl, rfl⟩
theorem wf_badCIdx (hW : W0 W) (l : Lin) (s : Sch) (ks : List (List UInt8)) (ts : List Cf) (hl : ts.length < 1099511627776) : WF P (gl W) 46 [.d (.list (ts.map Cf.enc)), .func 21 [] [.ptr 3 1 0]] (hP l s ks) (Same (fiV (ts.findIdx? (badC ks))) (hP l s ks)) := by
  refine WF.cut ?_
  refine CG.startW is46 ca46 rfl ?_
  have hB := wf_badC hW l s ks
  unfold hP at hB ⊢
  refine s1 hW 8 0 [] 3 [(4, (io 0)), (7, (no (List.length (List.map Cf.enc ts)))), (8, (io 0))] ?_
  rotate_left
  refine CG.loopL ts (fun i u => [(0, (lo Cf.enc ts)), (1, (.func 21 [] [(.ptr 3 1 0)])), (4, (io 0)), (7, (no (List.length (List.map Cf.enc ts)))), (8, .d (.int .i64 (.ofNat i)))]) (fun i u => [some (.cells [(io (Lin.c l)), (lo Cf.enc (Lin.ts l))]), some (.cells [(lo Ty.enc (Sch.ps s)), (so (Ty.elem (Sch.r s))), (so (Ty.row (Sch.r s))), (lo Lin.enc (Ty.dims (Sch.r s))), (lo Lin.enc (Sch.wh s))]), some (Box.map (esB ks)), some (.cells [(.map 2)])]) (fun i u r => (fiV (ts.findIdx? (badC ks)) = fiV ((r.findIdx? (badC ks)).map (· + i)))) () ?_ (Tidy.refl _ _) ?_ ?_
  · cases ts.findIdx? (badC ks) <;> rfl
  · intro i u hi hd hinv
    refine s1 hW 4 0 [] 23 [(9, (bo (iLt (Int.ofNat i) (Int.ofNat (List.length (List.map Cf.enc ts))))))] ?_
    refine CG.condF (show (iLt (Int.ofNat i) (Int.ofNat (List.length (List.map Cf.enc ts)))) = false from f_lt (by (try simp only [zz] at *) <;> omega)) (by kernel_rfl) ?_
    refine CG.exitL (by decide) ?_
    refine s1 hW 5 0 [] 0 [(4, (io (-1)))] ?_
    refine CG.retW (v' := (io (-1))) (by kernel_rfl) ?_
    rotate_left
    exact .inr ⟨rfl, heapLt_hP l s ks, by rw [hinv]; rfl, rfl⟩
  · intro i u x r hdr hx hlt hinv
    have hBx := hB x
    refine s1 hW 4 0 [] 31 [(9, (bo (iLt (Int.ofNat i) (Int.ofNat (List.length (List.map Cf.enc ts))))))] ?_
    refine CG.condT (show (iLt (Int.ofNat i) (Int.ofNat (List.length (List.map Cf.enc ts)))) = true from t_lt (by (try simp only [zz] at *) <;> omega)) (by kernel_rfl) ?_
    refine s1 hW 8 3 [] 31 [(5, (no i)), (11, (.func 21 [] [(.ptr 3 1 0)])), (12, (lo Cf.enc ts)), (13, (no i))] ?_
    refine CG.ix (idx_map (enc := Cf.enc) hx) rfl (by kernel_rfl) ?_
    refine s1 hW 0 1 [] 127 [(15, (.agg [(so (Cf.var x)), (io (Cf.c x))]))] ?_
    refine CG.wfv (first := []) (cap := [(.ptr 3 1 0)]) hBx rfl (by kernel_rfl) (by kernel_rfl) (by kernel_rfl) rfl ?_
    refine s1 hW 2 0 [] 319 [] ?_
    refine sp (badC ks x) (fun q18 => ?_) (fun q18 => ?_)
    refine CG.condT q18 (by kernel_rfl) ?_
    refine s1 hW 3 0 [] 51 [(4, (no i))] ?_
    refine CG.retLW (v' := (no i)) (by kernel_rfl) ?_
    rotate_left
    refine CG.condF q18 (by kernel_rfl) ?_
    refine s3 hW 3 2 [] [(0, (lo Cf.enc ts)), (1, (.func 21 [] [(.ptr 3 1 0)])), (4, (io 0)), (7, (no (List.length (List.map Cf.enc ts)))), (8, (io (wrapF IntKind.i64 (iAdd (Int.ofNat i) 1))))] ([some (.cells [(io (Lin.c l)), (lo Cf.enc (Lin.ts l))]), some (.cells [(lo Ty.enc (Sch.ps s)), (so (Ty.elem (Sch.r s))), (so (Ty.row (Sch.r s))), (lo Lin.enc (Ty.dims (Sch.r s))), (lo Lin.enc (Sch.wh s))]), some (Box.map (esB ks)), some (.cells [(.map 2)])]) ?_
    refine CG.endL rfl ?_
    rw [wrapI (by omega)]
    rotate_left
    all_goals first
      | (exact .inr ⟨rfl, heapLt_hP l s ks, by rw [hinv, List.findIdx?_cons, show badC ks x = true by assumption]; simp [fiV], rfl⟩)
      | (refine ⟨(), ?_, Tidy.refl _ _⟩
         rw [hinv, List.findIdx?_cons, show badC ks x = false by assumption]
         cases r.findIdx? (badC ks) with
         | none => rfl
         | some j => simp only [cond_false, Option.map_some, fiV, if_false, Bool.false_eq_true]; rw [show j + 1 + i = j + (i + 1) by omega])
theorem wf_badCAny (hW : W0 W) (l : Lin) (s : Sch) (ks : List (List UInt8)) (ts : List Cf) (hl : ts.length < 1099511627776) : WF P (gl W) 20 [.d (.list (ts.map Cf.enc)), .func 21 [] [.ptr 3 1 0]] (hP l s ks) (Same (.d (.bool (ts.any (badC ks)))) (hP l s ks)) := by
  refine WF.cut ?_
  refine CG.startW is20 ca20 rfl ?_
  have hB := wf_badCIdx hW l s ks ts hl
  have h9 := heapLt_hP l s ks
  unfold hP at hB h9 ⊢
  refine s1 hW 4 2 [] 0 [(4, (bo false)), (5, (lo Cf.enc ts)), (6, (.func 21 [] [(.ptr 3 1 0)]))] ?_
  refine CG.wf hB rfl rfl (by kernel_rfl) rfl ?_
  rotate_left
  have : ts.any (badC ks) = (ts.findIdx? (badC ks)).isSome := by rw [List.findIdx?_isSome]
  rw [this]
  cases ts.findIdx? (badC ks) with
  | none => refine s1 hW 2 0 [] 1 [] ?_
            refine CG.retW (v' := (bo false)) (by kernel_rfl) ?_
            rotate_left; exact .inr ⟨rfl, h9, rfl, rfl⟩
  | some i => refine s1 hW 2 0 [] 0 [(4, (bo true))] ?_
              refine CG.retW (v' := (bo true)) (by kernel_rfl) ?_
              rotate_left; exact .inr ⟨rfl, h9, rfl, rfl⟩
end Fw.Tz.Gp

/-
  Plain conditions, by the program: the whole.
-/
set_option maxHeartbeats 400000
namespace Fw.Tz.Gq
open Go Go.Proofs Fw.X Fw.Tz Fw.Nu Fw.Tz.Sd Fw.Tz.Na Fw.Tz.El Fw.Tz.Va Fw.Tz.Vb Fw.Tz.Ga Fw.Tz.Gb Fw.Tz.Mb Fw.Tz.Gp
variable {W : World}
def keyD (acc : List (List UInt8)) (d : Lin) : List (List UInt8) := match d.ts with
  | [t] => if t.c = 1 ∧ d.c = 0 then bput acc t.var else acc
  | _ => acc
def keysD (acc : List (List UInt8)) (ds : List Lin) : List (List UInt8) := ds.foldl keyD acc
def keysT (acc : List (List UInt8)) (ts : List Ty) : List (List UInt8) := ts.foldl (fun a t => keysD a t.dims) acc
def plainP (l : Lin) (s : Sch) : Bool := schB s && l.ok && decide (0 ≤ l.c) && !l.ts.any (badC (keysT [] (s.ps ++ [s.r])))
theorem _root_.Fw.Tidy.keepG {m n : Nat} {tm tm' : List (Nat × V)} {H H' : Heap} (p : Nat) (keep : List Nat) (hm : Nat.ble m p = true) (e1 : (keepTm keep tm, H.take p) = (tm', H')) (e2 : tmLt p tm' = true) (e4 : heapLt p H' = true) : Tidy m ⟨n, tm, H⟩ ⟨n, tm', H'⟩ := by
  obtain ⟨rfl, rfl⟩ := Prod.mk.inj e1
  refine Tidy.clean (keep := keep) (Nat.le_of_ble_eq_true hm) ?_
  unfold cleanSt
  simp only [e2, e4, Bool.and_self, cond_true]
theorem keyD_one {b : List (List UInt8)} {d : Lin} {x : Cf} (h : d.ts[0]? = some x) (hl : d.ts.length = 1) (hc : x.c = 1) (h0 : d.c = 0) : keyD b d = bput b x.var := by
  obtain ⟨c, ts⟩ := d
  match ts, h, hl with
  | [t], h, _ =>
    simp only [List.getElem?_cons_zero, Option.some.injEq] at h
    subst h
    simp only [keyD]
    rw [if_pos ⟨hc, h0⟩]
theorem keyD_len {b : List (List UInt8)} {d : Lin} (hl : d.ts.length ≠ 1) : keyD b d = b := by
  obtain ⟨c, ts⟩ := d
  match ts, hl with
  | [], _ => rfl
  | [_], hl => exact absurd rfl hl
  | _ :: _ :: _, _ => rfl
theorem keyD_no {b : List (List UInt8)} {d : Lin} {x : Cf} (h : d.ts[0]? = some x) (hc : ¬ (x.c = 1 ∧ d.c = 0)) : keyD b d = b := by
  obtain ⟨c, ts⟩ := d
  match ts, h with
  | [t], h =>
    simp only [List.getElem?_cons_zero, Option.some.injEq] at h
    subst h
    simp only [keyD]
    rw [if_neg hc]
  | [], _ => rfl
  | _ :: _ :: _, _ => rfl
def hP5 (l : Lin) (s : Sch) (ks : List (List UInt8)) (t : Ty) : Heap := [some (.cells [.d (.int .i64 l.c), .d (.list (l.ts.map Cf.enc))]), some (.cells [.d (.list (s.ps.map Ty.enc)), .d (.str s.r.elem), .d (.str s.r.row), .d (.list (s.r.dims.map Lin.enc)), .d (.list (s.wh.map Lin.enc))]), some (.map (esB ks)), some (.cells [.map 2]), some (.cells [.d (.str t.elem), .d (.str t.row), .d (.list (t.dims.map Lin.enc))])]
theorem heapLt_hP5 (l : Lin) (s : Sch) (ks : List (List UInt8)) (t : Ty) : heapLt 5 (hP5 l s ks t) = true := by
  unfold hP5
  simp only [heapLt, boxLt_esB, Bool.and_true, Bool.true_and]
  simp [boxLt, refsLtL, refsLt]
theorem pc_plain (hW : W0 W) (l : Lin) (s : Sch) (hl : Lin.sm l) (hs : Sch.sm s) (hp : s.ps.length < 1048576) : PC P (gl W) 7 [vL l, vSc s] (.d (.bool (plainP l s))) := by
  refine CG.start is7 ca7 rfl ?_
  have h1 := pc_sch hW s hs
  have h2 := pc_valid hW l.c l.ts hl.1 hl.2
  have h3 := Gd.pc_ends hW s hp
  refine s4 hW 5 1 [] 0 [(2, (.ptr 0 2 0)), (3, (.ptr 1 5 0)), (4, (bo false)), (10, (.agg [(lo Ty.enc (Sch.ps s)), (so (Ty.elem (Sch.r s))), (so (Ty.row (Sch.r s))), (lo Lin.enc (Ty.dims (Sch.r s))), (lo Lin.enc (Sch.wh s))]))] [(0, (.cells [(io (Lin.c l)), (lo Cf.enc (Lin.ts l))])), (1, (.cells [(lo Ty.enc (Sch.ps s)), (so (Ty.elem (Sch.r s))), (so (Ty.row (Sch.r s))), (lo Lin.enc (Ty.dims (Sch.r s))), (lo Lin.enc (Sch.wh s))]))] ?_
  refine CG.pg (h1) rfl (by kernel_rfl) ?_
  refine s1 hW 0 2 [] 7 [(13, (bo (!schB s)))] ?_
  refine sp (schB s) (fun q11 => ?_) (fun q11 => ?_)
  rw [q11]
  refine s1 hW 0 1 [] 15 [(14, (.agg [(io (Lin.c l)), (lo Cf.enc (Lin.ts l))]))] ?_
  refine CG.pg (h2) rfl (by kernel_rfl) ?_
  refine s1 hW 0 3 [] 7 [(18, (bo (!validL (Lin.c l) (Lin.ts l))))] ?_
  refine sp (validL (Lin.c l) (Lin.ts l)) (fun q12 => ?_) (fun q12 => ?_)
  rw [q12]
  refine s1 hW 2 0 [] 7 [(22, (bo (iLt (Lin.c l) 0)))] ?_
  refine spLt (Lin.c l) 0 (fun q13 p13 => ?_) (fun q13 p13 => ?_)
  refine CG.condT q13 (by kernel_rfl) ?_
  refine s1 hW 3 0 [] 7 [] ?_
  refine CG.ret (v' := (bo false)) (by kernel_rfl) ?_
  rotate_left
  refine CG.condF q13 (by kernel_rfl) ?_
  refine s4 hW 7 1 [] 5 [(5, (.ptr 3 1 0)), (24, (.agg [(lo Ty.enc (Sch.ps s)), (so (Ty.elem (Sch.r s))), (so (Ty.row (Sch.r s))), (lo Lin.enc (Ty.dims (Sch.r s))), (lo Lin.enc (Sch.wh s))]))] [(2, (Box.map [])), (3, (.cells [(.map 2)]))] ?_
  refine CG.pg (h3) rfl (by kernel_rfl) ?_
  refine s1 hW 3 0 [] 23 [(26, (no (List.length (List.map Ty.enc (Sch.ps s ++ [Sch.r s]))))), (27, (io 0))] ?_
  rotate_left
  rw [q12]
  refine s1 hW 6 0 [true] 7 [] ?_
  refine CG.ret (v' := (bo false)) (by kernel_rfl) ?_
  rotate_left
  rw [q11]
  refine s1 hW 6 0 [true] 7 [] ?_
  refine CG.ret (v' := (bo false)) (by kernel_rfl) ?_
  rotate_left
  · rw [plainP, decide_eq_false (show ¬ 0 ≤ l.c by omega)]; simp
  · refine CG.tidy (Tidy.keepG (tm' := [(2, .ptr 0 2 0), (4, bo false), (5, .ptr 3 1 0), (25, lo Ty.enc (s.ps ++ [s.r])), (26, no (List.length (List.map Ty.enc (s.ps ++ [s.r])))), (27, io 0)]) (H' := hP l s []) 4 [2, 4, 5, 25, 26, 27] rfl (by kernel_rfl) rfl (heapLt_hP l s [])) ?_
    unfold hP
    refine CG.loopL (s.ps ++ [s.r]) (fun i a => [(2, (.ptr 0 2 0)), (4, (bo false)), (5, (.ptr 3 1 0)), (25, (lo Ty.enc (Sch.ps s ++ [Sch.r s]))), (26, (no (List.length (List.map Ty.enc (Sch.ps s ++ [Sch.r s]))))), (27, .d (.int .i64 (.ofNat i)))]) (fun i a => [some (.cells [(io (Lin.c l)), (lo Cf.enc (Lin.ts l))]), some (.cells [(lo Ty.enc (Sch.ps s)), (so (Ty.elem (Sch.r s))), (so (Ty.row (Sch.r s))), (lo Lin.enc (Ty.dims (Sch.r s))), (lo Lin.enc (Sch.wh s))]), some (.map (esB a)), some (.cells [(.map 2)])]) (fun i a r => (keysT [] (s.ps ++ [s.r]) = keysT a r)) ([] : List (List UInt8)) ?_ (Tidy.refl _ _) ?_ ?_
    · rfl
    · rintro i a hi hdr hinv
      have hA := wf_badCAny hW l s a l.ts hl.1
      unfold hP at hA
      refine s1 hW 4 0 [] 47 [(28, (bo (iLt (Int.ofNat i) (Int.ofNat (List.length (List.map Ty.enc (Sch.ps s ++ [Sch.r s])))))))] ?_
      refine CG.condF (show (iLt (Int.ofNat i) (Int.ofNat (List.length (List.map Ty.enc (Sch.ps s ++ [Sch.r s]))))) = false from f_lt (by (try simp only [zz] at *) <;> omega)) (by kernel_rfl) ?_
      refine CG.exitL (by decide) ?_
      refine s1 hW 3 3 [] 2 [(65, (lo Cf.enc (Lin.ts l))), (66, (.func 21 [] [(.ptr 3 1 0)]))] ?_
      refine CG.wf hA rfl rfl (by kernel_rfl) rfl ?_
      refine s1 hW 2 0 [] 0 [(4, (bo (!List.any (Lin.ts l) (badC a))))] ?_
      refine CG.ret (v' := (bo (!List.any (Lin.ts l) (badC a)))) (by kernel_rfl) ?_
      rotate_left
      rw [plainP, show schB s = true by assumption, show l.ok = true by assumption, decide_eq_true (show 0 ≤ l.c by omega), hinv]; rfl
    · rintro i a t r hdr hx hlt hinv
      simp only [List.length_append, List.length_singleton] at hlt
      have ht := hs.t t (List.mem_of_getElem? hx)
      refine s1 hW 4 0 [] 63 [(28, (bo (iLt (Int.ofNat i) (Int.ofNat (List.length (List.map Ty.enc (Sch.ps s ++ [Sch.r s])))))))] ?_
      refine CG.condT (show (iLt (Int.ofNat i) (Int.ofNat (List.length (List.map Ty.enc (Sch.ps s ++ [Sch.r s]))))) = true from t_lt (by (try simp only [zz] at *) <;> omega)) (by kernel_rfl) ?_
      refine s1 hW 5 0 [] 63 [] ?_
      refine CG.reg ?_
      refine CG.ix (idx_map (enc := Ty.enc) hx) rfl (by kernel_rfl) ?_
      refine s4 hW 6 0 [] 63 [(33, (lo Lin.enc (Ty.dims t))), (34, (no (List.length (List.map Lin.enc (Ty.dims t))))), (35, (io 0))] [(4, (.cells [(so (Ty.elem t)), (so (Ty.row t)), (lo Lin.enc (Ty.dims t))]))] ?_
      rotate_left
      refine CG.tidy (Tidy.keepG (tm' := [(2, .ptr 0 2 0), (4, bo false), (5, .ptr 3 1 0), (25, lo Ty.enc (s.ps ++ [s.r])), (26, no (List.length (List.map Ty.enc (s.ps ++ [s.r])))), (27, .d (.int .i64 (.ofNat i))), (33, lo Lin.enc t.dims), (34, no (List.length (List.map Lin.enc t.dims))), (35, io 0)]) (H' := hP5 l s a t) 5 [2, 4, 5, 25, 26, 27, 33, 34, 35] rfl (by kernel_rfl) rfl (heapLt_hP5 l s a t)) ?_
      unfold hP5
      have htd := Gb.Ty.sm.d ht
      refine CG.loopL t.dims (fun j b => [(2, (.ptr 0 2 0)), (4, (bo false)), (5, (.ptr 3 1 0)), (25, (lo Ty.enc (Sch.ps s ++ [Sch.r s]))), (26, (no (List.length (List.map Ty.enc (Sch.ps s ++ [Sch.r s]))))), (27, (no i)), (33, (lo Lin.enc (Ty.dims t))), (34, (no (List.length (List.map Lin.enc (Ty.dims t))))), (35, .d (.int .i64 (.ofNat j)))]) (fun j b => [some (.cells [(io (Lin.c l)), (lo Cf.enc (Lin.ts l))]), some (.cells [(lo Ty.enc (Sch.ps s)), (so (Ty.elem (Sch.r s))), (so (Ty.row (Sch.r s))), (lo Lin.enc (Ty.dims (Sch.r s))), (lo Lin.enc (Sch.wh s))]), some (.map (esB b)), some (.cells [(.map 2)]), some (.cells [(so (Ty.elem t)), (so (Ty.row t)), (lo Lin.enc (Ty.dims t))])]) (fun j b r2 => (keysD a t.dims = keysD b r2)) a ?_ (Tidy.refl _ _) ?_ ?_
      · rfl
      · rintro j b hj hdr2 hinv2
        refine s1 hW 4 0 [] 383 [(36, (bo (iLt (Int.ofNat j) (Int.ofNat (List.length (List.map Lin.enc (Ty.dims t)))))))] ?_
        refine CG.condF (show (iLt (Int.ofNat j) (Int.ofNat (List.length (List.map Lin.enc (Ty.dims t))))) = false from f_lt (by (try simp only [zz] at *) <;> omega)) (by kernel_rfl) ?_
        refine CG.exitL (by decide) ?_
        refine s3 hW 3 2 [] [(2, (.ptr 0 2 0)), (4, (bo false)), (5, (.ptr 3 1 0)), (25, (lo Ty.enc (Sch.ps s ++ [Sch.r s]))), (26, (no (List.length (List.map Ty.enc (Sch.ps s ++ [Sch.r s]))))), (27, (io (wrapF IntKind.i64 (iAdd (Int.ofNat i) 1))))] ([some (.cells [(io (Lin.c l)), (lo Cf.enc (Lin.ts l))]), some (.cells [(lo Ty.enc (Sch.ps s)), (so (Ty.elem (Sch.r s))), (so (Ty.row (Sch.r s))), (lo Lin.enc (Ty.dims (Sch.r s))), (lo Lin.enc (Sch.wh s))]), some (Box.map (esB b)), some (.cells [(.map 2)]), some (.cells [(so (Ty.elem t)), (so (Ty.row t)), (lo Lin.enc (Ty.dims t))])]) ?_
        refine CG.endL rfl ?_
        rw [wrapI (by omega)]
        rotate_left
        exact ⟨b, by rw [hinv]; exact congrArg (fun z => keysT z r) hinv2, Tidy.trim 4 [2, 4, 5, 25, 26, 27] rfl rfl rfl rfl (heapLt_hP l s b)⟩
      · rintro j b d r2 hdr2 hx2 hlt2 hinv2
        replace hinv2 : keysD a t.dims = keysD (keyD b d) r2 := hinv2
        refine s1 hW 4 0 [] 511 [(36, (bo (iLt (Int.ofNat j) (Int.ofNat (List.length (List.map Lin.enc (Ty.dims t)))))))] ?_
        refine CG.condT (show (iLt (Int.ofNat j) (Int.ofNat (List.length (List.map Lin.enc (Ty.dims t))))) = true from t_lt (by (try simp only [zz] at *) <;> omega)) (by kernel_rfl) ?_
        refine s1 hW 5 0 [] 511 [] ?_
        refine CG.reg ?_
        refine CG.ix (idx_map (enc := Lin.enc) hx2) rfl (by kernel_rfl) ?_
        refine s4 hW 3 5 [] 511 [(9, (.ptr 5 2 0)), (43, (bo (iEq (Int.ofNat (List.length (List.map Cf.enc (Lin.ts d)))) 1)))] [(5, (.cells [(io (Lin.c d)), (lo Cf.enc (Lin.ts d))]))] ?_
        refine spEqN (List.length (List.map Cf.enc (Lin.ts d))) 1 (fun q34 p34 => ?_) (fun q34 p34 => ?_) <;> simp only [zz] at p34
        have q35 : (iEq (Int.ofNat (List.length (List.map Cf.enc (Lin.ts d)))) 1) = true := t_eq (by (try simp only [zz] at *) <;> omega)
        rw [q35]
        refine s1 hW 0 2 [] 2047 [(45, (lo Cf.enc (Lin.ts d)))] ?_
        obtain ⟨x36, y36⟩ : ∃ x, (Lin.ts d)[0]? = some x := ⟨_, List.getElem?_eq_getElem (by first | omega | (simp only [List.length_cons, List.length_append, List.length_map, List.length_take, List.length_drop]; omega))⟩
        refine CG.ix (idx_map (enc := Cf.enc) y36) rfl (by kernel_rfl) ?_
        refine s1 hW 0 5 [] 1023 [(51, (bo (iEq (Cf.c x36) 1)))] ?_
        refine spEq (Cf.c x36) 1 (fun q38 p38 => ?_) (fun q38 p38 => ?_)
        rw [q38]
        refine s1 hW 2 0 [] 1023 [(55, (bo (iEq (Lin.c d) 0)))] ?_
        refine spEq (Lin.c d) 0 (fun q39 p39 => ?_) (fun q39 p39 => ?_)
        refine CG.condT q39 (by kernel_rfl) ?_
        refine CG.drawW orders (by kernel_rfl) ?_
        refine AW.rk 3 [(56, (.map 2)), (57, (.ptr 5 2 1)), (58, (lo Cf.enc (Lin.ts d)))] [] (by kernel_rfl) ?_
        refine AW.idx (idx_map (enc := Cf.enc) y36) rfl (by kernel_rfl) (by kernel_rfl) (by kernel_rfl) rfl ?_
        refine AW.rk 2 [(60, (.cptr [(.str (Cf.var x36))])), (61, (so (Cf.var x36)))] [] (by kernel_rfl) ?_
        rotate_left
        refine CG.condF q39 (by kernel_rfl) ?_
        refine s3 hW 3 2 [] [(2, (.ptr 0 2 0)), (4, (bo false)), (5, (.ptr 3 1 0)), (25, (lo Ty.enc (Sch.ps s ++ [Sch.r s]))), (26, (no (List.length (List.map Ty.enc (Sch.ps s ++ [Sch.r s]))))), (27, (no i)), (33, (lo Lin.enc (Ty.dims t))), (34, (no (List.length (List.map Lin.enc (Ty.dims t))))), (35, (io (wrapF IntKind.i64 (iAdd (Int.ofNat j) 1))))] ([some (.cells [(io (Lin.c l)), (lo Cf.enc (Lin.ts l))]), some (.cells [(lo Ty.enc (Sch.ps s)), (so (Ty.elem (Sch.r s))), (so (Ty.row (Sch.r s))), (lo Lin.enc (Ty.dims (Sch.r s))), (lo Lin.enc (Sch.wh s))]), some (Box.map (esB b)), some (.cells [(.map 2)]), some (.cells [(so (Ty.elem t)), (so (Ty.row t)), (lo Lin.enc (Ty.dims t))]), some (.cells [(io (Lin.c d)), (lo Cf.enc (Lin.ts d))])]) ?_
        refine CG.endL rfl ?_
        rw [wrapI (by omega)]
        rotate_left
        rw [q38]
        refine s3 hW 6 2 [false] [(2, (.ptr 0 2 0)), (4, (bo false)), (5, (.ptr 3 1 0)), (25, (lo Ty.enc (Sch.ps s ++ [Sch.r s]))), (26, (no (List.length (List.map Ty.enc (Sch.ps s ++ [Sch.r s]))))), (27, (no i)), (33, (lo Lin.enc (Ty.dims t))), (34, (no (List.length (List.map Lin.enc (Ty.dims t))))), (35, (io (wrapF IntKind.i64 (iAdd (Int.ofNat j) 1))))] ([some (.cells [(io (Lin.c l)), (lo Cf.enc (Lin.ts l))]), some (.cells [(lo Ty.enc (Sch.ps s)), (so (Ty.elem (Sch.r s))), (so (Ty.row (Sch.r s))), (lo Lin.enc (Ty.dims (Sch.r s))), (lo Lin.enc (Sch.wh s))]), some (Box.map (esB b)), some (.cells [(.map 2)]), some (.cells [(so (Ty.elem t)), (so (Ty.row t)), (lo Lin.enc (Ty.dims t))]), some (.cells [(io (Lin.c d)), (lo Cf.enc (Lin.ts d))])]) ?_
        refine CG.endL rfl ?_
        rw [wrapI (by omega)]
        rotate_left
        have q40 : (iEq (Int.ofNat (List.length (List.map Cf.enc (Lin.ts d)))) 1) = false := f_eq (by (try simp only [zz] at *) <;> omega)
        rw [q40]
        refine s3 hW 6 2 [false] [(2, (.ptr 0 2 0)), (4, (bo false)), (5, (.ptr 3 1 0)), (25, (lo Ty.enc (Sch.ps s ++ [Sch.r s]))), (26, (no (List.length (List.map Ty.enc (Sch.ps s ++ [Sch.r s]))))), (27, (no i)), (33, (lo Lin.enc (Ty.dims t))), (34, (no (List.length (List.map Lin.enc (Ty.dims t))))), (35, (io (wrapF IntKind.i64 (iAdd (Int.ofNat j) 1))))] ([some (.cells [(io (Lin.c l)), (lo Cf.enc (Lin.ts l))]), some (.cells [(lo Ty.enc (Sch.ps s)), (so (Ty.elem (Sch.r s))), (so (Ty.row (Sch.r s))), (lo Lin.enc (Ty.dims (Sch.r s))), (lo Lin.enc (Sch.wh s))]), some (Box.map (esB b)), some (.cells [(.map 2)]), some (.cells [(so (Ty.elem t)), (so (Ty.row t)), (lo Lin.enc (Ty.dims t))]), some (.cells [(io (Lin.c d)), (lo Cf.enc (Lin.ts d))])]) ?_
        refine CG.endL rfl ?_
        rw [wrapI (by omega)]
        rotate_left
        · refine updBW 2 b x36.var rfl (by kernel_rfl) ?_
          refine AW.nil rfl ⟨by kernel_rfl, AW.fin (H2 := [some (.cells [(io (Lin.c l)), (lo Cf.enc (Lin.ts l))]), some (.cells [(lo Ty.enc (Sch.ps s)), (so (Ty.elem (Sch.r s))), (so (Ty.row (Sch.r s))), (lo Lin.enc (Ty.dims (Sch.r s))), (lo Lin.enc (Sch.wh s))]), some (Box.map (esB (bput b (Cf.var x36)))), some (.cells [(.map 2)]), some (.cells [(so (Ty.elem t)), (so (Ty.row t)), (lo Lin.enc (Ty.dims t))]), some (.cells [(io (Lin.c d)), (lo Cf.enc (Lin.ts d))])]) 6 [2, 4, 5, 25, 26, 27, 33, 34, 35] (by kernel_rfl) rfl (by kernel_rfl) (by kernel_rfl) (by simp [nn, heapLt, boxLt_row, boxLt_cell, boxLt_cs, boxLt_nil, refsLtL, refsLt]) ?_⟩
          refine s3 hW 2 2 [] [(2, (.ptr 0 2 0)), (4, (bo false)), (5, (.ptr 3 1 0)), (25, (lo Ty.enc (Sch.ps s ++ [Sch.r s]))), (26, (no (List.length (List.map Ty.enc (Sch.ps s ++ [Sch.r s]))))), (27, (no i)), (33, (lo Lin.enc (Ty.dims t))), (34, (no (List.length (List.map Lin.enc (Ty.dims t))))), (35, (io (wrapF IntKind.i64 (iAdd (Int.ofNat j) 1))))] ([some (.cells [(io (Lin.c l)), (lo Cf.enc (Lin.ts l))]), some (.cells [(lo Ty.enc (Sch.ps s)), (so (Ty.elem (Sch.r s))), (so (Ty.row (Sch.r s))), (lo Lin.enc (Ty.dims (Sch.r s))), (lo Lin.enc (Sch.wh s))]), some (Box.map (esB (bput b (Cf.var x36)))), some (.cells [(.map 2)]), some (.cells [(so (Ty.elem t)), (so (Ty.row t)), (lo Lin.enc (Ty.dims t))]), some (.cells [(io (Lin.c d)), (lo Cf.enc (Lin.ts d))])]) ?_
          refine CG.endL rfl ?_
          rw [wrapI (by omega)]
          rotate_left
          exact ⟨bput b x36.var, by rw [hinv2, keyD_one (by assumption) (by omega) (by omega) (by omega)], Tidy.trim 5 [2, 4, 5, 25, 26, 27, 33, 34, 35] rfl rfl rfl rfl (heapLt_hP5 l s (bput b x36.var) t)⟩
        all_goals exact ⟨b, by rw [hinv2]; first | rw [keyD_len (by omega)] | rw [keyD_no (by assumption) (by omega)], Tidy.trim 5 [2, 4, 5, 25, 26, 27, 33, 34, 35] rfl rfl rfl rfl (heapLt_hP5 l s b t)⟩
  · rw [plainP, show l.ok = false by assumption]; simp
  · rw [plainP, show schB s = false by assumption]; simp
end Fw.Tz.Gq

/-
  Plain conditions, by the reference.
-/
namespace Fw.Tz.Gr
open Go Go.Proofs Fw.X Fw.Tz Fw.Nu Fw.Tz.Sd Fw.Tz.Na Fw.Tz.El Fw.Tz.Va Fw.Tz.Vb Fw.Tz.Ga Fw.Tz.Gb
variable {W : World}
def dimsT (ts : List Ty) : List Lin := ts.flatMap Ty.dims
theorem dimsT_len : ∀ {ts : List Ty}, (∀ t ∈ ts, t.dims.length ≤ 6) → (dimsT ts).length ≤ 6 * ts.length
  | [], _ => by simp [dimsT]
  | t :: r, h => by
    have h1 := h t List.mem_cons_self
    have h2 := dimsT_len (ts := r) fun x hx => h x (List.mem_cons_of_mem _ hx)
    rw [dimsT, List.flatMap_cons, List.length_append, List.length_cons]
    unfold dimsT at h2
    omega
theorem pc_dims (hW : W0 W) (ts : List Ty) (hl : ts.length ≤ 13) (hd : ∀ t ∈ ts, t.dims.length ≤ 6) : PC P (gl W) 24 [.d (.list (ts.map Ty.enc))] (.d (.list ((dimsT ts).map Lin.enc))) := by
  refine CG.start is24 ca24 rfl ?_
  refine s1 hW 11 0 [] 1 [(2, .nils), (3, .nils), (4, (io 0))] ?_
  rotate_left
  refine CG.tidy (Tidy.nilS 3 2 (tm' := [(0, (lo Ty.enc ts)), (2, .nils), (3, .sl 0 0 0 0 2), (4, (io 0))]) (Nat.le_refl _) (by kernel_rfl) (by kernel_rfl)) ?_
  refine CG.isH ([some .nil]) (by kernel_rfl) ?_
  refine CG.is [(0, (lo Ty.enc ts)), (2, .nils), (3, .sl 0 (List.length ([] : List Lin) * 2) 0 (List.length ([] : List Lin)) 2), (4, (io 0))] ([some (rowE Lin.enc ([] : List Lin))]) (by kernel_rfl) ?_
  refine CG.loopL ts (fun i a => [(0, (lo Ty.enc ts)), (2, .nils), (3, .sl 0 (a.length * 2) 0 a.length 2), (4, .d (.int .i64 (.ofNat i)))]) (fun i a => [rowE Lin.enc a]) (fun i a r => (dimsT ts = a ++ dimsT r ∧ a.length ≤ 6 * i)) ([] : List Lin) ?_ (Tidy.refl _ _) ?_ ?_
  · exact ⟨rfl, by simp⟩
  · rintro i a hi hdr ⟨hinv, ha⟩
    rw [hinv, show dimsT [] = [] from rfl, List.append_nil]
    refine s1 hW 4 0 [] 15 [(8, (bo (iLt (Int.ofNat i) (Int.ofNat (List.length (List.map Ty.enc ts))))))] ?_
    refine CG.condF (show (iLt (Int.ofNat i) (Int.ofNat (List.length (List.map Ty.enc ts)))) = false from f_lt (by (try simp only [zz] at *) <;> omega)) (by kernel_rfl) ?_
    refine CG.exitL (by decide) ?_
    refine s1 hW 5 0 [] 0 [(2, (.sl 0 (List.length a * 2) 0 (List.length a) 2))] ?_
    rotate_left
    refine CG.tidy (Tidy.frzE (sz := 2) Lin.enc a 0 2 (tm' := [(2, (.d (.list (List.map Lin.enc a))))]) (H' := [none]) (fun _ => rfl) (by kernel_rfl) (by kernel_rfl) ⟨.inl rfl, trivial⟩ (by kernel_rfl) (by kernel_rfl)) ?_
    refine CG.ret (v' := (lo Lin.enc a)) (by kernel_rfl) ?_
    with_reducible rfl
  · rintro i a t r hdr hx hlt ⟨hinv, ha⟩
    have ht := hd t (List.mem_of_getElem? hx)
    refine s1 hW 4 0 [] 15 [(8, (bo (iLt (Int.ofNat i) (Int.ofNat (List.length (List.map Ty.enc ts))))))] ?_
    refine CG.condT (show (iLt (Int.ofNat i) (Int.ofNat (List.length (List.map Ty.enc ts)))) = true from t_lt (by (try simp only [zz] at *) <;> omega)) (by kernel_rfl) ?_
    refine s1 hW 4 3 [] 15 [(11, (.sl 0 (List.length a * 2) 0 (List.length a) 2)), (12, (lo Ty.enc ts)), (13, (no i))] ?_
    refine CG.ix (idx_map (enc := Ty.enc) hx) rfl (by kernel_rfl) ?_
    refine s1 hW 0 3 [] 31 [(17, (lo Lin.enc (Ty.dims t)))] ?_
    refine CG.apE Lin.enc a (Ty.dims t) 0 (fun _ => rfl) rfl (by kernel_rfl) (sliceC_map (enc := Lin.enc) (fun _ => rfl) _ (Ty.dims t)) (by (try simp only [zz] at *) <;> omega) ?_
    refine s3 hW 3 3 [] [(0, (lo Ty.enc ts)), (2, .nils), (3, (.sl 0 (List.length (a ++ Ty.dims t) * 2) 0 (List.length (a ++ Ty.dims t)) 2)), (4, (io (wrapF IntKind.i64 (iAdd (Int.ofNat i) 1))))] ([some (rowE Lin.enc (a ++ Ty.dims t))]) ?_
    refine CG.endL rfl ?_
    rw [wrapI (by omega)]
    rotate_left
    exact ⟨a ++ t.dims, ⟨by rw [hinv]; simp [dimsT], by rw [List.length_append]; omega⟩, Tidy.refl _ _⟩
def varL (s : List UInt8) : Lin := ⟨0, [⟨s, 1⟩]⟩
theorem pc_var (hW : W0 W) (s : List UInt8) : PC P (gl W) 26 [.d (.str s)] (.agg [.d (.int .i64 0), .d (.list ((varL s).ts.map Cf.enc))]) := by
  refine CG.start is26 ca26 rfl ?_
  refine s4 hW 6 0 [] 0 [(2, (.ptr 0 2 0))] [(0, (.cells [(io 0), (.d (.list [[(.str s), (.int .i64 1)]]))]))] ?_
  refine CG.ret (v' := (.agg [(io 0), (.d (.list [[(.str s), (.int .i64 1)]]))])) (by kernel_rfl) ?_
  rfl
def bareR (s : Sch) (v : List UInt8) : Bool := (dimsT (s.ps ++ [s.r])).any fun d => Eq.linEq d (varL v)
def okC (s : Sch) (t : Cf) : Bool := decide (0 ≤ t.c) && bareR s t.var
def plainR (l : Lin) (s : Sch) : Bool := schB s && l.ok && decide (0 ≤ l.c) && l.ts.all (okC s)
theorem schB_dims {s : Sch} (h : schB s = true) : (s.ps ++ [s.r]).length ≤ 13 ∧ ∀ t ∈ s.ps ++ [s.r], t.dims.length ≤ 6 := by
  simp only [schB, Bool.and_eq_true, decide_eq_true_eq, List.all_eq_true] at h
  obtain ⟨⟨⟨⟨h1, h2⟩, h3⟩, h4⟩, h5⟩ := h
  refine ⟨by rw [List.length_append, List.length_singleton]; omega, fun t ht => ?_⟩
  have hk : tyB t = true := by
    rcases List.mem_append.1 ht with h | h
    · exact h3 t h
    · rw [List.mem_singleton.1 h]; exact h4
  simp only [tyB, shpB, Bool.and_eq_true, decide_eq_true_eq] at hk
  exact hk.2.1.2
def hQ (l : Lin) (s : Sch) : Heap := [some (.cells [.d (.int .i64 l.c), .d (.list (l.ts.map Cf.enc))]), some (.cells [.d (.list (s.ps.map Ty.enc)), .d (.str s.r.elem), .d (.str s.r.row), .d (.list (s.r.dims.map Lin.enc)), .d (.list (s.wh.map Lin.enc))])]
theorem heapLt_hQ (n : Nat) (l : Lin) (s : Sch) : heapLt n (hQ l s) = true := by
  simp [hQ, heapLt, boxLt, refsLtL, refsLt]
theorem pc_plainR (hW : W0 W) (l : Lin) (s : Sch) (hl : Lin.sm l) (hs : Sch.sm s) : PC P (gl W) 8 [vL l, vSc s] (.d (.bool (plainR l s))) := by
  refine CG.start is8 ca8 rfl ?_
  have stopDraw : True := trivial
  have h1 := pc_schR hW s hs
  have h2 := pc_valid_ref hW l.c l.ts hl.1
  have hll := hl.1
  refine s4 hW 5 1 [] 0 [(2, (.ptr 0 2 0)), (3, (.ptr 1 5 0)), (4, (bo false)), (9, (.agg [(io (Lin.c l)), (lo Cf.enc (Lin.ts l))]))] [(0, (.cells [(io (Lin.c l)), (lo Cf.enc (Lin.ts l))])), (1, (.cells [(lo Ty.enc (Sch.ps s)), (so (Ty.elem (Sch.r s))), (so (Ty.row (Sch.r s))), (lo Lin.enc (Ty.dims (Sch.r s))), (lo Lin.enc (Sch.wh s))]))] ?_
  refine CG.pg (h2) rfl (by kernel_rfl) ?_
  refine s1 hW 0 2 [] 7 [(12, (bo (!validL (Lin.c l) (Lin.ts l))))] ?_
  refine sp (validL (Lin.c l) (Lin.ts l)) (fun q11 => ?_) (fun q11 => ?_)
  rw [q11]
  refine s1 hW 0 1 [] 15 [(13, (.agg [(lo Ty.enc (Sch.ps s)), (so (Ty.elem (Sch.r s))), (so (Ty.row (Sch.r s))), (lo Lin.enc (Ty.dims (Sch.r s))), (lo Lin.enc (Sch.wh s))]))] ?_
  refine CG.pg (h1) rfl (by kernel_rfl) ?_
  refine s1 hW 0 3 [] 7 [(17, (bo (!schB s)))] ?_
  refine sp (schB s) (fun q12 => ?_) (fun q12 => ?_)
  rw [q12]
  refine s1 hW 2 0 [] 7 [(21, (bo (iLt (Lin.c l) 0)))] ?_
  refine spLt (Lin.c l) 0 (fun q13 p13 => ?_) (fun q13 p13 => ?_)
  refine CG.condT q13 (by kernel_rfl) ?_
  refine s1 hW 3 0 [] 7 [] ?_
  refine CG.ret (v' := (bo false)) (by kernel_rfl) ?_
  rotate_left
  refine CG.condF q13 (by kernel_rfl) ?_
  refine s1 hW 3 0 [] 7 [] ?_
  rotate_left
  rw [q12]
  refine s1 hW 6 0 [true] 7 [] ?_
  refine CG.ret (v' := (bo false)) (by kernel_rfl) ?_
  rotate_left
  rw [q11]
  refine s1 hW 6 0 [true] 7 [] ?_
  refine CG.ret (v' := (bo false)) (by kernel_rfl) ?_
  rotate_left
  · rw [plainR, decide_eq_false (show ¬ 0 ≤ l.c by omega)]; simp
  · refine CG.tidy (Tidy.keepG (tm' := [(2, .ptr 0 2 0), (3, .ptr 1 5 0), (4, bo false)]) (H' := hQ l s) 2 [2, 3, 4] rfl (by kernel_rfl) rfl (heapLt_hQ 2 l s)) ?_
    obtain ⟨k1, k2⟩ := schB_dims (s := s) (by assumption)
    have hD : PC P (gl W) 24 [.d (.list (([] ++ s.ps ++ [s.r]).map Ty.enc))] (.d (.list ((dimsT (s.ps ++ [s.r])).map Lin.enc))) := pc_dims hW _ k1 k2
    have hps : s.ps.length < 1048577 := hs.pl
    unfold hQ
    refine CG.drawDP orders (DP.walk 8 rfl rfl (by kernel_rfl) rfl ?_)
    refine AW.rk 3 [(22, (.sl 2 0 0 0 3)), (23, (.ptr 1 5 0)), (24, (lo Ty.enc (Sch.ps s)))] [(2, (.cells []))] (by kernel_rfl) ?_
    rotate_left
    refine AW.appC Ty.enc [] s.ps (sz := 3) 2 (fun _ => rfl) rfl (by kernel_rfl) (sliceC_map (enc := Ty.enc) (sz := 3) (fun _ => rfl) _ s.ps) (by simp only [List.length_nil]; omega) ?_
    refine AW.rk 3 [(26, (.ptr 1 5 1)), (27, (.agg [(so (Ty.elem (Sch.r s))), (so (Ty.row (Sch.r s))), (lo Lin.enc (Ty.dims (Sch.r s)))])), (28, (.sl 8 3 0 1 3))] [(8, (.cells [(so (Ty.elem (Sch.r s))), (so (Ty.row (Sch.r s))), (lo Lin.enc (Ty.dims (Sch.r s)))]))] (by kernel_rfl) ?_
    rotate_left
    refine AW.appC Ty.enc ([] ++ s.ps) [s.r] (sz := 3) 2 (fun _ => rfl) rfl (by kernel_rfl) (by kernel_rfl) (by simp; omega) ?_
    rotate_left
    refine AW.nil rfl ⟨by kernel_rfl, _, _, Tidy.trans (Tidy.keepG (tm' := [(2, .ptr 0 2 0), (3, .ptr 1 5 0), (4, bo false), (29, .sl 2 (([] ++ s.ps ++ [s.r]).length * 3) 0 ([] ++ s.ps ++ [s.r]).length 3)]) (H' := hQ l s ++ [some (cellE Ty.enc ([] ++ s.ps ++ [s.r]))]) 3 [2, 3, 4, 29] rfl (by kernel_rfl) rfl (by simp [hQ, heapLt, boxLt_cell, boxLt_cs, refsLtL, refsLt])) (Tidy.frzC (sz := 3) Ty.enc ([] ++ s.ps ++ [s.r]) 2 29 (tm' := [(2, .ptr 0 2 0), (3, .ptr 1 5 0), (4, bo false), (29, .d (.list (([] ++ s.ps ++ [s.r]).map Ty.enc)))]) (H' := hQ l s ++ [none]) (fun _ => rfl) (by kernel_rfl) (by kernel_rfl) ⟨.inr rfl, ⟨.inr rfl, ⟨.inl rfl, trivial⟩⟩⟩ (by kernel_rfl) (by kernel_rfl)), DP.walk 2 rfl rfl (by kernel_rfl) rfl ?_⟩
    unfold hQ
    refine AW.pcG hD rfl (by kernel_rfl) (by kernel_rfl) ?_
    refine AW.rk 1 [(5, (lo Lin.enc (dimsT (Sch.ps s ++ [Sch.r s]))))] [] (by kernel_rfl) ?_
    rotate_left
    refine AW.nil rfl ⟨by kernel_rfl, _, _, Tidy.keepG (tm' := [(2, .ptr 0 2 0), (4, bo false), (5, lo Lin.enc (dimsT (s.ps ++ [s.r])))]) (H' := hQ l s) 2 [2, 4, 5] rfl (by kernel_rfl) rfl (heapLt_hQ 2 l s), DP.doneC rfl ?_⟩
    unfold hQ
    clear stopDraw
    refine s1 hW 6 0 [] 7 [(6, (io 0))] ?_
    rotate_left
    have hdl : (dimsT (s.ps ++ [s.r])).length < 1000 := by have := dimsT_len k2; omega
    refine CG.loopL l.ts (fun i u => [(2, (.ptr 0 2 0)), (4, (bo false)), (5, (lo Lin.enc (dimsT (Sch.ps s ++ [Sch.r s])))), (6, .d (.int .i64 (.ofNat i)))]) (fun i u => [some (.cells [(io (Lin.c l)), (lo Cf.enc (Lin.ts l))]), some (.cells [(lo Ty.enc (Sch.ps s)), (so (Ty.elem (Sch.r s))), (so (Ty.row (Sch.r s))), (lo Lin.enc (Ty.dims (Sch.r s))), (lo Lin.enc (Sch.wh s))])]) (fun i u r => (l.ts.all (okC s) = r.all (okC s))) () ?_ (Tidy.refl _ _) ?_ ?_
    · rfl
    · intro i u hi hdr hinv
      refine s1 hW 4 0 [] 15 [(35, (bo (iLt (Int.ofNat i) (Int.ofNat (List.length (List.map Cf.enc (Lin.ts l)))))))] ?_
      refine CG.condF (show (iLt (Int.ofNat i) (Int.ofNat (List.length (List.map Cf.enc (Lin.ts l))))) = false from f_lt (by (try simp only [zz] at *) <;> omega)) (by kernel_rfl) ?_
      refine CG.exitL (by decide) ?_
      refine s1 hW 5 0 [] 0 [(4, (bo true))] ?_
      refine CG.ret (v' := (bo true)) (by kernel_rfl) ?_
      rotate_left
      rw [plainR, show schB s = true by assumption, show l.ok = true by assumption, decide_eq_true (show 0 ≤ l.c by omega), hinv]; rfl
    · intro i u t r hdr hx hlt hinv
      rw [List.all_cons] at hinv
      refine s1 hW 4 0 [] 15 [(35, (bo (iLt (Int.ofNat i) (Int.ofNat (List.length (List.map Cf.enc (Lin.ts l)))))))] ?_
      refine CG.condT (show (iLt (Int.ofNat i) (Int.ofNat (List.length (List.map Cf.enc (Lin.ts l))))) = true from t_lt (by (try simp only [zz] at *) <;> omega)) (by kernel_rfl) ?_
      refine s1 hW 12 0 [] 15 [(7, (bo false)), (8, (io 0))] ?_
      rotate_left
      refine CG.loopL (dimsT (s.ps ++ [s.r])) (fun j b => [(2, (.ptr 0 2 0)), (4, (bo false)), (5, (lo Lin.enc (dimsT (Sch.ps s ++ [Sch.r s])))), (6, (no i)), (7, bo b), (8, .d (.int .i64 (.ofNat j)))]) (fun j b => [some (.cells [(io (Lin.c l)), (lo Cf.enc (Lin.ts l))]), some (.cells [(lo Ty.enc (Sch.ps s)), (so (Ty.elem (Sch.r s))), (so (Ty.row (Sch.r s))), (lo Lin.enc (Ty.dims (Sch.r s))), (lo Lin.enc (Sch.wh s))])]) (fun j b r2 => (bareR s t.var = (b || r2.any fun d => Eq.linEq d (varL t.var)))) false ?_ (Tidy.refl _ _) ?_ ?_
      · rfl
      · intro j b hj hdr2 hinv2
        rw [List.any_nil, Bool.or_false] at hinv2
        refine s1 hW 4 0 [] 63 [(41, (bo (iLt (Int.ofNat j) (Int.ofNat (List.length (List.map Lin.enc (dimsT (Sch.ps s ++ [Sch.r s]))))))))] ?_
        refine CG.condF (show (iLt (Int.ofNat j) (Int.ofNat (List.length (List.map Lin.enc (dimsT (Sch.ps s ++ [Sch.r s])))))) = false from f_lt (by (try simp only [zz] at *) <;> omega)) (by kernel_rfl) ?_
        refine CG.exitL (by decide) ?_
        refine s1 hW 3 3 [] 31 [(60, (lo Cf.enc (Lin.ts l))), (61, (no i))] ?_
        refine CG.ix (idx_map (enc := Cf.enc) hx) rfl (by kernel_rfl) ?_
        refine s1 hW 0 4 [] 31 [(66, (bo (iLt (Cf.c t) 0)))] ?_
        refine spLt (Cf.c t) 0 (fun q33 p33 => ?_) (fun q33 p33 => ?_)
        rw [q33]
        refine s1 hW 6 0 [true] 15 [] ?_
        refine CG.retL (v' := (bo false)) (by kernel_rfl) ?_
        rotate_left
        rw [q33]
        refine s1 hW 2 0 [] 15 [(69, (bo !b))] ?_
        refine sp b (fun q34 => ?_) (fun q34 => ?_)
        refine CG.condF (b := !b) (by rw [q34]; rfl) (by kernel_rfl) ?_
        refine s3 hW 3 3 [] [(2, (.ptr 0 2 0)), (4, (bo false)), (5, (lo Lin.enc (dimsT (Sch.ps s ++ [Sch.r s])))), (6, (io (wrapF IntKind.i64 (iAdd (Int.ofNat i) 1))))] ([some (.cells [(io (Lin.c l)), (lo Cf.enc (Lin.ts l))]), some (.cells [(lo Ty.enc (Sch.ps s)), (so (Ty.elem (Sch.r s))), (so (Ty.row (Sch.r s))), (lo Lin.enc (Ty.dims (Sch.r s))), (lo Lin.enc (Sch.wh s))])]) ?_
        refine CG.endL rfl ?_
        rw [wrapI (by omega)]
        rotate_left
        refine CG.condT (b := !b) (by rw [q34]; rfl) (by kernel_rfl) ?_
        refine s1 hW 3 0 [] 15 [] ?_
        refine CG.retL (v' := (bo false)) (by kernel_rfl) ?_
        rotate_left
        all_goals first
          | (rw [plainR, hinv, okC, decide_eq_false (show ¬ 0 ≤ t.c by omega)]; simp; done)
          | (exact ⟨(), by rw [hinv, okC, decide_eq_true (show 0 ≤ t.c by omega), hinv2]; simp [*], Tidy.refl _ _⟩)
          | (rw [plainR, hinv, okC, hinv2]; simp [*]; done)
      · intro j b d r2 hdr2 hx2 hlt2 hinv2
        cases b with
        | true =>
          refine s1 hW 4 0 [] 63 [(41, (bo (iLt (Int.ofNat j) (Int.ofNat (List.length (List.map Lin.enc (dimsT (Sch.ps s ++ [Sch.r s]))))))))] ?_
          refine CG.condT (show (iLt (Int.ofNat j) (Int.ofNat (List.length (List.map Lin.enc (dimsT (Sch.ps s ++ [Sch.r s])))))) = true from t_lt (by (try simp only [zz] at *) <;> omega)) (by kernel_rfl) ?_
          refine s3 hW 7 3 [] [(2, (.ptr 0 2 0)), (4, (bo false)), (5, (lo Lin.enc (dimsT (Sch.ps s ++ [Sch.r s])))), (6, (no i)), (7, (bo true)), (8, (io (wrapF IntKind.i64 (iAdd (Int.ofNat j) 1))))] ([some (.cells [(io (Lin.c l)), (lo Cf.enc (Lin.ts l))]), some (.cells [(lo Ty.enc (Sch.ps s)), (so (Ty.elem (Sch.r s))), (so (Ty.row (Sch.r s))), (lo Lin.enc (Ty.dims (Sch.r s))), (lo Lin.enc (Sch.wh s))])] ++ nn 16 ([])) ?_
          refine CG.endL rfl ?_
          rw [wrapI (by omega)]
          rotate_left
          exact ⟨true, by rw [hinv2]; simp, Tidy.trim 2 [2, 4, 5, 6, 7, 8] rfl rfl rfl rfl (heapLt_hQ 2 l s)⟩
        | false =>
          have hdl2 : d.ts.length < 1099511627776 := by
            obtain ⟨t2, h1, h2⟩ := List.mem_flatMap.1 (List.mem_of_getElem? hx2)
            exact ((hs.t t2 h1).2.2.2 d h2).1
          have hE := Ge.pc_linR hW d (varL t.var) hdl2
          have hR := pc_var hW t.var
          refine s1 hW 4 0 [] 63 [(41, (bo (iLt (Int.ofNat j) (Int.ofNat (List.length (List.map Lin.enc (dimsT (Sch.ps s ++ [Sch.r s]))))))))] ?_
          refine CG.condT (show (iLt (Int.ofNat j) (Int.ofNat (List.length (List.map Lin.enc (dimsT (Sch.ps s ++ [Sch.r s])))))) = true from t_lt (by (try simp only [zz] at *) <;> omega)) (by kernel_rfl) ?_
          refine s1 hW 4 0 [] 63 [] ?_
          refine CG.drawA orders (by kernel_rfl) (by kernel_rfl) ?_
          refine AO.rd 4 [(44, (bo false)), (45, (bo false)), (46, (lo Lin.enc (dimsT (Sch.ps s ++ [Sch.r s])))), (47, (no j))] (by kernel_rfl) ?_
          refine AO.idx (idx_map (enc := Lin.enc) hx2) rfl (by kernel_rfl) (by kernel_rfl) (by kernel_rfl) rfl ?_
          refine AO.rd 4 [(49, (.agg [(io (Lin.c d)), (lo Cf.enc (Lin.ts d))])), (50, (.ptr 0 2 1)), (51, (lo Cf.enc (Lin.ts l))), (52, (no i))] (by kernel_rfl) ?_
          refine AO.idx (idx_map (enc := Cf.enc) hx) rfl (by kernel_rfl) (by kernel_rfl) (by kernel_rfl) rfl ?_
          refine AO.rd 2 [(54, (.cptr [(.str (Cf.var t))])), (55, (so (Cf.var t)))] (by kernel_rfl) ?_
          refine AO.pcG hR rfl (by kernel_rfl) (by kernel_rfl) ?_
          refine AO.pcG hE rfl (by kernel_rfl) (by kernel_rfl) ?_
          refine AO.rd 2 [(7, (bo (Eq.linEq d (varL (Cf.var t))))), (58, (bo (Eq.linEq d (varL (Cf.var t)))))] (by kernel_rfl) ?_
          refine AO.done [2, 4, 5, 6, 7, 8] rfl rfl (by kernel_rfl) ?_
          refine s3 hW 2 3 [] [(2, (.ptr 0 2 0)), (4, (bo false)), (5, (lo Lin.enc (dimsT (Sch.ps s ++ [Sch.r s])))), (6, (no i)), (7, (bo (Eq.linEq d (varL (Cf.var t))))), (8, (io (wrapF IntKind.i64 (iAdd (Int.ofNat j) 1))))] ([some (.cells [(io (Lin.c l)), (lo Cf.enc (Lin.ts l))]), some (.cells [(lo Ty.enc (Sch.ps s)), (so (Ty.elem (Sch.r s))), (so (Ty.row (Sch.r s))), (lo Lin.enc (Ty.dims (Sch.r s))), (lo Lin.enc (Sch.wh s))])]) ?_
          refine CG.endL rfl ?_
          rw [wrapI (by omega)]
          rotate_left
          exact ⟨Eq.linEq d (varL t.var), by rw [hinv2, List.any_cons, Bool.false_or], Tidy.trim 2 [2, 4, 5, 6, 7, 8] rfl rfl rfl rfl (heapLt_hQ 2 l s)⟩
  · rw [plainR, show schB s = false by assumption]; simp
  · rw [plainR, show l.ok = false by assumption]; simp
end Fw.Tz.Gr

/-
  Granted conditions, by the program and by the reference.
-/
namespace Fw.Tz.Gs
open Go Go.Proofs Fw.X Fw.Tz Fw.Nu Fw.Tz.Sd Fw.Tz.Na Fw.Tz.El Fw.Tz.Va Fw.Tz.Vb Fw.Tz.Ga Fw.Tz.Gb Fw.Tz.Gq Fw.Tz.Gr
variable {W : World}
def eqW (l w : Lin) : Bool := Gc.eqLn w l
theorem wf_in (hW : W0 W) (l : Lin) (s : Sch) (w : Lin) (hw : w.ts.length < 1099511627776) : WF P (gl W) 27 [vL w, .ptr 0 2 0] (hQ l s) (Same (.d (.bool (eqW l w))) (hQ l s)) := by
  refine WF.cut ?_
  refine CG.startW is27 ca27 rfl ?_
  have hE := Gc.pc_eqP hW w l hw
  have h9 := heapLt_hQ 2 l s
  unfold hQ at h9 ⊢
  refine s4 hW 4 2 [] 0 [(3, (bo false)), (4, (.agg [(io (Lin.c w)), (lo Cf.enc (Lin.ts w))])), (5, (.agg [(io (Lin.c l)), (lo Cf.enc (Lin.ts l))]))] [(2, (.cells [(io (Lin.c w)), (lo Cf.enc (Lin.ts w))]))] ?_
  refine CG.pg (hE) rfl (by kernel_rfl) ?_
  refine s1 hW 2 0 [] 0 [(3, (bo (Gc.eqLn w l)))] ?_
  refine CG.retW (v' := (bo (Gc.eqLn w l))) (by kernel_rfl) ?_
  rotate_left
  all_goals exact .inr ⟨rfl, h9, rfl, rfl⟩
theorem wf_inIdx (hW : W0 W) (l : Lin) (s : Sch) (ws : List Lin) (hl : ws.length < 1048577) (hd : ∀ x ∈ ws, Lin.sm x) : WF P (gl W) 52 [.d (.list (ws.map Lin.enc)), .func 27 [] [.ptr 0 2 0]] (hQ l s) (Same (fiV (ws.findIdx? (eqW l))) (hQ l s)) := by
  refine WF.cut ?_
  refine CG.startW is52 ca52 rfl ?_
  have hB := wf_in hW l s
  have h9 := heapLt_hQ 2 l s
  unfold hQ at hB h9 ⊢
  refine s1 hW 8 0 [] 3 [(4, (io 0)), (7, (no (List.length (List.map Lin.enc ws)))), (8, (io 0))] ?_
  rotate_left
  refine CG.loopL ws (fun i u => [(0, (lo Lin.enc ws)), (1, (.func 27 [] [(.ptr 0 2 0)])), (4, (io 0)), (7, (no (List.length (List.map Lin.enc ws)))), (8, .d (.int .i64 (.ofNat i)))]) (fun i u => [some (.cells [(io (Lin.c l)), (lo Cf.enc (Lin.ts l))]), some (.cells [(lo Ty.enc (Sch.ps s)), (so (Ty.elem (Sch.r s))), (so (Ty.row (Sch.r s))), (lo Lin.enc (Ty.dims (Sch.r s))), (lo Lin.enc (Sch.wh s))])]) (fun i u r => (fiV (ws.findIdx? (eqW l)) = fiV ((r.findIdx? (eqW l)).map (· + i)))) () ?_ (Tidy.refl _ _) ?_ ?_
  · cases ws.findIdx? (eqW l) <;> rfl
  · intro i u hi hdr hinv
    refine s1 hW 4 0 [] 23 [(9, (bo (iLt (Int.ofNat i) (Int.ofNat (List.length (List.map Lin.enc ws))))))] ?_
    refine CG.condF (show (iLt (Int.ofNat i) (Int.ofNat (List.length (List.map Lin.enc ws)))) = false from f_lt (by (try simp only [zz] at *) <;> omega)) (by kernel_rfl) ?_
    refine CG.exitL (by decide) ?_
    refine s1 hW 5 0 [] 0 [(4, (io (-1)))] ?_
    refine CG.retW (v' := (io (-1))) (by kernel_rfl) ?_
    rotate_left
    exact .inr ⟨rfl, h9, by rw [hinv]; rfl, rfl⟩
  · intro i u x r hdr hx hlt hinv
    have hBx := hB x (hd x (List.mem_of_getElem? hx)).1
    refine s1 hW 4 0 [] 31 [(9, (bo (iLt (Int.ofNat i) (Int.ofNat (List.length (List.map Lin.enc ws))))))] ?_
    refine CG.condT (show (iLt (Int.ofNat i) (Int.ofNat (List.length (List.map Lin.enc ws)))) = true from t_lt (by (try simp only [zz] at *) <;> omega)) (by kernel_rfl) ?_
    refine s1 hW 8 3 [] 31 [(5, (no i)), (11, (.func 27 [] [(.ptr 0 2 0)])), (12, (lo Lin.enc ws)), (13, (no i))] ?_
    refine CG.ix (idx_map (enc := Lin.enc) hx) rfl (by kernel_rfl) ?_
    refine s1 hW 0 1 [] 127 [(15, (.agg [(io (Lin.c x)), (lo Cf.enc (Lin.ts x))]))] ?_
    refine CG.wfv (first := []) (cap := [(.ptr 0 2 0)]) hBx rfl (by kernel_rfl) (by kernel_rfl) (by kernel_rfl) rfl ?_
    refine s1 hW 2 0 [] 319 [] ?_
    refine sp (eqW l x) (fun q19 => ?_) (fun q19 => ?_)
    refine CG.condT q19 (by kernel_rfl) ?_
    refine s1 hW 3 0 [] 51 [(4, (no i))] ?_
    refine CG.retLW (v' := (no i)) (by kernel_rfl) ?_
    rotate_left
    refine CG.condF q19 (by kernel_rfl) ?_
    refine s3 hW 3 2 [] [(0, (lo Lin.enc ws)), (1, (.func 27 [] [(.ptr 0 2 0)])), (4, (io 0)), (7, (no (List.length (List.map Lin.enc ws)))), (8, (io (wrapF IntKind.i64 (iAdd (Int.ofNat i) 1))))] ([some (.cells [(io (Lin.c l)), (lo Cf.enc (Lin.ts l))]), some (.cells [(lo Ty.enc (Sch.ps s)), (so (Ty.elem (Sch.r s))), (so (Ty.row (Sch.r s))), (lo Lin.enc (Ty.dims (Sch.r s))), (lo Lin.enc (Sch.wh s))])]) ?_
    refine CG.endL rfl ?_
    rw [wrapI (by omega)]
    rotate_left
    all_goals first
      | (exact .inr ⟨rfl, h9, by rw [hinv, List.findIdx?_cons, show eqW l x = true by assumption]; simp [fiV], rfl⟩)
      | (refine ⟨(), ?_, Tidy.refl _ _⟩
         rw [hinv, List.findIdx?_cons, show eqW l x = false by assumption]
         cases r.findIdx? (eqW l) with
         | none => rfl
         | some j => simp only [cond_false, Option.map_some, fiV, if_false, Bool.false_eq_true]; rw [show j + 1 + i = j + (i + 1) by omega])
theorem wf_inAny (hW : W0 W) (l : Lin) (s : Sch) (ws : List Lin) (hl : ws.length < 1048577) (hd : ∀ x ∈ ws, Lin.sm x) : WF P (gl W) 29 [.d (.list (ws.map Lin.enc)), .func 27 [] [.ptr 0 2 0]] (hQ l s) (Same (.d (.bool (ws.any (eqW l)))) (hQ l s)) := by
  refine WF.cut ?_
  refine CG.startW is29 ca29 rfl ?_
  have hB := wf_inIdx hW l s ws hl hd
  have h9 := heapLt_hQ 2 l s
  unfold hQ at hB h9 ⊢
  refine s1 hW 4 2 [] 0 [(4, (bo false)), (5, (lo Lin.enc ws)), (6, (.func 27 [] [(.ptr 0 2 0)]))] ?_
  refine CG.wf hB rfl rfl (by kernel_rfl) rfl ?_
  rotate_left
  have : ws.any (eqW l) = (ws.findIdx? (eqW l)).isSome := by rw [List.findIdx?_isSome]
  rw [this]
  cases ws.findIdx? (eqW l) with
  | none => refine s1 hW 2 0 [] 1 [] ?_
            refine CG.retW (v' := (bo false)) (by kernel_rfl) ?_
            rotate_left; exact .inr ⟨rfl, h9, rfl, rfl⟩
  | some i => refine s1 hW 2 0 [] 0 [(4, (bo true))] ?_
              refine CG.retW (v' := (bo true)) (by kernel_rfl) ?_
              rotate_left; exact .inr ⟨rfl, h9, rfl, rfl⟩
def grantP (l : Lin) (s : Sch) : Bool := schB s && (plainP l s || s.wh.any (eqW l))
def grantR (l : Lin) (s : Sch) : Bool := schB s && ((s.wh.any fun w => Eq.linEq w l) || plainR l s)
theorem pc_grantP (hW : W0 W) (l : Lin) (s : Sch) (hl : Lin.sm l) (hs : Sch.sm s) (hp : s.ps.length < 1048576) : PC P (gl W) 9 [vL l, vSc s] (.d (.bool (grantP l s))) := by
  refine CG.start is9 ca9 rfl ?_
  have h1 := pc_sch hW s hs
  have h2 := pc_plain hW l s hl hs hp
  have h3 := wf_inAny hW l s s.wh hs.wl hs.w
  unfold hQ at h3
  refine s4 hW 7 1 [] 0 [(2, (.ptr 0 2 0)), (3, (.ptr 1 5 0)), (4, (bo false)), (5, (.func 27 [] [(.ptr 0 2 0)])), (7, (.agg [(lo Ty.enc (Sch.ps s)), (so (Ty.elem (Sch.r s))), (so (Ty.row (Sch.r s))), (lo Lin.enc (Ty.dims (Sch.r s))), (lo Lin.enc (Sch.wh s))]))] [(0, (.cells [(io (Lin.c l)), (lo Cf.enc (Lin.ts l))])), (1, (.cells [(lo Ty.enc (Sch.ps s)), (so (Ty.elem (Sch.r s))), (so (Ty.row (Sch.r s))), (lo Lin.enc (Ty.dims (Sch.r s))), (lo Lin.enc (Sch.wh s))]))] ?_
  refine CG.pg (h1) rfl (by kernel_rfl) ?_
  refine s1 hW 0 1 [] 15 [(9, (bo (schB s)))] ?_
  refine sp (schB s) (fun q11 => ?_) (fun q11 => ?_)
  rw [q11]
  refine s1 hW 0 2 [] 30 [(10, (.agg [(io (Lin.c l)), (lo Cf.enc (Lin.ts l))])), (11, (.agg [(lo Ty.enc (Sch.ps s)), (so (Ty.elem (Sch.r s))), (so (Ty.row (Sch.r s))), (lo Lin.enc (Ty.dims (Sch.r s))), (lo Lin.enc (Sch.wh s))]))] ?_
  refine CG.pg (h2) rfl (by kernel_rfl) ?_
  refine s1 hW 0 1 [] 15 [(13, (bo (plainP l s)))] ?_
  refine sp (plainP l s) (fun q12 => ?_) (fun q12 => ?_)
  rw [q12]
  refine s1 hW 2 0 [] 0 [(4, (bo true))] ?_
  refine CG.ret (v' := (bo true)) (by kernel_rfl) ?_
  rotate_left
  rw [q12]
  refine s1 hW 0 3 [] 26 [(15, (lo Lin.enc (Sch.wh s))), (16, (.func 27 [] [(.ptr 0 2 0)]))] ?_
  refine CG.wf h3 rfl (by kernel_rfl) (by kernel_rfl) rfl ?_
  refine s1 hW 2 0 [] 0 [(4, (bo (List.any (Sch.wh s) (eqW l))))] ?_
  refine CG.ret (v' := (bo (List.any (Sch.wh s) (eqW l)))) (by kernel_rfl) ?_
  rotate_left
  rw [q11]
  refine s1 hW 2 0 [] 4 [] ?_
  refine CG.ret (v' := (bo false)) (by kernel_rfl) ?_
  rotate_left
  all_goals first
    | (rw [grantP, show schB s = true by assumption, show plainP l s = true by assumption]; rfl)
    | (rw [grantP, show schB s = true by assumption, show plainP l s = false by assumption]; rfl)
    | (rw [grantP, show schB s = false by assumption]; rfl)
theorem pc_grantR (hW : W0 W) (l : Lin) (s : Sch) (hl : Lin.sm l) (hs : Sch.sm s) : PC P (gl W) 10 [vL l, vSc s] (.d (.bool (grantR l s))) := by
  refine CG.start is10 ca10 rfl ?_
  have h1 := pc_schR hW s hs
  have h2 := pc_plainR hW l s hl hs
  have hwl := hs.wl
  refine s4 hW 5 1 [] 0 [(2, (.ptr 0 2 0)), (3, (.ptr 1 5 0)), (4, (bo false)), (6, (.agg [(lo Ty.enc (Sch.ps s)), (so (Ty.elem (Sch.r s))), (so (Ty.row (Sch.r s))), (lo Lin.enc (Ty.dims (Sch.r s))), (lo Lin.enc (Sch.wh s))]))] [(0, (.cells [(io (Lin.c l)), (lo Cf.enc (Lin.ts l))])), (1, (.cells [(lo Ty.enc (Sch.ps s)), (so (Ty.elem (Sch.r s))), (so (Ty.row (Sch.r s))), (lo Lin.enc (Ty.dims (Sch.r s))), (lo Lin.enc (Sch.wh s))]))] ?_
  refine CG.pg (h1) rfl (by kernel_rfl) ?_
  refine s1 hW 2 0 [] 7 [(8, (bo (!schB s)))] ?_
  refine sp (schB s) (fun q10 => ?_) (fun q10 => ?_)
  refine CG.condF (b := (!schB s)) (by rw [q10]; rfl) (by kernel_rfl) ?_
  refine s1 hW 7 0 [] 7 [(5, (io 0))] ?_
  rotate_left
  refine CG.condT (b := (!schB s)) (by rw [q10]; rfl) (by kernel_rfl) ?_
  refine s1 hW 3 0 [] 7 [] ?_
  refine CG.ret (v' := (bo false)) (by kernel_rfl) ?_
  rotate_left
  · refine CG.loopL s.wh (fun i u => [(2, (.ptr 0 2 0)), (3, (.ptr 1 5 0)), (4, (bo false)), (5, .d (.int .i64 (.ofNat i)))]) (fun i u => [some (.cells [(io (Lin.c l)), (lo Cf.enc (Lin.ts l))]), some (.cells [(lo Ty.enc (Sch.ps s)), (so (Ty.elem (Sch.r s))), (so (Ty.row (Sch.r s))), (lo Lin.enc (Ty.dims (Sch.r s))), (lo Lin.enc (Sch.wh s))])]) (fun i u r => ((s.wh.any fun w => Eq.linEq w l) = r.any fun w => Eq.linEq w l)) () ?_ (Tidy.refl _ _) ?_ ?_
    · rfl
    · intro i u hi hdr hinv
      refine s1 hW 4 0 [] 15 [(13, (bo (iLt (Int.ofNat i) (Int.ofNat (List.length (List.map Lin.enc (Sch.wh s)))))))] ?_
      refine CG.condF (show (iLt (Int.ofNat i) (Int.ofNat (List.length (List.map Lin.enc (Sch.wh s))))) = false from f_lt (by (try simp only [zz] at *) <;> omega)) (by kernel_rfl) ?_
      refine CG.exitL (by decide) ?_
      refine s1 hW 3 2 [] 4 [(23, (.agg [(io (Lin.c l)), (lo Cf.enc (Lin.ts l))])), (24, (.agg [(lo Ty.enc (Sch.ps s)), (so (Ty.elem (Sch.r s))), (so (Ty.row (Sch.r s))), (lo Lin.enc (Ty.dims (Sch.r s))), (lo Lin.enc (Sch.wh s))]))] ?_
      refine CG.pg (h2) rfl (by kernel_rfl) ?_
      refine s1 hW 2 0 [] 0 [(4, (bo (plainR l s)))] ?_
      refine CG.ret (v' := (bo (plainR l s))) (by kernel_rfl) ?_
      rotate_left
      all_goals (rw [grantR, show schB s = true by assumption, hinv]; rfl)
    · intro i u x r hdr hx hlt hinv
      rw [List.any_cons] at hinv
      have hE := Ge.pc_linR hW x l (hs.w x (List.mem_of_getElem? hx)).1
      refine s1 hW 4 0 [] 15 [(13, (bo (iLt (Int.ofNat i) (Int.ofNat (List.length (List.map Lin.enc (Sch.wh s)))))))] ?_
      refine CG.condT (show (iLt (Int.ofNat i) (Int.ofNat (List.length (List.map Lin.enc (Sch.wh s))))) = true from t_lt (by (try simp only [zz] at *) <;> omega)) (by kernel_rfl) ?_
      refine s1 hW 5 0 [] 15 [] ?_
      refine CG.drawA orders (by kernel_rfl) (by kernel_rfl) ?_
      refine AO.rd 3 [(16, (.ptr 1 5 4)), (17, (lo Lin.enc (Sch.wh s))), (18, (no i))] (by kernel_rfl) ?_
      refine AO.idx (idx_map (enc := Lin.enc) hx) rfl (by kernel_rfl) (by kernel_rfl) (by kernel_rfl) rfl ?_
      refine AO.rd 2 [(20, (.agg [(io (Lin.c x)), (lo Cf.enc (Lin.ts x))])), (21, (.agg [(io (Lin.c l)), (lo Cf.enc (Lin.ts l))]))] (by kernel_rfl) ?_
      refine AO.pcG hE rfl (by kernel_rfl) (by kernel_rfl) ?_
      refine AO.done [2, 3, 4, 5, 22] rfl rfl (by kernel_rfl) ?_
      refine s1 hW 1 0 [] 31 [] ?_
      refine sp (Eq.linEq x l) (fun q20 => ?_) (fun q20 => ?_)
      refine CG.condT q20 (by kernel_rfl) ?_
      refine s1 hW 3 0 [] 11 [(4, (bo true))] ?_
      refine CG.retL (v' := (bo true)) (by kernel_rfl) ?_
      rotate_left
      refine CG.condF q20 (by kernel_rfl) ?_
      refine s3 hW 3 3 [] [(2, (.ptr 0 2 0)), (3, (.ptr 1 5 0)), (4, (bo false)), (5, (io (wrapF IntKind.i64 (iAdd (Int.ofNat i) 1))))] ([some (.cells [(io (Lin.c l)), (lo Cf.enc (Lin.ts l))]), some (.cells [(lo Ty.enc (Sch.ps s)), (so (Ty.elem (Sch.r s))), (so (Ty.row (Sch.r s))), (lo Lin.enc (Ty.dims (Sch.r s))), (lo Lin.enc (Sch.wh s))])]) ?_
      refine CG.endL rfl ?_
      rw [wrapI (by omega)]
      rotate_left
      all_goals first
        | (rw [grantR, show schB s = true by assumption, hinv, show Eq.linEq x l = true by assumption]; rfl)
        | (exact ⟨(), by rw [hinv, show Eq.linEq x l = false by assumption]; rfl, Tidy.trim 2 [2, 3, 4, 5] rfl rfl rfl rfl (heapLt_hQ 2 l s)⟩)
  all_goals (rw [grantR, show schB s = false by assumption]; rfl)
end Fw.Tz.Gs

/-
  Both sides say the same of every condition.
-/
namespace Fw.Tz.Gl
open Go Go.Proofs Fw.X Fw.Tz Fw.Tz.Va Fw.Tz.Vb Fw.Tz.Ga Fw.Tz.Gb Fw.Tz.Mb Fw.Tz.Gp Fw.Tz.Gq Fw.Tz.Gr Fw.Tz.Gs
theorem mem_keyD {acc : List (List UInt8)} {d : Lin} {v : List UInt8} : v ∈ keyD acc d ↔ v ∈ acc ∨ d = varL v := by
  obtain ⟨c, ts⟩ := d
  match ts with
  | [] => simp [keyD, varL]
  | [t] =>
    obtain ⟨tv, tc⟩ := t
    simp only [keyD, varL]
    split
    · rename_i h
      obtain ⟨rfl, rfl⟩ := h
      rw [mem_bput]
      simp
      rw [eq_comm]
    · rename_i h
      simp only [Lin.mk.injEq, List.cons.injEq, Cf.mk.injEq, and_true]
      constructor
      · exact .inl
      · rintro (k | ⟨k1, k2, k3⟩)
        · exact k
        · exact absurd ⟨k3, k1⟩ h
  | _ :: _ :: _ => simp [keyD, varL]
theorem mem_keysD {v : List UInt8} : ∀ (ds : List Lin) {acc : List (List UInt8)}, v ∈ keysD acc ds ↔ v ∈ acc ∨ varL v ∈ ds
  | [], acc => by simp [keysD]
  | d :: ds, acc => by
    show v ∈ keysD (keyD acc d) ds ↔ _
    rw [mem_keysD ds, mem_keyD, List.mem_cons, or_assoc]
    constructor <;> (rintro (h | h | h) <;> simp [h])
theorem mem_keysT {v : List UInt8} : ∀ (ts : List Ty) {acc : List (List UInt8)}, v ∈ keysT acc ts ↔ v ∈ acc ∨ varL v ∈ dimsT ts
  | [], acc => by simp [keysT, dimsT]
  | t :: ts, acc => by
    show v ∈ keysT (keysD acc t.dims) ts ↔ _
    rw [mem_keysT ts, mem_keysD, show dimsT (t :: ts) = t.dims ++ dimsT ts from rfl, List.mem_append, or_assoc]
theorem bare_iff (s : Sch) (v : List UInt8) : bareR s v = decide (v ∈ keysT [] (s.ps ++ [s.r])) := by
  rw [Bool.eq_iff_iff, decide_eq_true_eq, mem_keysT, bareR, List.any_eq_true]
  simp only [Eq.linEq_iff, List.not_mem_nil, false_or]
  constructor
  · rintro ⟨d, h1, rfl⟩; exact h1
  · exact fun h => ⟨_, h, rfl⟩
theorem plain_eq (l : Lin) (s : Sch) : plainR l s = plainP l s := by
  have : (l.ts.all (Gr.okC s)) = !l.ts.any (badC (keysT [] (s.ps ++ [s.r]))) := by
    rw [Bool.eq_iff_iff]
    simp only [List.all_eq_true, Bool.not_eq_true', List.any_eq_false, Gr.okC, badC, bare_iff]
    constructor
    · intro h t ht; have := h t ht; simp only [Bool.and_eq_true, decide_eq_true_eq] at this; simp; exact ⟨by omega, this.2⟩
    · intro h t ht; have := h t ht; simp at this ⊢; exact ⟨by omega, this.2⟩
  rw [plainR, plainP, this]
theorem grant_eq (l : Lin) (s : Sch) : grantR l s = grantP l s := by
  rw [grantR, grantP, plain_eq]
  have : (s.wh.any fun w => Eq.linEq w l) = s.wh.any (eqW l) := by
    congr 1; funext w; exact (Gc.eqLn_eq w l).symm
  rw [this, Bool.or_comm]
end Fw.Tz.Gl
