/-
 linear.sum.result, further: the sort and the second loop.
-/
import Derived.Test.YtgfgckimecpmlaaGreatDoorTa
import Derived.Test.YtgfgckimecpmlaaGreatDoorFe

set_option linter.unusedSimpArgs false
set_option maxRecDepth 100000
namespace Fw.Tz
open Go Go.Proofs Fw.X
variable {W : World}
theorem mfind_str (k : List UInt8) : ∀ (es : Es) (j : Nat), ∃ r, mfind (.str k) (esM es) j = some r ∧ r.map (·.2) = (es.find? fun e => e.1 == k).map fun e => V.d (.int .i64 e.2)
 | [], j => ⟨none, rfl, rfl⟩
 | (a, c) :: es, j => by
  simp only [esM, List.map_cons, mfind, dEq]
  rw [bytesEq_eq]
  by_cases h : k = a
  ·subst h
   simp only [beq_self_eq_true]
   exact ⟨_, rfl, by simp⟩
  ·have e1 : (k == a) = false := by simpa using h
   have e2 : (a == k) = false := by simpa using Ne.symm h
   rw [e1]
   obtain ⟨r, h1, h2⟩ := mfind_str k es (j + 1)
   refine ⟨r, h1, ?_⟩
   rw [h2, List.find?_cons, e2]
theorem lookup_coef (k : List UInt8) (es : Es) : (match mfind (.str k) (esM es) 0 with
  | some (some (_, v)) => some v
  | some none => some (V.d (.int .i64 0))
  | none => none) = some (V.d (.int .i64 (coefOf es k))) := by
 obtain ⟨r, h1, h2⟩ := mfind_str k es 0
 rw [h1]
 unfold coefOf
 cases hf : es.find? fun e => e.1 == k with
 | none => rw [hf] at h2; simp at h2; subst h2; rfl
 | some e =>
  rw [hf] at h2
  cases r with
  | none => simp at h2
  | some p => obtain ⟨i, v⟩ := p; simp at h2; subst h2; rfl
def termCells (es : Es) : List V := es.flatMap fun e => [.d (.str e.1), .d (.int .i64 e.2)]
theorem termCells_length (es : Es) : (termCells es).length = 2 * es.length := by
 induction es with
 | nil => rfl
 | cons e es ih => simp [termCells] at ih ⊢; omega
def rowT (b : Nat) (l : Es) : V := match l with | [] => .nils | _ => .sl b (2 * l.length) 0 l.length 2
def boxT (l : Es) : Heap := match l with | [] => [] | _ => [none, none, none, none, none, none, none, none, none, none, none, some (.cells (termCells l))]
theorem rowT_ne {b : Nat} {l : Es} (h : l ≠ []) : rowT b l = .sl b (2 * l.length) 0 l.length 2 := by cases l <;> simp_all [rowT]
theorem boxT_ne {l : Es} (h : l ≠ []) : boxT l = [none, none, none, none, none, none, none, none, none, none, none, some (.cells (termCells l))] := by cases l <;> simp_all [boxT]
def J138 (cs : List V) (h off : Nat) (n : Int) (es : Es) (seen : List Nat) (s : List (List UInt8)) (l : Es) : St :=
 ⟨58, [(0, .ptr 0 h off), (2, .ptr 2 2 0), (3, .d (.int .i64 0)), (4, .ptr 3 2 0), (33, .sl 5 s.length 0 s.length 1), (34, .d (.int .i64 s.length)), (35, .d (.int .i64 l.length))],
  [some (.cells cs), some (.map (esM es)), some (.cells [.d (.int .i64 0), .nils]), some (.cells [.d (.int .i64 n), rowT 17 l]), some (.miter 1 es.length seen), some (.cells (s.map strV))] ++ boxT l⟩
theorem stat13 : statOk f206.r13 = true := by kernel_rfl
theorem dst13 : dstOk 58 f206.r13 = true := by kernel_rfl
theorem refs_terms (m : Nat) (l : Es) : refsLtL m (termCells l) = true := by
 induction l with
 | nil => rfl
 | cons x l ih => simp [termCells, refsLtL, refsLt] at ih ⊢; exact ih
theorem round2 {cs : List V} {h off : Nat} {n : Int} {es : Es} (h1 : cs.length = h) (h3 : cs[off + 1]? = some (.map 1)) (hcs : refsLtL 2 cs = true) (hsz : es.length ≤ 2 ^ 20) {seen : List Nat} {s : List (List UInt8)} {l : Es} {k : List UInt8}
  (hk : s[l.length]? = some k) (hls : s.length ≤ 2 ^ 20) (Q : Ex → St → Prop)
  (hq : ∀ σ', Tidy (J138 cs h off n es seen s l).hp.length σ' (J138 cs h off n es seen s (l ++ [(k, coefOf es k)])) → Q .normal σ') : WC P (gl W) f206.l15 (J138 cs h off n es seen s l) Q := by
 have hlt : l.length < s.length := (List.getElem?_eq_some_iff.1 hk).1
 have hkk : (s.map strV)[l.length]? = some (.d (.str k)) := by simp [hk, strV]
 have k2 : ∀ (t : Heap), loadC (some (.cells cs) :: t) 1 (.ptr 0 h (off + 1)) = some [.map 1] := fun l => load1 rfl h1 h3
 have k3 : ∀ (t : Heap), loadC (some (.cells cs) :: some (.map (esM es)) :: some (.cells [.d (.int .i64 0), .nils]) :: some (.cells [.d (.int .i64 n), rowT 17 l]) :: some (.miter 1 es.length seen) :: some (.cells (s.map strV)) :: t) 1 (.ptr 5 s.length l.length) = some [.d (.str k)] := fun t => load1 rfl (by simp) hkk
 have hsl : (l.length : Int) < s.length := by omega
 have hcs18 := refsLtL_mono (show 2 ≤ 18 by omega) hcs
 have hb18 : ∀ m, ((esM es).all fun p => refsLt m p.2) = true := by intro m; simp [esM, Function.comp_def, refsLt]
 have hB : off + 1 + 1 ≤ h := by have := (List.getElem?_eq_some_iff.1 h3).1; omega
 have hC : (cs.drop (off + 1)).take 1 = [.map 1] := by
  have hlt := (List.getElem?_eq_some_iff.1 h3).1
  rw [List.drop_eq_getElem_cons hlt]
  have := (List.getElem?_eq_some_iff.1 h3).2
  simp [this]
 have hc : (mfind (.str k) (esM es) 0 = some none ∧ coefOf es k = 0) ∨ ∃ i, mfind (.str k) (esM es) 0 = some (some (i, V.d (.int .i64 (coefOf es k)))) := by
  have := lookup_coef k es
  obtain ⟨r, h1, _⟩ := mfind_str k es 0
  rw [h1] at this ⊢
  rcases r with _ | ⟨i, v⟩
  ·left; simp at this; exact ⟨rfl, by omega⟩
  ·right; simp at this; subst this; exact ⟨i, rfl⟩
 refine WC.seq (WC.reg (own := []) (by simp [J138, f206.r11, runO, asData, guardB, eff, evo, get_cons, put_cons, put_nil, stput_some, stput_none, happ, binD, binI, hlt]; rfl) ?_)
 refine WC.seq (WC.cond (t := true) (by simp [evo, get_cons]) (WC.skip ?_))
 refine WC.seq (WC.block (WC.seq (WC.reg (own := []) (by simp [f206.r12, runO, asData, guardB, eff, evo, get_cons, put_cons, put_nil, stput_some, stput_none, happ, natOf, nbeq, nblt, liveB, hget, hlt, k3, mkV]; rfl) ?_)))
 by_cases hl0 : l = []
 ·subst hl0
  have w1 : IntKind.i64.wrap 1 = 1 := rfl
  have fin : ∀ σ', σ' = (⟨58, [(0, V.ptr 0 h off), (2, V.ptr 2 2 0), (3, V.d (D.int IntKind.i64 0)), (4, V.ptr 3 2 0), (33, V.sl 5 s.length 0 s.length 1), (34, V.d (D.int IntKind.i64 s.length)), (35, V.d (D.int IntKind.i64 1))],
    [some (.cells cs), some (.map (esM es)), some (.cells [.d (.int .i64 0), .nils]), some (.cells [.d (.int .i64 n), .sl 17 2 0 1 2]), some (.miter 1 es.length seen), some (.cells (s.map strV)), none, none, none, none, none, none, none, none, none, none, none, some (.cells [.d (.str k), .d (.int .i64 (coefOf es k))])]⟩ : St) → σ' = J138 cs h off n es seen s ([] ++ [(k, coefOf es k)]) := by
   rintro σ' rfl
   simp [J138, rowT, boxT, termCells]
  rcases hc with ⟨hr1, hz⟩ | ⟨i, hr1⟩
  ·refine WC.drawQ (pcall := noP) hmix noP_ok (by
    simp [f206.r13, padSt, List.replicate, runQ, oneD, isCall, guardB, effF, fillC, putCells, cellsV, dcells, chunk, okC, eff, evo, get_cons, put_cons, put_nil, putT_some, putT_none, happ, rowT, boxT, loadC, hget, hB, hC, h1, mkV, nbeq, nble, keyIs, mapEs, hr1, sliceC, appendV, roomB, hput, storeC]
    rfl) ?_ dst13 ?_ ?_
   ·simp only [drawOk, stat13, Bool.true_and]; kernel_rfl
   ·kernel_rfl
   refine WC.reg (own := []) (by simp [f206.r14, f206.r13, foldK, padSt, List.replicate, putT_some, putT_none, happ, hput, boxT, runO, asData, guardB, eff, evo, get_cons, put_cons, put_nil, stput_some, stput_none, binD, binI]; rfl) ?_
   refine hq _ (Tidy.clean (n := 18) (by simp [J138, boxT]) (keep := [0, 2, 3, 4, 33, 34, 35]) ?_)
   rw [← fin _ rfl]
   simp [cleanSt, keepTm, tmLt, heapLt, refsLt, refsLtL, boxLt, nblt, nbeq, hcs18, hb18, refs_strV, w1, hz]
  ·refine WC.drawQ (pcall := noP) hmix noP_ok (by
    simp [f206.r13, padSt, List.replicate, runQ, oneD, isCall, guardB, effF, fillC, putCells, cellsV, dcells, chunk, okC, eff, evo, get_cons, put_cons, put_nil, putT_some, putT_none, happ, rowT, boxT, loadC, hget, hB, hC, h1, mkV, nbeq, nble, keyIs, mapEs, hr1, sliceC, appendV, roomB, hput, storeC]
    rfl) ?_ dst13 ?_ ?_
   ·simp only [drawOk, stat13, Bool.true_and]; kernel_rfl
   ·kernel_rfl
   refine WC.reg (own := []) (by simp [f206.r14, f206.r13, foldK, padSt, List.replicate, putT_some, putT_none, happ, hput, boxT, runO, asData, guardB, eff, evo, get_cons, put_cons, put_nil, stput_some, stput_none, binD, binI]; rfl) ?_
   refine hq _ (Tidy.clean (n := 18) (by simp [J138, boxT]) (keep := [0, 2, 3, 4, 33, 34, 35]) ?_)
   rw [← fin _ rfl]
   simp [cleanSt, keepTm, tmLt, heapLt, refsLt, refsLtL, boxLt, nblt, nbeq, hcs18, hb18, refs_strV, w1]
 ·have hne : l ++ [(k, coefOf es k)] ≠ [] := by simp
  have hcells : termCells (l ++ [(k, coefOf es k)]) = termCells l ++ [.d (.str k), .d (.int .i64 (coefOf es k))] := by simp [termCells]
  have hrt : refsLtL 18 (termCells l ++ [.d (.str k), .d (.int .i64 (coefOf es k))]) = true := by rw [← hcells]; exact refs_terms _ _
  have hroom : (2 * l.length + 2) * 25 ≤ 1099511627776 := by omega
  have hrm2 : l.length * 2 = 2 * l.length := by omega
  have hne0 : l ++ [(k, (0 : Int))] ≠ [] := by simp
  have hcells0 : termCells (l ++ [(k, 0)]) = termCells l ++ [.d (.str k), .d (.int .i64 0)] := by simp [termCells]
  have hm2 : 2 * (l.length + 1) = 2 * l.length + 2 := by omega
  have hrt0 : coefOf es k = 0 → refsLtL 18 (termCells l ++ [.d (.str k), .d (.int .i64 0)]) = true := fun e => by rw [e] at hrt; exact hrt
  have wl : IntKind.i64.wrap ((l.length : Int) + 1) = (l.length : Int) + 1 := by rw [IntKind.wrap_i64]; omega
  rcases hc with ⟨hr1, hz⟩ | ⟨i, hr1⟩
  ·refine WC.drawQ (pcall := noP) hmix noP_ok (by
    simp [f206.r13, padSt, List.replicate, runQ, oneD, isCall, guardB, effF, fillC, putCells, cellsV, dcells, chunk, okC, eff, evo, get_cons, put_cons, put_nil, putT_some, putT_none, happ, rowT_ne hl0, boxT_ne hl0, termCells_length, loadC, hget, hB, hC, h1, mkV, nbeq, nble, keyIs, mapEs, hr1, sliceC, appendV, roomB, hput, storeC, hroom, hrm2]
    rfl) ?_ dst13 ?_ ?_
   ·simp only [drawOk, stat13, Bool.true_and]; kernel_rfl
   ·kernel_rfl
   refine WC.reg (own := []) (by simp [f206.r14, f206.r13, foldK, padSt, List.replicate, putT_some, putT_none, happ, hput, boxT_ne hl0, runO, asData, guardB, eff, evo, get_cons, put_cons, put_nil, stput_some, stput_none, binD, binI]; rfl) ?_
   refine hq _ (Tidy.clean (n := 18) (by simp [J138, boxT_ne hl0]) (keep := [0, 2, 3, 4, 33, 34, 35]) ?_)
   simp [cleanSt, keepTm, tmLt, heapLt, refsLt, refsLtL, boxLt, nblt, nbeq, hcs18, hb18, refs_strV, wl, J138, rowT_ne hne0, boxT_ne hne0, hcells0, hm2, hz, hrt0 hz]
  ·refine WC.drawQ (pcall := noP) hmix noP_ok (by
    simp [f206.r13, padSt, List.replicate, runQ, oneD, isCall, guardB, effF, fillC, putCells, cellsV, dcells, chunk, okC, eff, evo, get_cons, put_cons, put_nil, putT_some, putT_none, happ, rowT_ne hl0, boxT_ne hl0, termCells_length, loadC, hget, hB, hC, h1, mkV, nbeq, nble, keyIs, mapEs, hr1, sliceC, appendV, roomB, hput, storeC, hroom, hrm2]
    rfl) ?_ dst13 ?_ ?_
   ·simp only [drawOk, stat13, Bool.true_and]; kernel_rfl
   ·kernel_rfl
   refine WC.reg (own := []) (by simp [f206.r14, f206.r13, foldK, padSt, List.replicate, putT_some, putT_none, happ, hput, boxT_ne hl0, runO, asData, guardB, eff, evo, get_cons, put_cons, put_nil, stput_some, stput_none, binD, binI]; rfl) ?_
   refine hq _ (Tidy.clean (n := 18) (by simp [J138, boxT_ne hl0]) (keep := [0, 2, 3, 4, 33, 34, 35]) ?_)
   simp [cleanSt, keepTm, tmLt, heapLt, refsLt, refsLtL, boxLt, nblt, nbeq, hcs18, hb18, refs_strV, wl, J138, rowT_ne hne, boxT_ne hne, hcells, hrt, hm2]
end Fw.Tz

/-
 linear.sum.result, as a whole.
-/
namespace Fw.Tz
open Go Go.Proofs Fw.X
variable {W : World}
mutual
theorem frzV_lt {b m : Nat} (hb : m ≤ b) (ds : List D) : ∀ {u : V}, refsLt m u = true → frzV b ds u = u
 | .ptr c _ _, hh => by simp only [refsLt, Nat.blt_eq] at hh; simp only [frzV, beq_ff (show c ≠ b by omega), cond_false]
 | .sl c _ _ _ _, hh => by simp only [refsLt, Nat.blt_eq] at hh; simp only [frzV, beq_ff (show c ≠ b by omega), cond_false]
 | .map c, hh => by simp only [refsLt, Nat.blt_eq] at hh; simp only [frzV, beq_ff (show c ≠ b by omega), cond_false]
 | .iter c _, hh => by simp only [refsLt, Bool.and_eq_true, Nat.blt_eq] at hh; simp only [frzV, beq_ff (show c ≠ b by omega), cond_false]
 | .func _ a c, hh => by simp only [refsLt, Bool.and_eq_true] at hh; simp only [frzV, frzL_lt hb ds hh.1, frzL_lt hb ds hh.2]
 | .iface _ v, hh => by simp only [refsLt] at hh; simp only [frzV, frzV_lt hb ds hh]
 | .agg cs, hh => by simp only [refsLt] at hh; simp only [frzV, frzL_lt hb ds hh]
 | .tuple cs, hh => by simp only [refsLt] at hh; simp only [frzV, frzL_lt hb ds hh]
 | .any, _ => rfl
 | .d _, _ => rfl
 | .nils, _ => rfl
 | .nilp, _ => rfl
 | .cptr _, _ => rfl
 | .nilm, _ => rfl
 | .nilf, _ => rfl
 | .someIface, _ => rfl
 | .nili, _ => rfl
theorem frzL_lt {b m : Nat} (hb : m ≤ b) (ds : List D) : ∀ {us : List V}, refsLtL m us = true → frzL b ds us = us
 | [], _ => rfl
 | v :: vs, hh => by simp only [refsLtL, Bool.and_eq_true] at hh; simp only [frzL, frzV_lt hb ds hh.1, frzL_lt hb ds hh.2]
end
def termFlat (l : Es) : List D := l.flatMap fun e => [.str e.1, .int .i64 e.2]
theorem dcells_terms (l : Es) : dcells (termCells l) = some (termFlat l) := by
 induction l with
 | nil => rfl
 | cons e l ih => simp [termCells, termFlat, dcells] at ih ⊢; simp [ih]
theorem chunk_terms (l : Es) : chunk 2 l.length (termFlat l) = l.map fun e => [D.str e.1, .int .i64 e.2] := by
 induction l with
 | nil => rfl
 | cons e l ih => simp [termFlat, chunk] at ih ⊢; exact ih
theorem termFlat_length (l : Es) : (termFlat l).length = 2 * l.length := by
 have := (dcells_get (dcells_terms l)).1
 rw [← this, termCells_length]
theorem mapO_terms (H : Heap) (f : Nat) : ∀ (l : Es), mapO (deepC H f) (termCells l) = some (termFlat l)
 | [] => rfl
 | e :: l => by
  have := mapO_terms H f l
  simp only [termCells, List.flatMap_cons, List.cons_append, List.nil_append, mapO, termFlat] at this ⊢
  have e1 : ∀ x, deepC H f (.d x) = some x := fun x => by cases f <;> rfl
  simp only [e1, this]
def fTerm (es : Es) (k : List UInt8) : List UInt8 × Int := (k, coefOf es k)
theorem loop2 {cs : List V} {h off : Nat} {n : Int} {es : Es} (h1 : cs.length = h) (h3 : cs[off + 1]? = some (.map 1)) (hcs : refsLtL 2 cs = true) (hsz : es.length ≤ 2 ^ 20) {seen : List Nat} {s : List (List UInt8)} (hls : s.length ≤ 2 ^ 20) (Q : Ex → St → Prop)
  (hq : Q .normal (J138 cs h off n es seen s (s.map (fTerm es)))) : WC P (gl W) (.block 2 (.loop f206.l15)) (J138 cs h off n es seen s []) Q := by
 refine WC.block (WC.loopT (α := {j // j ≤ s.length}) (fun j => J138 cs h off n es seen s ((s.take j.1).map (fTerm es))) (fun j => s.length - j.1) ?_ ⟨0, by omega⟩ (by simpa using Tidy.refl _ _))
 rintro ⟨j, hj⟩
 have hlen : ((s.take j).map (fTerm es)).length = j := by simp; omega
 by_cases hlt : j < s.length
 ·obtain ⟨k, hk⟩ : ∃ k, s[j]? = some k := ⟨_, List.getElem?_eq_getElem hlt⟩
  refine round2 (k := k) h1 h3 hcs hsz (by rw [hlen]; exact hk) hls _ fun σ' ht => ⟨⟨j + 1, by omega⟩, by simp; omega, ?_⟩
  have : (s.take (j + 1)).map (fTerm es) = (s.take j).map (fTerm es) ++ [(k, coefOf es k)] := by
   rw [List.take_add_one, hk]; simp [fTerm]
  simp only [this]
  exact ht
 ·obtain rfl : j = s.length := by omega
  have hcs18 := refsLtL_mono (show 2 ≤ 18 by omega) hcs
  have hcs6 := refsLtL_mono (show 2 ≤ 6 by omega) hcs
  have hb18 : ∀ m, ((esM es).all fun p => refsLt m p.2) = true := by intro m; simp [esM, Function.comp_def, refsLt]
  refine WC.post ?_
  refine WC.seq (WC.reg (own := []) (by simp [J138, hlen, f206.r11, runO, asData, guardB, eff, evo, get_cons, put_cons, put_nil, stput_some, stput_none, happ, binD, binI]; rfl) ?_)
  refine WC.seq (WC.cond (t := false) (by simp [evo, get_cons]) (WC.exit ⟨J138 cs h off n es seen s (s.map (fTerm es)), ?_, by simpa using hq⟩))
  refine Tidy.clean (Nat.le_refl _) (keep := [0, 2, 3, 4, 33, 34, 35]) ?_
  by_cases hN : s.map (fTerm es) = []
  ·have hs : s = [] := by simpa using hN
   subst hs
   simp [cleanSt, keepTm, tmLt, heapLt, refsLt, refsLtL, boxLt, nblt, nbeq, J138, rowT, boxT, hcs6, hb18, refs_strV]
  ·simp [cleanSt, keepTm, tmLt, heapLt, refsLt, refsLtL, boxLt, nblt, nbeq, J138, rowT_ne hN, boxT_ne hN, hcs18, hb18, refs_strV, refs_terms]
theorem perm_full {seen : List Nat} {n : Nat} (hn : seen.Nodup) (hb : ∀ i ∈ seen, i < n) (hf : ∀ i, i < n → i ∈ seen) : seen.Perm (List.range n) :=
 (List.perm_ext_iff_of_nodup hn List.nodup_range).2 fun i => ⟨fun h => List.mem_range.2 (hb i h), fun h => hf i (List.mem_range.1 h)⟩
theorem fm_congr {α β : Type} {f g : α → Option β} : ∀ {l : List α}, (∀ x ∈ l, f x = g x) → l.filterMap f = l.filterMap g
 | [], _ => rfl
 | x :: l, h => by
  rw [List.filterMap_cons, List.filterMap_cons, h x List.mem_cons_self, fm_congr fun y hy => h y (List.mem_cons_of_mem _ hy)]
theorem names_range (es : Es) : namesOf es (List.range es.length) = liveNames es := by
 have : ∀ (l : Es) (k : Nat), (List.range' k l.length).filterMap (fun i => nm l (i - k)) = liveNames l := by
  intro l
  induction l with
  | nil => intro k; rfl
  | cons e l ih =>
   intro k
   rw [List.length_cons, List.range'_succ, List.filterMap_cons]
   have h0 : nm (e :: l) (k - k) = if e.2 = 0 then none else some e.1 := by simp [nm]
   have h1 : (List.range' (k + 1) l.length).filterMap (fun i => nm (e :: l) (i - k)) = (List.range' (k + 1) l.length).filterMap (fun i => nm l (i - (k + 1))) := by
    apply fm_congr
    intro i hi
    have := (List.mem_range'_1.1 hi).1
    simp only [nm, show i - k = (i - (k + 1)) + 1 by omega, List.getElem?_cons_succ]
   rw [h0, h1, ih]
   by_cases hc : e.2 = 0
   ·simp [hc, liveNames]
   ·simp [hc, liveNames]
 have := this es 0
 simp only [Nat.sub_zero] at this
 rw [List.range_eq_range', namesOf]
 exact this
theorem sortS_perm {a b : List (List UInt8)} (h : a.Perm b) : sortS a = sortS b := by
 have tot : ∀ (x y : List UInt8), (decide (x ≤ y) || decide (y ≤ x)) = true := fun x y => by
  rcases List.le_total x y with h | h <;> simp [h]
 have trn : ∀ (x y z : List UInt8), decide (x ≤ y) = true → decide (y ≤ z) = true → decide (x ≤ z) = true := fun x y z h1 h2 => by
  simp only [decide_eq_true_eq] at *
  exact List.le_trans h1 h2
 refine List.Perm.eq_of_pairwise (le := fun x y => decide (x ≤ y) = true) (fun x y _ _ h1 h2 => ?_) (List.pairwise_mergeSort trn tot a) (List.pairwise_mergeSort trn tot b) ?_
 ·simp only [decide_eq_true_eq] at h1 h2
  exact List.le_antisymm h1 h2
 ·exact (List.mergeSort_perm a _).trans (h.trans (List.mergeSort_perm b _).symm)
theorem sort_names {es : Es} {seen : List Nat} (hs : Seen es seen) (hf : ∀ i, i < es.length → i ∈ seen) : sortS (namesOf es seen) = sortS (liveNames es) := by
 rw [← names_range]
 exact sortS_perm ((perm_full hs.1 hs.2 hf).filterMap _)
theorem frzV_d (b : Nat) (ds : List D) (x : D) : frzV b ds (.d x) = .d x := rfl
theorem okC_d (x : D) : okC (.d x) = true := rfl
def K138 (cs : List V) (h off : Nat) (n : Int) (es : Es) (seen : List Nat) (x33 x34 x35 : V) (t : Es) (X : Heap) : St :=
 ⟨58, [(0, .ptr 0 h off), (2, .ptr 2 2 0), (3, .d (.int .i64 0)), (4, .ptr 3 2 0), (33, x33), (34, x34), (35, x35)],
  [some (.cells cs), some (.map (esM es)), some (.cells [.d (.int .i64 0), .nils]), some (.cells [.d (.int .i64 n), rowT 17 t]), some (.miter 1 es.length seen)] ++ X⟩
def E138 (cs : List V) (n : Int) (es : Es) (seen : List Nat) (t : Es) (ok : Bool) (X : Heap) : Heap :=
 [some (.cells cs), some (.map (esM es)), some (.cells (if ok then [.d (.int .i64 n), rowT 17 t] else [.d (.int .i64 0), .nils])), some (.cells [.d (.int .i64 n), rowT 17 t]), some (.miter 1 es.length seen)] ++ X
def HasT (t : Es) (X : Heap) : Prop := t = [] ∨ hget X 12 = some (.cells (termCells t))
theorem deepT {cs : List V} {n : Int} {es : Es} {seen : List Nat} {t : Es} {X : Heap} {b : Box} (hX : HasT t X) : mapO (deepA ([some (.cells cs), some (.map (esM es)), some b, some (.cells [.d (.int .i64 n), rowT 17 t]), some (.miter 1 es.length seen)] ++ X)) [.agg [.d (.int .i64 n), rowT 17 t]] = some [linV n t] := by
 by_cases ht : t = []
 ·subst ht; rfl
 ·rcases hX with hX | hX
  ·exact absurd hX ht
  ·rw [rowT_ne ht]
   generalize hH : ([some (.cells cs), some (.map (esM es)), some b, some (.cells [.d (.int .i64 n), .sl 17 (2 * t.length) 0 t.length 2]), some (.miter 1 es.length seen)] ++ X : Heap) = H
   have hb : hget H 17 = some (.cells (termCells t)) := by rw [← hH]; simpa [hget] using hX
   have h6 : mapO (deepC H 5) (((termCells t).drop 0).take (t.length * 2)) = some (termFlat t) := by
    rw [List.drop_zero, List.take_of_length_le (by rw [termCells_length]; omega)]
    exact mapO_terms _ _ t
   have e1 : deepC H 6 (.sl 17 (2 * t.length) 0 t.length 2) = some (termsD t) := by
    simp only [deepC, hb, termCells_length, Nat.beq_refl, Nat.zero_add, Bool.true_and]
    rw [Nat.ble_eq_true_of_le (by omega)]
    simp only [cond_true]
    rw [h6]
    simp only [chunk_terms, termsD]
   simp only [mapO, deepA, deepFuel, e1]
   rfl
theorem walk3 {cs : List V} {h off : Nat} {n : Int} {es : Es} {seen : List Nat} {x33 x34 x35 : V} {X : Heap} {ok : Bool} (t : Es) (hX : HasT t X) (hv : PC P (gl W) 89 [linV n t] (.d (.bool ok)))
  (Q : Ex → St → Prop) (hq : ∀ tm, get tm 2 = .ptr 2 2 0 → get tm 3 = .d (.int .i64 (if ok then 0 else 3)) → Q .ret ⟨58, tm, E138 cs n es seen t ok X⟩) :
  WC P (gl W) (.seq (.seq (.region f206.r16) (.cond (.t 55) (.seq (.region f206.r17) .ret) .skip)) (.seq (.region f206.r18) .ret)) (K138 cs h off n es seen x33 x34 x35 t X) Q := by
 have hread : loadC (K138 cs h off n es seen x33 x34 x35 t X).hp 2 (.ptr 3 2 0) = some [.d (.int .i64 n), rowT 17 t] := by simp [K138, loadC, hget, nbeq, nble]
 refine WC.seq (WC.seq (WC.regN 1 (own := []) (by
  simp only [f206.r16, List.take, runO, asData, guardB, eff, evo]
  rw [show get (K138 cs h off n es seen x33 x34 x35 t X).tm 4 = .ptr 3 2 0 from rfl, hread]
  simp [mkV, K138, stput_some, put_cons, put_nil, happ]
  rfl) ?_))
 refine WO.call rfl (by simp [guardB]) (WF.borrow (dargs := [linV n t]) (by simpa [mlist, evo, get_cons] using deepT hX) hv rfl ⟨_, by simp [stput_some, put_cons, put_nil]; rfl, ?_⟩)
 refine WO.eff (v := .d (.bool !ok)) (wr := none) (by simp [guardB]) (by simp [eff, evo, get_cons, unV]) (by simp [stput_some, put_cons, put_nil, happ]; rfl) (WO.nil ?_)
 cases ok with
 | false =>
  refine WC.cond (t := true) (by simp [evo, get_cons]) ?_
  refine WC.seq (WC.reg (own := []) (by simp [f206.r17, runO, asData, guardB, eff, evo, get_cons, put_cons, put_nil, stput_some, stput_none, happ, fillC, storeC, hget, hput, nbeq, nble, cellsV, okC, putCells]; rfl) ?_)
  refine WC.ret ?_
  have := hq
  simp only [Bool.false_eq_true, if_false] at this
  exact this _ (by simp [get_cons]) (by simp [get_cons])
 | true =>
  refine WC.cond (t := false) (by simp [evo, get_cons]) (WC.skip ?_)
  have hok2 : okC (rowT 17 t) = true := by cases t <;> rfl
  refine WC.seq (WC.reg (own := []) (σ' := ⟨58, _, E138 cs n es seen t true X⟩) (by
   simp [E138, f206.r18, runO, asData, guardB, eff, evo, get_cons, put_cons, put_nil, stput_some, stput_none, happ, loadC, mkV, storeC, hget, hput, nbeq, nble, cellsV, hok2, okC_d, putCells]; rfl) ?_)
  refine WC.ret ?_
  have := hq
  simp only [if_true] at this
  exact this _ (by simp [get_cons]) (by simp [get_cons])
def fns61 : FuncId → Option IFn := fun f => bif Nat.beq f 104 then some f104 else bif Nat.beq f 157 then some f157 else bif Nat.beq f 158 then some f158 else bif Nat.beq f 222 then some f222 else bif Nat.beq f 212 then some f212 else none
theorem pc61nil : PC P (gl W) 104 [.nils] (.tuple []) := by
 have hf : ∀ f fn, fns61 f = some fn → compFn P f = some fn ∧ callable P f = true := by
  intro f fn h
  unfold fns61 at h
  cases h1 : Nat.beq f 104 with
  | true =>
   rw [h1] at h; simp only [cond_true, Option.some.injEq] at h
   obtain rfl := Nat.eq_of_beq_eq_true h1; subst h
   exact ⟨by kernel_rfl, by kernel_rfl⟩
  | false =>
  rw [h1] at h
  cases h2 : Nat.beq f 157 with
  | true =>
   rw [h2] at h; simp only [cond_true, cond_false, Option.some.injEq] at h
   obtain rfl := Nat.eq_of_beq_eq_true h2; subst h
   exact ⟨by kernel_rfl, by kernel_rfl⟩
  | false =>
  rw [h2] at h
  cases h3 : Nat.beq f 158 with
  | true =>
   rw [h3] at h; simp only [cond_true, cond_false, Option.some.injEq] at h
   obtain rfl := Nat.eq_of_beq_eq_true h3; subst h
   exact ⟨by kernel_rfl, by kernel_rfl⟩
  | false =>
  rw [h3] at h
  cases h4 : Nat.beq f 222 with
  | true =>
   rw [h4] at h; simp only [cond_true, cond_false, Option.some.injEq] at h
   obtain rfl := Nat.eq_of_beq_eq_true h4; subst h
   exact ⟨by kernel_rfl, by kernel_rfl⟩
  | false =>
  rw [h4] at h
  cases h5 : Nat.beq f 212 with
  | true =>
   rw [h5] at h; simp only [cond_true, cond_false, Option.some.injEq] at h
   obtain rfl := Nat.eq_of_beq_eq_true h5; subst h
   exact ⟨by kernel_rfl, by kernel_rfl⟩
  | false => rw [h5] at h; cases h
 have hk : HookOk P (gl W) (fun _ => noC) := fun _ _ => noC_ok
 have hcall := rawN_ok (owns := fun _ => []) (rf := fun _ => false) (n := 10) hk hmix hf (noP_ok (P := P) (GL := gl W)) 5
 exact pcallOf_ok noP_ok hcall 104 [.nils] _ (by kernel_rfl)
theorem fin138 {cs : List V} {n : Int} {es : Es} {seen : List Nat} {ok : Bool} {t : Es} {X : Heap} (hX : HasT t X) (hcs : refsLtL 2 cs = true) (hok : cs.all okC = true) (hXo : ∀ ds, ((frzH 17 ds 5 X).all okBox) = true) {tm : List (Nat × V)} (g2 : get tm 2 = .ptr 2 2 0) (g3 : get tm 3 = .d (.int .i64 (if ok then 0 else 3))) :
  ∃ v, resV f206.res ⟨58, tm, E138 cs n es seen t ok X⟩ = some v ∧ ∃ σ', Tidy 2 ⟨1, [(0, v)], E138 cs n es seen t ok X⟩ σ' ∧
   get σ'.tm 0 = (if ok then .tuple [linR n t, .d (.int .i64 0)] else .tuple [linR 0 [], .d (.int .i64 3)]) ∧ σ'.hp = [some (.cells cs), some (.map (esM es))] := by
 have hb18 : ∀ m, ((esM es).all fun p => refsLt m p.2) = true := by intro m; simp [esM, Function.comp_def, refsLt]
 have hcs17 : ∀ ds, frzL 17 ds cs = cs := fun ds => frzL_lt (show 2 ≤ 17 by omega) ds hcs
 have hm17 : ∀ ds, (esM es).map (fun p => (p.1, frzV 17 ds p.2)) = esM es := fun ds => by simp [esM, Function.comp_def, frzV]
 cases ok with
 | false =>
  refine ⟨_, by simp [resV, f206, mapO, resOne, g2, g3, E138, loadC, hget, nbeq, nble, mkV]; rfl, _, Tidy.clean (n := 2) (Nat.le_refl _) (keep := [0]) (by simp [cleanSt, keepTm, E138, tmLt, heapLt, boxLt, refsLt, refsLtL, hcs, hb18]; rfl), ?_, rfl⟩
  rfl
 | true =>
  by_cases ht : t = []
  ·subst ht
   refine ⟨_, by simp [resV, f206, mapO, resOne, g2, g3, E138, rowT, loadC, hget, nbeq, nble, mkV]; rfl, _, Tidy.clean (n := 2) (Nat.le_refl _) (keep := [0]) (by simp [cleanSt, keepTm, E138, tmLt, heapLt, boxLt, refsLt, refsLtL, hcs, hb18]; rfl), ?_, rfl⟩
   rfl
  ·rcases hX with hX | hX
   ·exact absurd hX ht
   ·have hb : boxD (E138 cs n es seen t true X) 17 = some (termFlat t) := by
     have : hget (E138 cs n es seen t true X) 17 = some (.cells (termCells t)) := by simpa [E138, hget] using hX
     simp only [boxD, this, dcells_terms]
    have hT : frzV 17 (termFlat t) (.sl 17 (2 * t.length) 0 t.length 2) = .d (termsD t) := by
     simp only [frzV, Nat.beq_refl, cond_true, termFlat_length, Nat.zero_add, Bool.true_and]
     rw [Nat.ble_eq_true_of_le (by omega)]
     simp only [cond_true, List.drop_zero, chunk_terms, termsD]
    refine ⟨.tuple [.agg [.d (.int .i64 n), .sl 17 (2 * t.length) 0 t.length 2], .d (.int .i64 0)], by simp [resV, f206, mapO, resOne, g2, g3, E138, rowT_ne ht, loadC, hget, nbeq, nble, mkV], ⟨1, [(0, .tuple [linV n t, .d (.int .i64 0)])], [some (.cells cs), some (.map (esM es))]⟩,
     Tidy.trans (Tidy.frz (b := 17) (σ' := ⟨1, [(0, .tuple [linV n t, .d (.int .i64 0)])], frzH 17 (termFlat t) 0 (E138 cs n es seen t true X)⟩) ?_) (Tidy.clean (n := 2) (Nat.le_refl _) (keep := [0]) ?_), ?_, rfl⟩
    ·simp only [frzSt, hb]
     have hall : (frzH 17 (termFlat t) 0 (E138 cs n es seen t true X)).all okBox = true := by
      have := hXo (termFlat t)
      simp [E138, frzH, frzBox, rowT_ne ht, hcs17, hm17, okBox, hok, frzL, hT, okC, nbeq, frzV_d]
      exact fun x hx => List.all_eq_true.1 this x hx
     rw [hall]
     have h1 : frzV 17 (termFlat t) (.tuple [.agg [.d (.int .i64 n), .sl 17 (2 * t.length) 0 t.length 2], .d (.int .i64 0)]) = .tuple [linV n t, .d (.int .i64 0)] := by
      rw [frzV, frzL, frzV, frzL, frzL, hT]; rfl
     simp only [cond_true, List.map_cons, List.map_nil, h1]
    ·simp [nbeq, cleanSt, keepTm, E138, frzH, frzBox, hcs17, hm17, tmLt, heapLt, boxLt, refsLt, refsLtL, hcs, hb18, linV]
    ·rw [linR_ne ht]; rfl
theorem resTerms_nil {es : Es} (h : liveNames es = []) : resTerms es = [] := by simp [resTerms, h, sortS]
theorem frzS_ok (s : List (List UInt8)) (t : Es) (ds : List D) : ((frzH 17 ds 5 ([some (.cells (s.map strV))] ++ boxT t)).all okBox) = true := by
 have h1 : frzL 17 ds (s.map strV) = s.map strV := frzL_lt (m := 0) (by omega) ds (refs_strV 0 s)
 by_cases ht : t = []
 ·subst ht; simp [boxT, frzH, frzBox, h1, okBox, nbeq, strV, okC]
 ·simp [boxT_ne ht, frzH, frzBox, h1, okBox, nbeq, strV, okC]
theorem w206 {cs : List V} {h off : Nat} {n : Int} {es : Es} {ok : Bool} (h1 : cs.length = h) (h2 : cs[off]? = some (.d (.int .i64 n))) (h3 : cs[off + 1]? = some (.map 1)) (hcs : refsLtL 2 cs = true) (hok : cs.all okC = true) (hsz : es.length ≤ 2 ^ 20)
  (hv : PC P (gl W) 89 [linV n (resTerms es)] (.d (.bool ok))) :
  WF P (gl W) 206 [.ptr 0 h off] [some (.cells cs), some (.map (esM es))] (fun v H' => v = resV206 n es ok ∧ H' = [some (.cells cs), some (.map (esM es))]) := by
 refine WF.tidyRes (WF.body f206_is c206 (by simp [f206]) ?_)
 have hcs18 := refsLtL_mono (show 2 ≤ 18 by omega) hcs
 have hcs6 := refsLtL_mono (show 2 ≤ 6 by omega) hcs
 have hcs5 := refsLtL_mono (show 2 ≤ 5 by omega) hcs
 have hb18 : ∀ m, ((esM es).all fun p => refsLt m p.2) = true := by intro m; simp [esM, Function.comp_def, refsLt]
 refine walk1 h1 h2 h3 hcs _ _ _ ?_
 refine loop1 hcs hsz _ fun seen hs hf => ?_
 have hsort := sort_names hs hf
 have fin : ∀ (X : Heap) (tm : List (Nat × V)), HasT (resTerms es) X → (∀ ds, ((frzH 17 ds 5 X).all okBox) = true) → get tm 2 = .ptr 2 2 0 → get tm 3 = .d (.int .i64 (if ok then 0 else 3)) →
   ∃ v, resV f206.res ⟨58, tm, E138 cs n es seen (resTerms es) ok X⟩ = some v ∧ ∃ σ', Tidy [some (Box.cells cs), some (Box.map (esM es))].length ⟨1, [(0, v)], E138 cs n es seen (resTerms es) ok X⟩ σ' ∧ get σ'.tm 0 = resV206 n es ok ∧ σ'.hp = [some (.cells cs), some (.map (esM es))] :=
  fun X tm hX hXo g2 g3 => fin138 hX hcs hok hXo g2 g3
 by_cases hN : namesOf es seen = []
 ·
  have hres : resTerms es = [] := resTerms_nil (by
   have := sortS_length (liveNames es)
   rw [← hsort, hN] at this
   have h0 : (sortS []).length = 0 := by simp [sortS]
   exact List.length_eq_zero_iff.1 (by omega))
  have hI : I206 cs h off n es seen = ⟨58, [(0, .ptr 0 h off), (2, .ptr 2 2 0), (3, .d (.int .i64 0)), (4, .ptr 3 2 0), (5, .nils), (19, .iter 4 1)],
    [some (.cells cs), some (.map (esM es)), some (.cells [.d (.int .i64 0), .nils]), some (.cells [.d (.int .i64 n), .nils]), some (.miter 1 es.length seen)]⟩ := by simp [I206, hN, rowOf, boxOf]
  rw [hI]
  refine WC.seq (WC.regN 1 (own := []) (by simp [f206.r9, runO, asData, guardB, eff, evo, get_cons, put_cons, put_nil, stput_some, happ]; rfl) ?_)
  refine WO.callP pc61nil rfl (by simp [guardB]) (by simp [mlist, evo, get_cons]) (by simp [stput_some, put_cons, put_nil]; rfl) (WO.nil ?_)
  refine WC.seq (WC.seq (WC.reg (own := []) (by simp [f206.r10, runO, asData, guardB, eff, evo, get_cons, put_cons, put_nil, stput_some, happ, lenV]; rfl) ?_))
  refine WC.block (WC.once (WC.seq (WC.reg (own := []) (by simp [f206.r11, runO, asData, guardB, eff, evo, get_cons, put_cons, put_nil, stput_some, happ, binD, binI]; rfl) (WC.seq (WC.cond (t := false) (by simp [evo, get_cons]) (WC.exit ?_))))))
  dsimp only
  rw [if_pos rfl]
  refine WC.tidy (σ' := K138 cs h off n es seen .nils (.d (.int .i64 0)) (.d (.int .i64 0)) [] []) (Tidy.clean (Nat.le_refl _) (keep := [0, 2, 3, 4, 33, 34, 35]) ?_) ?_
  ·simp [cleanSt, keepTm, tmLt, heapLt, refsLt, refsLtL, boxLt, nblt, nbeq, K138, rowT, hcs5, hb18]
  ·rw [hres] at hv
   refine walk3 [] (.inl rfl) hv _ fun tm g2 g3 => ?_
   have := fin [] tm (.inl hres) (fun ds => rfl) g2 g3
   rw [hres] at this
   exact this
 ·have hns : (namesOf es seen).length ≤ 2 ^ 20 := Nat.le_trans (Nat.le_trans (List.length_filterMap_le _ _) (nodup_bound hs.1 hs.2)) hsz
  have hI : I206 cs h off n es seen = ⟨58, [(0, .ptr 0 h off), (2, .ptr 2 2 0), (3, .d (.int .i64 0)), (4, .ptr 3 2 0), (5, .sl 5 (namesOf es seen).length 0 (namesOf es seen).length 1), (19, .iter 4 1)],
    [some (.cells cs), some (.map (esM es)), some (.cells [.d (.int .i64 0), .nils]), some (.cells [.d (.int .i64 n), .nils]), some (.miter 1 es.length seen), some (.cells ((namesOf es seen).map strV))]⟩ := by simp [I206, rowOf_ne hN, boxOf_ne hN]
  rw [hI]
  have hw : WF P (gl W) 104 [.sl 5 (namesOf es seen).length 0 (namesOf es seen).length 1] [some (.cells cs), some (.map (esM es)), some (.cells [.d (.int .i64 0), .nils]), some (.cells [.d (.int .i64 n), .nils]), some (.miter 1 es.length seen), some (.cells ((namesOf es seen).map strV))]
    (fun v H' => v = .tuple [] ∧ H' = [some (.cells cs), some (.map (esM es)), some (.cells [.d (.int .i64 0), .nils]), some (.cells [.d (.int .i64 n), .nils]), some (.miter 1 es.length seen), some (.cells ((sortS (namesOf es seen)).map strV))]) := by
   refine WF.frame [5] (w104 (namesOf es seen) (by omega)) (by simp) rfl (by simp [refsLtL, refsLt, nblt]) (by simp [heapLt, boxLt, refs_strV]) ?_ ?_
   ·intro i hi
    obtain rfl : i = 0 := by simp at hi; exact hi
    refine ⟨_, rfl, ?_⟩
    simp [hget, renBox]
    rw [renL_refs (refs_strV 0 _)]
   ·rintro v H' ⟨rfl, rfl⟩
    refine ⟨rfl, by simp [refsLt, refsLtL], by simp [heapLt, boxLt, refs_strV], by simp [renV, renL], ?_⟩
    simp [putBack, hget, hput, renBox]
    rw [renL_refs (refs_strV 0 _)]
  refine WC.seq (WC.regN 1 (own := []) (by simp [f206.r9, runO, asData, guardB, eff, evo, get_cons, put_cons, put_nil, stput_some, happ]; rfl) ?_)
  refine WO.callW hw rfl (by simp [guardB]) (by simp [mlist, evo, get_cons]) ?_
  rintro v H' ⟨rfl, rfl⟩
  refine ⟨_, by simp [stput_some, put_cons, put_nil]; rfl, WO.nil ?_⟩
  refine WC.seq (WC.seq (WC.reg (own := []) (by simp [f206.r10, runO, asData, guardB, eff, evo, get_cons, put_cons, put_nil, stput_some, happ, lenV, liveB, hget, sortS_length, nbeq]; rfl) ?_))
  refine WC.tidy (σ' := J138 cs h off n es seen (sortS (namesOf es seen)) []) (Tidy.clean (Nat.le_refl _) (keep := [0, 2, 3, 4, 33, 34, 35]) ?_) ?_
  ·simp [cleanSt, keepTm, tmLt, heapLt, refsLt, refsLtL, boxLt, nblt, nbeq, J138, rowT, boxT, hcs6, hb18, refs_strV, sortS_length]
  ·refine loop2 h1 h3 hcs hsz (by rw [sortS_length]; exact hns) _ ?_
   have hK : J138 cs h off n es seen (sortS (namesOf es seen)) ((sortS (namesOf es seen)).map (fTerm es)) = K138 cs h off n es seen (.sl 5 (sortS (namesOf es seen)).length 0 (sortS (namesOf es seen)).length 1) (.d (.int .i64 (sortS (namesOf es seen)).length)) (.d (.int .i64 (resTerms es).length)) (resTerms es) ([some (.cells ((sortS (namesOf es seen)).map strV))] ++ boxT (resTerms es)) := by
    have : (sortS (namesOf es seen)).map (fTerm es) = resTerms es := by rw [hsort]; rfl
    rw [this]; simp [J138, K138]
   rw [hK]
   have hX : HasT (resTerms es) ([some (.cells ((sortS (namesOf es seen)).map strV))] ++ boxT (resTerms es)) := by
    by_cases ht : resTerms es = []
    ·exact .inl ht
    ·exact .inr (by simp [boxT_ne ht, hget])
   exact walk3 (resTerms es) hX hv _ fun tm g2 g3 => fin _ tm hX (fun ds => frzS_ok _ _ ds) g2 g3
end Fw.Tz

/-
 slices.Grow of nil: an empty row with room.
-/
namespace Fw.Tz
open Go Go.Proofs Fw.X
variable {W : World}
theorem c118 : callable P 118 = true := by kernel_rfl
theorem f118_is : compFn P 118 = some f118 := by kernel_rfl
def row118 (n : Nat) : V := if n = 0 then .nils else .sl 1 0 0 0 3
def heap118 (n : Nat) : Heap := if n = 0 then [] else [none, some (.cells [])]
theorem w118 (n : Nat) (hn : n ≤ 2 ^ 30) : WF P (gl W) 118 [.nils, .d (.int .i64 n)] [] (fun v H' => v = row118 n ∧ H' = heap118 n) := by
 have hw : IntKind.i64.wrap (n : Int) = n := by rw [IntKind.wrap_i64]; omega
 have hneg : ¬ ((n : Int) < 0) := by omega
 have hw0 : IntKind.i64.wrap 0 = 0 := rfl
 refine WF.tidyRes (WF.body f118_is c118 (by simp [f118]) ?_)
 show WC P (gl W) (.seq (.region f118.r0) (.seq (.seq (.region f118.r1) (.cond (.t 6) (.region f118.r2) .skip)) (.seq (.seq (.region f118.r3) (.seq (.region f118.r4) (.cond (.t 16) (.region f118.r5) .skip))) (.seq (.region f118.r6) .ret)))) ⟨27, [(0, .nils), (1, .d (.int .i64 n))], []⟩ _
 refine WC.seq (WC.reg (own := []) (by simp [f118.r0, runO, asData, guardB, eff, evo, get_cons, put_cons, put_nil, stput_some, happ]; rfl) ?_)
 refine WC.seq (WC.seq (WC.reg (own := []) (by simp [f118.r1, runO, asData, guardB, eff, evo, get_cons, put_cons, put_nil, stput_some, happ, binD, binI, hneg]; rfl) ?_))
 refine WC.cond (t := false) (by simp [evo, get_cons]) (WC.skip ?_)
 refine WC.seq (WC.seq (WC.reg (own := []) (by simp [f118.r3, runO, asData, guardB, eff, evo, get_cons, put_cons, put_nil, stput_some, happ, binD, binI, lenV, hw, hw0]; rfl) ?_))
 refine WC.seq (WC.reg (own := []) (by simp [f118.r4, runO, asData, guardB, eff, evo, get_cons, put_cons, put_nil, stput_some, happ, binD, binI]; rfl) ?_)
 by_cases h0 : n = 0
 ·subst h0
  refine WC.cond (t := false) (by simp [evo, get_cons]) (WC.skip ?_)
  refine WC.seq (WC.reg (own := []) (by simp [f118.r6, runO, asData, guardB, eff, evo, get_cons, put_cons, put_nil, stput_some, happ]; rfl) (WC.ret ?_))
  refine ⟨.nils, by simp [resV, f118, mapO, resOne, get_cons], _, Tidy.refl _ _, by simp [get_cons, row118], rfl⟩
 ·have hpos : 0 < n := by omega
  have hroom : n * 57 ≤ 1099511627776 := by omega
  have hroom2 : n ≤ 1099511627776 := by omega
  refine WC.cond (t := true) (by simp [evo, get_cons]; omega) ?_
  refine WC.reg (own := []) (by
   simp [f118.r5, runO, asData, guardB, eff, evo, get_cons, put_cons, put_nil, stput_some, happ, lenV, bounds, natOf, nbeq, nble, nblt, hpos, hroom, hroom2, roomB, okC, hput, liveB, hget, cutS]
   rfl) ?_
  refine WC.seq (WC.reg (own := []) (by simp [f118.r6, runO, asData, guardB, eff, evo, get_cons, put_cons, put_nil, stput_some, happ]; rfl) (WC.ret ?_))
  refine ⟨.sl 0 (n * 3) 0 0 3, by simp [resV, f118, mapO, resOne, get_cons], ⟨1, [(0, .sl 1 0 0 0 3)], [none, some (.cells [])]⟩, ?_, by simp [get_cons, row118, h0], by simp [heap118, h0]⟩
  rcases Tidy.shrink (h := n * 3) (sz := 3) (cs := (List.range (n * 3)).map fun i => [V.d (.str []), .d (.str []), .nils].getD (i % 3) .any) with h | h
  ·simpa using h
  ·exact absurd (by simp) h
end Fw.Tz

/-
 slices.Clone of an empty row of coefficients.
-/
namespace Fw.Tz
open Go Go.Proofs Fw.X
variable {W : World}
theorem f170_is : compFn P 170 = some f170 := by kernel_rfl
theorem c170 : callable P 170 = true := by kernel_rfl
theorem pc170_nil : PC P (gl W) 170 [.d (.list [])] (.d (.list [])) := by
 refine PC.ofE rfl (WF.body f170_is c170 (by simp [f170]) ?_)
 show WC P (gl W) (.seq (.region f170.r0) (.seq (.seq (.region f170.r1) (.cond (.t 4) (.seq (.region f170.r2) .ret) .skip)) (.seq (.region f170.r3) .ret))) ⟨8, [(0, .d (.list []))], []⟩ _
 refine WC.seq (WC.reg (own := []) (by simp [f170.r0, runO, asData, guardB, eff, evo, get_cons, put_cons, put_nil, stput_some, happ]; rfl) ?_)
 refine WC.seq (WC.seq (WC.regN 1 (own := []) (by simp [f170.r1, runO, asData, guardB, eff, evo, get_cons, put_cons, put_nil, stput_some, happ]; rfl) ?_))
 refine WO.eqEmpty (x := .t 3) (y := .c .nils) rfl rfl (by simp [evo, get_cons]) (by simp [evo, get_cons]) fun b => ?_
 refine ⟨_, by simp [put_cons, put_nil, stput_some]; rfl, WO.nil ?_⟩
 cases b with
 | true =>
  refine WC.cond (t := true) (by simp [evo, get_cons]) ?_
  refine WC.seq (WC.reg (own := []) (by simp [f170.r2, runO, asData, guardB, eff, evo, get_cons, put_cons, put_nil, stput_some, happ]; rfl) (WC.ret ?_))
  exact ⟨.nils, by simp [resV, f170, mapO, resOne, get_cons], .inl ⟨rfl, rfl⟩⟩
 | false =>
  refine WC.cond (t := false) (by simp [evo, get_cons]) (WC.skip ?_)
  refine WC.seq (WC.reg (own := [5]) (by
   simp [f170.r3, runO, asData, inO, guardB, eff, effF, evo, get_cons, put_cons, put_nil, stput_some, happ, sliceC, appendV, nbeq, nble, hget, okC, roomB]
   rfl) (WC.ret ?_))
  exact ⟨_, by simp [resV, f170, mapO, resOne, get_cons]; rfl, .inr (by simp [deepV]; rfl)⟩
end Fw.Tz
