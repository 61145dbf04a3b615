/-
  AgreeUnique: the call returns true.
-/
import Derived.Test.YtgfgckimecpmlaaGreatDoorTm
import Derived.Test.YtgfgckimecpmlaaGreatDoorTd
import Derived.Test.YtgfgckimecpmlaaGreatDoorFg
import Derived.Test.YtgfgckimecpmlaaGreatDoorTe
import Derived.Test.YtgfgckimecpmlaaGreatDoorTc
import Derived.Test.YtgfgckimecpmlaaGreatDoorTl
import Derived.Test.YtgfgckimecpmlaaGreatDoorTf

set_option linter.unusedSimpArgs false
set_option maxRecDepth 1000000
set_option maxHeartbeats 4000000
namespace Fw.Tz.Lu
open Go Go.Proofs Fw.X Fw.Tz Fw.Nu Fw.Tz.Na Fw.Tz.El Fw.Tz.Va Fw.Tz.Vb Fw.Tz.Vc Fw.Tz.Vd Fw.Tz.Vf Fw.Tz.Vh Fw.Tz.Eq Fw.Tz.Ew Fw.Tz.Fg Fw.Tz.Pp Fw.Tz.Pa Fw.Tz.Pb Fw.Tz.Pc Fw.Tz.Pd Fw.Tz.Ph Fw.Tz.Lp Fw.Tz.Ve
variable {W : World}
theorem frm_okc {c : Con} {a : List Lin} {x : List Bool} (h : fewC c = true) (hk : knownB c = true) (hf : frm [] [] c.gs c.ws = some (a, x)) : Okc c [] a x := by
  obtain ⟨k1, k2, k3, k4, k5, k6, k7, k8, k9⟩ := fewC_all h
  obtain ⟨h1, h2⟩ := frm_len c.gs c.ws [] [] hf
  have := (fit_of hk).le
  refine ⟨(fewC_sm h).1, fun t ht => fewT_okD (k2 t ht), fewT_okD k6, by simp, ?_, by simp at h1; omega⟩
  rcases h2 with rfl | ⟨g, hg, k, rfl⟩
  · exact ⟨by simp, by simp⟩
  · have hd := fewT_okD (k1 g hg)
    exact ⟨by have := hd.1; simp; omega, fun y hy => hd.2 y (List.mem_of_mem_take hy)⟩
end Fw.Tz.Lu

/-
  Lists of numbers and of truth values: what the library and the references compute over them.
-/
namespace Fw.Tz.Dm
open Go Go.Proofs Fw.X Fw.Tz Fw.Nu
variable {W : World}
noncomputable def rd (W : World) (ov : List (Nat × Bool)) (sp : List (Nat × V)) (n : Nat) (l : List IOper) (ks : List Nat) (tm : List (Nat × V)) (H : Heap) : Option (List V × Heap × List (Bool × Bool) × CallL) :=
  runDX [5] (gl W) (dcallOf (pcallX kt0 .e (rawX W kt0 .e 40)) (callX W kt0 .e (rawX W kt0 .e 40))) ov sp n l ks tm H
noncomputable def rg (W : World) (n : Nat) (N j : Nat) (bs : List Bool) (cur : Cur) (K : List Fr) (ks : List Nat) (tm : List (Nat × V)) (H : Heap) : Option XR :=
  runG [5] (gl W) (callX W kt0 .e (rawX W kt0 .e 40)) (pcallX kt0 .e (rawX W kt0 .e 40)) n N j bs cur K ks tm H
theorem s2 (hW : W0 W) (N j : Nat) (bs : List Bool) (m : Nat) (nw : List (Nat × V)) (H' : Heap) {cur c' : Cur} {K K' : List Fr} {n : Nat} {tm : List (Nat × V)} {H : Heap} {Q : Ex → St → Prop} (hq : CG P (gl W) c' K' n (upd m nw tm) H' Q) (h1 : ctlJ N j bs cur K = some (c', K') := by rfl) (h2 : rg W n N j bs cur K ((upd m nw tm).map Prod.fst) tm H = some (.tuple ((upd m nw tm).map Prod.snd), H') := by kernel_rfl) : CG P (gl W) cur K n tm H Q :=
  CG.st orders (callX_ok hW (ex0) _ (rawX_ok hW (ex0) 40)) (pcallX_ok hW (ex0) _ (rawX_ok hW (ex0) 40)) N j bs h1 h2 hq
theorem s1 (hW : W0 W) (N j : Nat) (bs : List Bool) (m : Nat) (nw : List (Nat × V)) {cur c' : Cur} {K K' : List Fr} {n : Nat} {tm : List (Nat × V)} {H : Heap} {Q : Ex → St → Prop} (hq : CG P (gl W) c' K' n (upd m nw tm) H Q) (h1 : ctlJ N j bs cur K = some (c', K') := by rfl) (h2 : rg W n N j bs cur K ((upd m nw tm).map Prod.fst) tm H = some (.tuple ((upd m nw tm).map Prod.snd), H) := by kernel_rfl) : CG P (gl W) cur K n tm H Q := s2 hW N j bs m nw H hq h1 h2
theorem s4 (hW : W0 W) (N j : Nat) (bs : List Bool) (m : Nat) (nw : List (Nat × V)) (hd : List (Nat × Box)) {cur c' : Cur} {K K' : List Fr} {n : Nat} {tm : List (Nat × V)} {H : Heap} {Q : Ex → St → Prop} (hq : CG P (gl W) c' K' n (upd m nw tm) (hpu hd H) Q) (h1 : ctlJ N j bs cur K = some (c', K') := by rfl) (h2 : rg W n N j bs cur K ((upd m nw tm).map Prod.fst) tm H = some (.tuple ((upd m nw tm).map Prod.snd), hpu hd H) := by kernel_rfl) : CG P (gl W) cur K n tm H Q := s2 hW N j bs m nw (hpu hd H) hq h1 h2
theorem s3 (hW : W0 W) (N j : Nat) (bs : List Bool) (tm' : List (Nat × V)) (H' : Heap) {cur c' : Cur} {K K' : List Fr} {n : Nat} {tm : List (Nat × V)} {H : Heap} {Q : Ex → St → Prop} (hq : CG P (gl W) c' K' n tm' H' Q) (h1 : ctlJ N j bs cur K = some (c', K') := by rfl) (h2 : rg W n N j bs cur K (tm'.map Prod.fst) tm H = some (.tuple (tm'.map Prod.snd), H') := by kernel_rfl) : CG P (gl W) cur K n tm H Q :=
  CG.st orders (callX_ok hW (ex0) _ (rawX_ok hW (ex0) 40)) (pcallX_ok hW (ex0) _ (rawX_ok hW (ex0) 40)) N j bs h1 h2 hq
theorem wrapS {a b : Int} (h : -9223372036854775808 ≤ a - b ∧ a - b ≤ 9223372036854775807) : wrapF .i64 (a - b) = a - b := by
  rw [wrapF_eq, IntKind.wrap_i64]; omega
theorem drop_at {α : Type} {l : List α} {i : Nat} {x : α} (h : l[i]? = some x) : l.drop i = x :: l.drop (i + 1) := by
  obtain ⟨hlt, he⟩ := List.getElem?_eq_some_iff.1 h
  rw [List.drop_eq_getElem_cons hlt, he]
def encI (n : Int) : List D := [.int .i64 n]
def encB (b : Bool) : List D := [.bool b]
def encL (l : List Int) : List D := [.list (l.map encI)]
def neg (n : Int) : Bool := iLt n 0
def fiV : Option Nat → V
  | some i => .d (.int .i64 (.ofNat i))
  | none => .d (.int .i64 (-1))
theorem pc_eqInts (hW : W0 W) (a b : List Int) (ha : a.length < 1099511627776) : PC P (gl W) 85 [.d (.list (a.map encI)), .d (.list (b.map encI))] (.d (.bool (a == b))) := by
  refine CG.start is85 ca85 rfl ?_
  refine s1 hW 7 0 [] 3 [(4, (bo false)), (10, (bo (!iEq (Int.ofNat (List.length (List.map encI a))) (Int.ofNat (List.length (List.map encI b))))))] ?_
  refine spEqN (List.length (List.map encI a)) (List.length (List.map encI b)) (fun q7 p7 => ?_) (fun q7 p7 => ?_) <;> simp only [zz] at p7
  refine CG.condF (b := (!iEq (Int.ofNat (List.length (List.map encI a))) (Int.ofNat (List.length (List.map encI b))))) (by rw [q7]; rfl) (by kernel_rfl) ?_
  refine s1 hW 7 0 [] 7 [(12, (no (List.length (List.map encI a)))), (13, (io 0))] ?_
  rotate_left
  refine CG.condT (b := (!iEq (Int.ofNat (List.length (List.map encI a))) (Int.ofNat (List.length (List.map encI b))))) (by rw [q7]; rfl) (by kernel_rfl) ?_
  refine s1 hW 3 0 [] 7 [] ?_
  refine CG.ret (v' := (bo false)) (by kernel_rfl) ?_
  rotate_left
  · refine CG.loopL a (fun i u => [(0, (lo encI a)), (1, (lo encI b)), (4, (bo false)), (12, (no (List.length (List.map encI a)))), (13, .d (.int .i64 (.ofNat i)))]) (fun i u => []) (fun i u r => ((r == b.drop i) = (a == b))) () ?_ (Tidy.refl _ _) ?_ ?_
    · simp
    · intro i u hi hd hinv
      refine s1 hW 4 0 [] 23 [(14, (bo (iLt (Int.ofNat i) (Int.ofNat (List.length (List.map encI a))))))] ?_
      refine CG.condF (show (iLt (Int.ofNat i) (Int.ofNat (List.length (List.map encI a)))) = false from f_lt (by (try simp only [zz] at *) <;> omega)) (by kernel_rfl) ?_
      refine CG.exitL (by decide) ?_
      refine s1 hW 5 0 [] 0 [(4, (bo true))] ?_
      refine CG.ret (v' := (bo true)) (by kernel_rfl) ?_
      rotate_left
      rw [← hinv, show b.drop i = [] from List.drop_of_length_le (by omega)]; rfl
    · intro i u x r hd hx hlt hinv
      obtain ⟨y, hy⟩ : ∃ y, b[i]? = some y := ⟨_, List.getElem?_eq_getElem (by omega)⟩
      rw [drop_at hy, List.cons_beq_cons] at hinv
      refine s1 hW 4 0 [] 31 [(14, (bo (iLt (Int.ofNat i) (Int.ofNat (List.length (List.map encI a))))))] ?_
      refine CG.condT (show (iLt (Int.ofNat i) (Int.ofNat (List.length (List.map encI a)))) = true from t_lt (by (try simp only [zz] at *) <;> omega)) (by kernel_rfl) ?_
      refine s1 hW 8 0 [] 31 [(5, (no i))] ?_
      refine CG.drawA orders (by kernel_rfl) (by kernel_rfl) ?_
      refine AO.rd 2 [(16, (lo encI a)), (17, (no i))] (by kernel_rfl) ?_
      refine AO.idx (idx_map (enc := encI) hx) rfl (by kernel_rfl) (by kernel_rfl) (by kernel_rfl) rfl ?_
      refine AO.rd 3 [(19, (io x)), (20, (lo encI b)), (21, (no i))] (by kernel_rfl) ?_
      refine AO.idx (idx_map (enc := encI) hy) rfl (by kernel_rfl) (by kernel_rfl) (by kernel_rfl) rfl ?_
      refine AO.rd 2 [(23, (io y)), (24, (bo (x != y)))] (by kernel_rfl) ?_
      refine AO.done [0, 1, 4, 12, 13, 24] rfl rfl (by kernel_rfl) ?_
      refine s1 hW 1 0 [] 63 [] ?_
      refine spBn x y (fun q18 p18 => ?_) (fun q18 p18 => ?_)
      refine CG.condT q18 (by kernel_rfl) ?_
      refine s1 hW 3 0 [] 31 [] ?_
      refine CG.retL (v' := (bo false)) (by kernel_rfl) ?_
      rotate_left
      refine CG.condF q18 (by kernel_rfl) ?_
      refine s3 hW 3 2 [] [(0, (lo encI a)), (1, (lo encI b)), (4, (bo false)), (12, (no (List.length (List.map encI a)))), (13, (io (wrapF IntKind.i64 (iAdd (Int.ofNat i) 1))))] ([]) ?_
      refine CG.endL rfl ?_
      rw [wrapI (by omega)]
      rotate_left
      all_goals first
        | exact ⟨(), by rw [← hinv, show (x == y) = true from by first | assumption | simpa using (by assumption : x = y)]; simp, Tidy.refl _ _⟩
        | (rw [← hinv, show (x == y) = false from by first | assumption | simpa using (by assumption : x ≠ y)]; rfl)
  · have : a ≠ b := by rintro rfl; omega
    simp [this]
theorem pc_sameInts (hW : W0 W) (a b : List Int) (ha : a.length < 1099511627776) : PC P (gl W) 36 [.d (.list (a.map encI)), .d (.list (b.map encI))] (.d (.bool (a == b))) := by
  refine CG.start is36 ca36 rfl ?_
  refine s1 hW 7 0 [] 3 [(4, (bo false)), (10, (bo (!iEq (Int.ofNat (List.length (List.map encI a))) (Int.ofNat (List.length (List.map encI b))))))] ?_
  refine spEqN (List.length (List.map encI a)) (List.length (List.map encI b)) (fun q7 p7 => ?_) (fun q7 p7 => ?_) <;> simp only [zz] at p7
  refine CG.condF (b := (!iEq (Int.ofNat (List.length (List.map encI a))) (Int.ofNat (List.length (List.map encI b))))) (by rw [q7]; rfl) (by kernel_rfl) ?_
  refine s1 hW 7 0 [] 7 [(5, (io 0))] ?_
  rotate_left
  refine CG.condT (b := (!iEq (Int.ofNat (List.length (List.map encI a))) (Int.ofNat (List.length (List.map encI b))))) (by rw [q7]; rfl) (by kernel_rfl) ?_
  refine s1 hW 3 0 [] 7 [] ?_
  refine CG.ret (v' := (bo false)) (by kernel_rfl) ?_
  rotate_left
  · refine CG.loopL a (fun i u => [(0, (lo encI a)), (1, (lo encI b)), (4, (bo false)), (5, .d (.int .i64 (.ofNat i)))]) (fun i u => []) (fun i u r => ((r == b.drop i) = (a == b))) () ?_ (Tidy.refl _ _) ?_ ?_
    · simp
    · intro i u hi hd hinv
      refine s1 hW 4 0 [] 15 [(14, (bo (iLt (Int.ofNat i) (Int.ofNat (List.length (List.map encI a))))))] ?_
      refine CG.condF (show (iLt (Int.ofNat i) (Int.ofNat (List.length (List.map encI a)))) = false from f_lt (by (try simp only [zz] at *) <;> omega)) (by kernel_rfl) ?_
      refine CG.exitL (by decide) ?_
      refine s1 hW 5 0 [] 0 [(4, (bo true))] ?_
      refine CG.ret (v' := (bo true)) (by kernel_rfl) ?_
      rotate_left
      rw [← hinv, show b.drop i = [] from List.drop_of_length_le (by omega)]; rfl
    · intro i u x r hd hx hlt hinv
      obtain ⟨y, hy⟩ : ∃ y, b[i]? = some y := ⟨_, List.getElem?_eq_getElem (by omega)⟩
      rw [drop_at hy, List.cons_beq_cons] at hinv
      refine s1 hW 4 0 [] 15 [(14, (bo (iLt (Int.ofNat i) (Int.ofNat (List.length (List.map encI a))))))] ?_
      refine CG.condT (show (iLt (Int.ofNat i) (Int.ofNat (List.length (List.map encI a)))) = true from t_lt (by (try simp only [zz] at *) <;> omega)) (by kernel_rfl) ?_
      refine s1 hW 5 0 [] 15 [] ?_
      refine CG.drawA orders (by kernel_rfl) (by kernel_rfl) ?_
      refine AO.rd 2 [(17, (lo encI a)), (18, (no i))] (by kernel_rfl) ?_
      refine AO.idx (idx_map (enc := encI) hx) rfl (by kernel_rfl) (by kernel_rfl) (by kernel_rfl) rfl ?_
      refine AO.rd 3 [(20, (io x)), (21, (lo encI b)), (22, (no i))] (by kernel_rfl) ?_
      refine AO.idx (idx_map (enc := encI) hy) rfl (by kernel_rfl) (by kernel_rfl) (by kernel_rfl) rfl ?_
      refine AO.rd 2 [(24, (io y)), (25, (bo (x != y)))] (by kernel_rfl) ?_
      refine AO.done [0, 1, 4, 5, 25] rfl rfl (by kernel_rfl) ?_
      refine s1 hW 1 0 [] 31 [] ?_
      refine spBn x y (fun q18 p18 => ?_) (fun q18 p18 => ?_)
      refine CG.condT q18 (by kernel_rfl) ?_
      refine s1 hW 3 0 [] 15 [] ?_
      refine CG.retL (v' := (bo false)) (by kernel_rfl) ?_
      rotate_left
      refine CG.condF q18 (by kernel_rfl) ?_
      refine s3 hW 3 3 [] [(0, (lo encI a)), (1, (lo encI b)), (4, (bo false)), (5, (io (wrapF IntKind.i64 (iAdd (Int.ofNat i) 1))))] ([]) ?_
      refine CG.endL rfl ?_
      rw [wrapI (by omega)]
      rotate_left
      all_goals first
        | exact ⟨(), by rw [← hinv, show (x == y) = true from by first | assumption | simpa using (by assumption : x = y)]; simp, Tidy.refl _ _⟩
        | (rw [← hinv, show (x == y) = false from by first | assumption | simpa using (by assumption : x ≠ y)]; rfl)
  · have : a ≠ b := by rintro rfl; omega
    simp [this]
theorem pc_sameFramed (hW : W0 W) (a b : List Bool) (ha : a.length < 1099511627776) : PC P (gl W) 21 [.d (.list (a.map encB)), .d (.list (b.map encB))] (.d (.bool (a == b))) := by
  refine CG.start is21 ca21 rfl ?_
  refine s1 hW 7 0 [] 3 [(4, (bo false)), (10, (bo (!iEq (Int.ofNat (List.length (List.map encB a))) (Int.ofNat (List.length (List.map encB b))))))] ?_
  refine spEqN (List.length (List.map encB a)) (List.length (List.map encB b)) (fun q7 p7 => ?_) (fun q7 p7 => ?_) <;> simp only [zz] at p7
  refine CG.condF (b := (!iEq (Int.ofNat (List.length (List.map encB a))) (Int.ofNat (List.length (List.map encB b))))) (by rw [q7]; rfl) (by kernel_rfl) ?_
  refine s1 hW 7 0 [] 7 [(5, (io 0))] ?_
  rotate_left
  refine CG.condT (b := (!iEq (Int.ofNat (List.length (List.map encB a))) (Int.ofNat (List.length (List.map encB b))))) (by rw [q7]; rfl) (by kernel_rfl) ?_
  refine s1 hW 3 0 [] 7 [] ?_
  refine CG.ret (v' := (bo false)) (by kernel_rfl) ?_
  rotate_left
  · refine CG.loopL a (fun i u => [(0, (lo encB a)), (1, (lo encB b)), (4, (bo false)), (5, .d (.int .i64 (.ofNat i)))]) (fun i u => []) (fun i u r => ((r == b.drop i) = (a == b))) () ?_ (Tidy.refl _ _) ?_ ?_
    · simp
    · intro i u hi hd hinv
      refine s1 hW 4 0 [] 15 [(14, (bo (iLt (Int.ofNat i) (Int.ofNat (List.length (List.map encB a))))))] ?_
      refine CG.condF (show (iLt (Int.ofNat i) (Int.ofNat (List.length (List.map encB a)))) = false from f_lt (by (try simp only [zz] at *) <;> omega)) (by kernel_rfl) ?_
      refine CG.exitL (by decide) ?_
      refine s1 hW 5 0 [] 0 [(4, (bo true))] ?_
      refine CG.ret (v' := (bo true)) (by kernel_rfl) ?_
      rotate_left
      rw [← hinv, show b.drop i = [] from List.drop_of_length_le (by omega)]; rfl
    · intro i u x r hd hx hlt hinv
      obtain ⟨y, hy⟩ : ∃ y, b[i]? = some y := ⟨_, List.getElem?_eq_getElem (by omega)⟩
      rw [drop_at hy, List.cons_beq_cons] at hinv
      refine s1 hW 4 0 [] 15 [(14, (bo (iLt (Int.ofNat i) (Int.ofNat (List.length (List.map encB a))))))] ?_
      refine CG.condT (show (iLt (Int.ofNat i) (Int.ofNat (List.length (List.map encB a)))) = true from t_lt (by (try simp only [zz] at *) <;> omega)) (by kernel_rfl) ?_
      refine s1 hW 5 0 [] 15 [] ?_
      refine CG.drawA orders (by kernel_rfl) (by kernel_rfl) ?_
      refine AO.rd 2 [(17, (lo encB a)), (18, (no i))] (by kernel_rfl) ?_
      refine AO.idx (idx_map (enc := encB) hx) rfl (by kernel_rfl) (by kernel_rfl) (by kernel_rfl) rfl ?_
      refine AO.rd 3 [(20, (bo x)), (21, (lo encB b)), (22, (no i))] (by kernel_rfl) ?_
      refine AO.idx (idx_map (enc := encB) hy) rfl (by kernel_rfl) (by kernel_rfl) (by kernel_rfl) rfl ?_
      refine AO.rd 2 [(24, (bo y)), (25, (bo (!x == y)))] (by kernel_rfl) ?_
      refine AO.done [0, 1, 4, 5, 25] rfl rfl (by kernel_rfl) ?_
      refine s1 hW 1 0 [] 31 [] ?_
      refine sp (x == y) (fun q18 => ?_) (fun q18 => ?_)
      refine CG.condF (b := (!x == y)) (by rw [q18]; rfl) (by kernel_rfl) ?_
      refine s3 hW 3 3 [] [(0, (lo encB a)), (1, (lo encB b)), (4, (bo false)), (5, (io (wrapF IntKind.i64 (iAdd (Int.ofNat i) 1))))] ([]) ?_
      refine CG.endL rfl ?_
      rw [wrapI (by omega)]
      rotate_left
      refine CG.condT (b := (!x == y)) (by rw [q18]; rfl) (by kernel_rfl) ?_
      refine s1 hW 3 0 [] 15 [] ?_
      refine CG.retL (v' := (bo false)) (by kernel_rfl) ?_
      rotate_left
      all_goals first
        | exact ⟨(), by rw [← hinv, show (x == y) = true from by first | assumption | simpa using (by assumption : x = y)]; simp, Tidy.refl _ _⟩
        | (rw [← hinv, show (x == y) = false from by first | assumption | simpa using (by assumption : x ≠ y)]; rfl)
  · have : a ≠ b := by rintro rfl; omega
    simp [this]
theorem pc_negIdx (hW : W0 W) (l : List Int) (hl : l.length < 1099511627776) : PC P (gl W) 139 [.d (.list (l.map encI)), .func 80 [] []] (fiV (l.findIdx? neg)) := by
  refine CG.start is139 ca139 rfl ?_
  refine s1 hW 8 0 [] 3 [(4, (io 0)), (7, (no (List.length (List.map encI l)))), (8, (io 0))] ?_
  rotate_left
  refine CG.loopL l (fun i u => [(0, (lo encI l)), (1, (.func 80 [] [])), (4, (io 0)), (7, (no (List.length (List.map encI l)))), (8, .d (.int .i64 (.ofNat i)))]) (fun i u => []) (fun i u r => (fiV (l.findIdx? neg) = fiV ((r.findIdx? neg).map (· + i)))) () ?_ (Tidy.refl _ _) ?_ ?_
  · cases l.findIdx? neg <;> rfl
  · intro i u hi hd hinv
    refine s1 hW 4 0 [] 23 [(9, (bo (iLt (Int.ofNat i) (Int.ofNat (List.length (List.map encI l))))))] ?_
    refine CG.condF (show (iLt (Int.ofNat i) (Int.ofNat (List.length (List.map encI l)))) = false from f_lt (by (try simp only [zz] at *) <;> omega)) (by kernel_rfl) ?_
    refine CG.exitL (by decide) ?_
    refine s1 hW 5 0 [] 0 [(4, (io (-1)))] ?_
    refine CG.ret (v' := (io (-1))) (by kernel_rfl) ?_
    rotate_left
    rw [hinv]; rfl
  · intro i u x r hd hx hlt hinv
    refine s1 hW 4 0 [] 31 [(9, (bo (iLt (Int.ofNat i) (Int.ofNat (List.length (List.map encI l))))))] ?_
    refine CG.condT (show (iLt (Int.ofNat i) (Int.ofNat (List.length (List.map encI l)))) = true from t_lt (by (try simp only [zz] at *) <;> omega)) (by kernel_rfl) ?_
    refine s1 hW 8 3 [] 31 [(5, (no i)), (11, (.func 80 [] [])), (12, (lo encI l)), (13, (no i))] ?_
    refine CG.ix (idx_map (enc := encI) hx) rfl (by kernel_rfl) ?_
    refine s1 hW 2 0 [] 63 [(16, (bo (iLt x 0)))] ?_
    refine spLt x 0 (fun q13 p13 => ?_) (fun q13 p13 => ?_)
    refine CG.condT q13 (by kernel_rfl) ?_
    refine s1 hW 3 0 [] 51 [(4, (no i))] ?_
    refine CG.retL (v' := (no i)) (by kernel_rfl) ?_
    rotate_left
    refine CG.condF q13 (by kernel_rfl) ?_
    refine s3 hW 3 2 [] [(0, (lo encI l)), (1, (.func 80 [] [])), (4, (io 0)), (7, (no (List.length (List.map encI l)))), (8, (io (wrapF IntKind.i64 (iAdd (Int.ofNat i) 1))))] ([]) ?_
    refine CG.endL rfl ?_
    rw [wrapI (by omega)]
    rotate_left
    · rw [hinv, List.findIdx?_cons, show neg x = true by assumption]; simp [fiV]
    · refine ⟨(), ?_, Tidy.refl _ _⟩
      rw [hinv, List.findIdx?_cons, show neg x = false by assumption]
      cases r.findIdx? neg <;> simp [fiV]
      omega
theorem pc_cloneInts (hW : W0 W) (a : Int) (l : List Int) (hl : (a :: l).length < 1073741824) : PC P (gl W) 84 [.d (.list ((a :: l).map encI))] (.d (.list ((a :: l).map encI))) := by
  refine CG.start is84 ca84 rfl ?_
  refine s4 hW 11 2 [false] 0 [(2, .nils), (5, (.sl 0 0 0 0 1)), (6, (.d (.list ([(.int .i64 a)] :: (List.map encI l)))))] [(0, (.cells []))] ?_
  rotate_left
  refine CG.is [(2, .nils), (5, .sl 0 (List.length ([] : List Int) * 1) 0 (List.length ([] : List Int)) 1), (6, (.d (.list ([(.int .i64 a)] :: (List.map encI l)))))] ([some (cellE encI ([] : List Int))]) (by kernel_rfl) ?_
  refine CG.apC encI [] (a :: l) 0 (fun _ => rfl) rfl (by kernel_rfl) (sliceC_map (enc := encI) (fun _ => rfl) _ (a :: l)) (by (try simp only [zz] at *) <;> omega) ?_
  refine s1 hW 2 0 [] 0 [(2, (.sl 0 (List.length ([] ++ a :: l) * 1) 0 (List.length ([] ++ a :: l)) 1))] ?_
  rotate_left
  refine CG.tidy (Tidy.frzC (sz := 1) encI ([] ++ a :: l) 0 2 (tm' := [(2, (.d (.list (List.map encI ([] ++ a :: l)))))]) (H' := [none]) (fun _ => rfl) (by kernel_rfl) (by kernel_rfl) ⟨.inl rfl, trivial⟩ (by kernel_rfl) (by kernel_rfl)) ?_
  refine CG.ret (v' := (.d (.list ([(.int .i64 a)] :: (List.map encI l))))) (by kernel_rfl) ?_
  rfl
theorem pc_negAny (hW : W0 W) (l : List Int) (hl : l.length < 1099511627776) : PC P (gl W) 81 [.d (.list (l.map encI)), .func 80 [] []] (.d (.bool (l.any neg))) := by
  refine CG.start is81 ca81 rfl ?_
  refine s1 hW 4 2 [] 0 [(4, (bo false)), (5, (lo encI l)), (6, (.func 80 [] []))] ?_
  refine CG.pg ((pc_negIdx hW l) (by first | assumption | exact (by (try simp only [zz] at *) <;> omega))) rfl (by kernel_rfl) ?_
  rotate_left
  have : l.any neg = (l.findIdx? neg).isSome := by rw [List.findIdx?_isSome]
  rw [this]
  cases l.findIdx? neg with
  | none => refine s1 hW 2 0 [] 1 [] ?_
            refine CG.ret (v' := (bo false)) (by kernel_rfl) ?_
            rfl
  | some i => refine s1 hW 2 0 [] 0 [(4, (bo true))] ?_
              refine CG.ret (v' := (bo true)) (by kernel_rfl) ?_
              rfl
def hN : Heap := [some (.cells [.func 80 [] []])]
theorem wf_negRow (hW : W0 W) (l : List Int) (hl : l.length < 1099511627776) : WF P (gl W) 83 [.d (.list (l.map encI)), .ptr 0 1 0] hN (Same (.d (.bool (l.any neg))) hN) := by
  refine CG.startW is83 ca83 rfl ?_
  refine s1 hW 4 2 [] 0 [(3, (bo false)), (4, (lo encI l)), (5, (.func 80 [] []))] ?_
  refine CG.pg ((pc_negAny hW l) (by first | assumption | exact (by (try simp only [zz] at *) <;> omega))) rfl (by kernel_rfl) ?_
  refine s1 hW 2 0 [] 0 [(3, (bo (List.any l neg)))] ?_
  refine CG.retW (v' := (bo (List.any l neg))) (by kernel_rfl) ?_
  rotate_left
  exact ⟨rfl, rfl⟩
theorem wf_rowsIdx (hW : W0 W) (l : List (List Int)) (hl : l.length < 1099511627776) (hr : ∀ r ∈ l, r.length < 1099511627776) : WF P (gl W) 140 [.d (.list (l.map encL)), .func 83 [] [.ptr 0 1 0]] hN (Same (fiV (l.findIdx? (fun r => r.any neg))) hN) := by
  refine CG.startW is140 ca140 rfl ?_
  refine s1 hW 8 0 [] 3 [(4, (io 0)), (7, (no (List.length (List.map encL l)))), (8, (io 0))] ?_
  rotate_left
  refine CG.loopL l (fun i u => [(0, (lo encL l)), (1, (.func 83 [] [(.ptr 0 1 0)])), (4, (io 0)), (7, (no (List.length (List.map encL l)))), (8, .d (.int .i64 (.ofNat i)))]) (fun i u => [some (.cells [(.func 80 [] [])])]) (fun i u r => (fiV (l.findIdx? (fun r => r.any neg)) = fiV ((r.findIdx? (fun r => r.any neg)).map (· + i)))) () ?_ (Tidy.refl _ _) ?_ ?_
  · cases l.findIdx? (fun r => r.any neg) <;> rfl
  · intro i u hi hd hinv
    refine s1 hW 4 0 [] 23 [(9, (bo (iLt (Int.ofNat i) (Int.ofNat (List.length (List.map encL l))))))] ?_
    refine CG.condF (show (iLt (Int.ofNat i) (Int.ofNat (List.length (List.map encL l)))) = false from f_lt (by (try simp only [zz] at *) <;> omega)) (by kernel_rfl) ?_
    refine CG.exitL (by decide) ?_
    refine s1 hW 5 0 [] 0 [(4, (io (-1)))] ?_
    refine CG.retW (v' := (io (-1))) (by kernel_rfl) ?_
    rotate_left
    exact ⟨by rw [hinv]; rfl, rfl⟩
  · intro i u x r hd hx hlt hinv
    have hxl : x.length < 1099511627776 := hr x (List.mem_of_getElem? hx)
    refine s1 hW 4 0 [] 31 [(9, (bo (iLt (Int.ofNat i) (Int.ofNat (List.length (List.map encL l))))))] ?_
    refine CG.condT (show (iLt (Int.ofNat i) (Int.ofNat (List.length (List.map encL l)))) = true from t_lt (by (try simp only [zz] at *) <;> omega)) (by kernel_rfl) ?_
    refine s1 hW 8 3 [] 31 [(5, (no i)), (11, (.func 83 [] [(.ptr 0 1 0)])), (12, (lo encL l)), (13, (no i))] ?_
    refine CG.ix (idx_map (enc := encL) hx) rfl (by kernel_rfl) ?_
    refine s1 hW 0 1 [] 127 [(15, (lo encI x))] ?_
    refine CG.wfv (first := []) (cap := [(.ptr 0 1 0)]) ((wf_negRow hW x) (by first | assumption | exact (by (try simp only [zz] at *) <;> omega))) rfl (by kernel_rfl) (by kernel_rfl) (by kernel_rfl) rfl ?_
    refine s1 hW 2 0 [] 319 [] ?_
    refine sp (List.any x neg) (fun q15 => ?_) (fun q15 => ?_)
    refine CG.condT q15 (by kernel_rfl) ?_
    refine s1 hW 3 0 [] 51 [(4, (no i))] ?_
    refine CG.retLW (v' := (no i)) (by kernel_rfl) ?_
    rotate_left
    refine CG.condF q15 (by kernel_rfl) ?_
    refine s3 hW 3 2 [] [(0, (lo encL l)), (1, (.func 83 [] [(.ptr 0 1 0)])), (4, (io 0)), (7, (no (List.length (List.map encL l)))), (8, (io (wrapF IntKind.i64 (iAdd (Int.ofNat i) 1))))] ([some (.cells [(.func 80 [] [])])]) ?_
    refine CG.endL rfl ?_
    rw [wrapI (by omega)]
    rotate_left
    · rw [hinv, List.findIdx?_cons, show x.any neg = true by assumption]; exact ⟨by simp [fiV], rfl⟩
    · refine ⟨(), ?_, Tidy.refl _ _⟩
      rw [hinv, List.findIdx?_cons, show x.any neg = false by assumption]
      cases r.findIdx? (fun r => r.any neg) <;> simp [fiV]
      omega
theorem wf_rowsAny (hW : W0 W) (l : List (List Int)) (hl : l.length < 1099511627776) (hr : ∀ r ∈ l, r.length < 1099511627776) : WF P (gl W) 82 [.d (.list (l.map encL)), .func 83 [] [.ptr 0 1 0]] hN (Same (.d (.bool (l.any (fun r => r.any neg)))) hN) := by
  refine CG.startW is82 ca82 rfl ?_
  refine s1 hW 4 2 [] 0 [(4, (bo false)), (5, (lo encL l)), (6, (.func 83 [] [(.ptr 0 1 0)]))] ?_
  refine CG.wf ((wf_rowsIdx hW l) (by first | assumption | exact (by (try simp only [zz] at *) <;> omega)) (by first | assumption | exact (by (try simp only [zz] at *) <;> omega))) rfl rfl (by kernel_rfl) rfl ?_
  rotate_left
  have : l.any (fun r => r.any neg) = (l.findIdx? (fun r => r.any neg)).isSome := by rw [List.findIdx?_isSome]
  rw [this]
  cases l.findIdx? (fun r => r.any neg) with
  | none =>
    refine s1 hW 2 0 [] 1 [] ?_
    refine CG.retW (v' := (bo false)) (by kernel_rfl) ?_
    rotate_left
    exact ⟨rfl, rfl⟩
  | some i =>
    refine s1 hW 2 0 [] 0 [(4, (bo true))] ?_
    refine CG.retW (v' := (bo true)) (by kernel_rfl) ?_
    rotate_left
    exact ⟨rfl, rfl⟩
end Fw.Tz.Dm

/-
  Dims, of the program and of the reference, for any lists.
-/
namespace Fw.Tz.Da
open Go Go.Proofs Fw.X Fw.Tz Fw.Nu Fw.Tz.Dm
variable {W : World}
noncomputable def rg (W : World) (n : Nat) (N j : Nat) (bs : List Bool) (cur : Cur) (K : List Fr) (ks : List Nat) (tm : List (Nat × V)) (H : Heap) : Option XR :=
  runG [92] (gl W) (callX W kt0 .e (rawX W kt0 .e 40)) (pcallX kt0 .e (rawX W kt0 .e 40)) n N j bs cur K ks tm H
theorem s2 (hW : W0 W) (N j : Nat) (bs : List Bool) (m : Nat) (nw : List (Nat × V)) (H' : Heap) {cur c' : Cur} {K K' : List Fr} {n : Nat} {tm : List (Nat × V)} {H : Heap} {Q : Ex → St → Prop} (hq : CG P (gl W) c' K' n (upd m nw tm) H' Q) (h1 : ctlJ N j bs cur K = some (c', K') := by rfl) (h2 : rg W n N j bs cur K ((upd m nw tm).map Prod.fst) tm H = some (.tuple ((upd m nw tm).map Prod.snd), H') := by kernel_rfl) : CG P (gl W) cur K n tm H Q :=
  CG.st orders (callX_ok hW (ex0) _ (rawX_ok hW (ex0) 40)) (pcallX_ok hW (ex0) _ (rawX_ok hW (ex0) 40)) N j bs h1 h2 hq
theorem s1 (hW : W0 W) (N j : Nat) (bs : List Bool) (m : Nat) (nw : List (Nat × V)) {cur c' : Cur} {K K' : List Fr} {n : Nat} {tm : List (Nat × V)} {H : Heap} {Q : Ex → St → Prop} (hq : CG P (gl W) c' K' n (upd m nw tm) H Q) (h1 : ctlJ N j bs cur K = some (c', K') := by rfl) (h2 : rg W n N j bs cur K ((upd m nw tm).map Prod.fst) tm H = some (.tuple ((upd m nw tm).map Prod.snd), H) := by kernel_rfl) : CG P (gl W) cur K n tm H Q := s2 hW N j bs m nw H hq h1 h2
theorem s4 (hW : W0 W) (N j : Nat) (bs : List Bool) (m : Nat) (nw : List (Nat × V)) (hd : List (Nat × Box)) {cur c' : Cur} {K K' : List Fr} {n : Nat} {tm : List (Nat × V)} {H : Heap} {Q : Ex → St → Prop} (hq : CG P (gl W) c' K' n (upd m nw tm) (hpu hd H) Q) (h1 : ctlJ N j bs cur K = some (c', K') := by rfl) (h2 : rg W n N j bs cur K ((upd m nw tm).map Prod.fst) tm H = some (.tuple ((upd m nw tm).map Prod.snd), hpu hd H) := by kernel_rfl) : CG P (gl W) cur K n tm H Q := s2 hW N j bs m nw (hpu hd H) hq h1 h2
theorem s3 (hW : W0 W) (N j : Nat) (bs : List Bool) (tm' : List (Nat × V)) (H' : Heap) {cur c' : Cur} {K K' : List Fr} {n : Nat} {tm : List (Nat × V)} {H : Heap} {Q : Ex → St → Prop} (hq : CG P (gl W) c' K' n tm' H' Q) (h1 : ctlJ N j bs cur K = some (c', K') := by rfl) (h2 : rg W n N j bs cur K (tm'.map Prod.fst) tm H = some (.tuple (tm'.map Prod.snd), H') := by kernel_rfl) : CG P (gl W) cur K n tm H Q :=
  CG.st orders (callX_ok hW (ex0) _ (rawX_ok hW (ex0) 40)) (pcallX_ok hW (ex0) _ (rawX_ok hW (ex0) 40)) N j bs h1 h2 hq
def go : List (List Int) → List Int → List Int → List Bool → Bool → Option (List Int × List Bool × Bool)
  | l :: ls, k :: ks, fr, fd, eq =>
    if (l.length : Int) < k then none
    else if k < l.length ∧ fr ≠ [] ∧ (l.length : Int) - k ≠ fr.length then none
    else go ls ks (if k < l.length ∧ fr = [] then l.take (l.length - k.toNat) else fr) (fd ++ [decide (k < l.length)])
      (eq && (decide ((l.length : Int) = k) || (if k < l.length ∧ fr = [] then l.take (l.length - k.toNat) else fr) == l.take (l.length - k.toNat)))
  | _, _, fr, fd, eq => some (fr, fd, eq)
theorem go_cons {x : List Int} {k : Int} {m : Nat} (h0 : 0 ≤ k) (hm : (m : Int) = x.length - k) (r : List (List Int)) (ks fr : List Int) (fd : List Bool) (eq : Bool) : go (x :: r) (k :: ks) fr fd eq =
    if 0 < m ∧ 0 < fr.length ∧ m ≠ fr.length then none else
      go r ks (if 0 < m ∧ fr.length = 0 then x.take m else fr) (fd ++ [iLt 0 (.ofNat m)]) (eq && (decide (m = 0) || (if 0 < m ∧ fr.length = 0 then x.take m else fr) == x.take m)) := by
  have e0 : x.length - k.toNat = m := by omega
  have e1 : (k < (x.length : Int)) = (0 < m) := propext ⟨fun h => by omega, fun h => by omega⟩
  have e2 : (fr = []) = (fr.length = 0) := propext List.length_eq_zero_iff.symm
  have e3 : (fr ≠ []) = (0 < fr.length) := propext ⟨fun h => List.length_pos_iff.2 h, fun h => List.length_pos_iff.1 h⟩
  have e4 : ((x.length : Int) - k ≠ fr.length) = (m ≠ fr.length) := propext ⟨fun h => by omega, fun h => by omega⟩
  have e5 : decide ((x.length : Int) = k) = decide (m = 0) := by congr 1; exact propext ⟨fun h => by omega, fun h => by omega⟩
  have e6 : iLt 0 (Int.ofNat m) = decide (0 < m) := by rw [iLt_eq]; congr 1; exact propext ⟨fun h => by simpa using h, fun h => by simpa using h⟩
  rw [go, if_neg (by omega)]
  simp only [e0, e1, e2, e3, e4, e5, e6]
theorem pc_clone (hW : W0 W) (l : List Int) (h0 : 0 < l.length) (hl : l.length < 1073741824) : PC P (gl W) 84 [.d (.list (l.map Dm.encI))] (.d (.list (l.map Dm.encI))) := by
  cases l with
  | nil => simp at h0
  | cons a l => exact pc_cloneInts hW a l hl
def outV (fr : List Int) (fd : List Bool) (e : Int) : V := .tuple [.d (.list (fr.map encI)), .d (.list (fd.map encB)), .d (.int .i64 e)]
def dimsV : Option (List Int × List Bool × Bool) → V
  | none => outV [] [] 13
  | some (fr, fd, eq) => bif eq then outV fr fd 0 else outV [] [] 14
def badD (args : List (List Int)) (ranks : List Int) : Bool := decide (args.length ≠ ranks.length) || decide (16 < args.length) || ranks.any neg || args.any (fun r => r.any neg)
def dimsF (args : List (List Int)) (ranks : List Int) : V := bif badD args ranks then outV [] [] 1 else dimsV (go args ranks [] [] true)
theorem pc_dims (hW : W0 W) (args : List (List Int)) (ranks : List Int) (hl : args.length < 1048576) (hk : ranks.length < 1048576) (ha : ∀ r ∈ args, r.length < 1048576) (hr : ∀ k ∈ ranks, k ≤ 9223372036854775807) :
    PC P (gl W) 34 [.d (.list (args.map encL)), .d (.list (ranks.map encI))] (dimsF args ranks) := by
  refine CG.start is34 ca34 rfl ?_
  have ha' : ∀ r ∈ args, r.length < 1099511627776 := fun r h => by have := ha r h; omega
  refine s4 hW 8 6 [] 3 [(4, .nils), (5, .nils), (6, (io 0)), (7, (.ptr 0 1 0)), (17, (bo (!iEq (Int.ofNat (List.length (List.map encL args))) (Int.ofNat (List.length (List.map Dm.encI ranks))))))] [(0, (.cells [(.func 80 [] [])]))] ?_
  refine spEqN (List.length (List.map encL args)) (List.length (List.map Dm.encI ranks)) (fun q11 p11 => ?_) (fun q11 p11 => ?_) <;> simp only [zz] at p11
  rw [q11]
  refine s1 hW 0 5 [] 63 [(22, (bo (iLt 16 (Int.ofNat (List.length (List.map encL args))))))] ?_
  refine spLtN 16 (List.length (List.map encL args)) (fun q13 p13 => ?_) (fun q13 p13 => ?_) <;> simp only [zz] at p13
  have q14 : (iLt 16 (Int.ofNat (List.length (List.map encL args)))) = true := t_lt (by (try simp only [zz] at *) <;> omega)
  rw [q14]
  refine s1 hW 6 0 [true] 15 [(6, (io 1))] ?_
  refine CG.ret (v' := (.tuple [(.d (.list [])), (.d (.list [])), (io 1)])) (by kernel_rfl) ?_
  rotate_left
  have q15 : (iLt 16 (Int.ofNat (List.length (List.map encL args)))) = false := f_lt (by (try simp only [zz] at *) <;> omega)
  rw [q15]
  refine s1 hW 0 2 [] 127 [(23, (lo Dm.encI ranks)), (24, (.func 80 [] []))] ?_
  refine CG.pg ((pc_negAny hW ranks) (by first | assumption | exact (by (try simp only [zz] at *) <;> omega))) rfl (by kernel_rfl) ?_
  refine s1 hW 0 2 [] 63 [(27, (bo (List.any ranks neg)))] ?_
  refine sp (List.any ranks neg) (fun q16 => ?_) (fun q16 => ?_)
  rw [q16]
  refine s1 hW 6 0 [true] 15 [(6, (io 1))] ?_
  refine CG.ret (v' := (.tuple [(.d (.list [])), (.d (.list [])), (io 1)])) (by kernel_rfl) ?_
  rotate_left
  rw [q16]
  refine s1 hW 0 2 [] 95 [(28, (lo encL args)), (29, (.func 83 [] [(.ptr 0 1 0)]))] ?_
  refine CG.wf ((wf_rowsAny hW args) (by first | assumption | exact (by (try simp only [zz] at *) <;> omega)) (by first | assumption | exact (by (try simp only [zz] at *) <;> omega))) rfl (by kernel_rfl) (by kernel_rfl) rfl ?_
  refine s1 hW 2 0 [] 31 [(31, (bo (List.any args fun r => List.any r neg)))] ?_
  refine sp (List.any args fun r => List.any r neg) (fun q17 => ?_) (fun q17 => ?_)
  refine CG.condT q17 (by kernel_rfl) ?_
  refine s1 hW 3 0 [] 15 [(6, (io 1))] ?_
  refine CG.ret (v' := (.tuple [(.d (.list [])), (.d (.list [])), (io 1)])) (by kernel_rfl) ?_
  rotate_left
  refine CG.condF q17 (by kernel_rfl) ?_
  refine s1 hW 10 0 [] 30 [(8, (bo true)), (32, (lo encL args)), (33, (no (List.length (List.map encL args)))), (34, (io 0))] ?_
  rotate_left
  rw [q11]
  refine s1 hW 6 0 [true] 15 [(6, (io 1))] ?_
  refine CG.ret (v' := (.tuple [(.d (.list [])), (.d (.list [])), (io 1)])) (by kernel_rfl) ?_
  rotate_left
  · have : badD args ranks = true := by
      simp only [badD, Bool.or_eq_true, decide_eq_true_eq]
      exact .inl (.inl (.inr (by omega)))
    rw [dimsF, this]; rfl
  · have : badD args ranks = true := by
      simp only [badD, Bool.or_eq_true, decide_eq_true_eq]
      exact .inl (.inr (by assumption))
    rw [dimsF, this]; rfl
  · have : badD args ranks = true := by
      simp only [badD, Bool.or_eq_true, decide_eq_true_eq]
      exact .inr (by assumption)
    rw [dimsF, this]; rfl
  · have hb : badD args ranks = false := by
      simp only [badD, Bool.or_eq_false_iff, decide_eq_false_iff_not]
      exact ⟨⟨⟨by omega, by omega⟩, by assumption⟩, by assumption⟩
    refine CG.tidy (Tidy.nilD 4 (tm' := [(1, (lo Dm.encI ranks)), (4, .d (.list [])), (5, .nils), (6, (io 0)), (8, (bo true)), (32, (lo encL args)), (33, (no (List.length (List.map encL args)))), (34, (io 0))]) (by kernel_rfl) (by kernel_rfl)) ?_
    refine CG.tidy (Tidy.nilS 5 1 (tm' := [(1, (lo Dm.encI ranks)), (4, (.d (.list []))), (5, .sl 1 0 0 0 1), (6, (io 0)), (8, (bo true)), (32, (lo encL args)), (33, (no (List.length (List.map encL args)))), (34, (io 0))]) (Nat.le_refl _) (by kernel_rfl) (by kernel_rfl)) ?_
    refine CG.isH ([some (.cells [(.func 80 [] [])]), some .nil]) (by kernel_rfl) ?_
    refine CG.is [(1, (lo Dm.encI ranks)), (4, (.d (.list []))), (5, .sl 1 (List.length ([] : List Bool) * 1) 0 (List.length ([] : List Bool)) 1), (6, (io 0)), (8, (bo true)), (32, (lo encL args)), (33, (no (List.length (List.map encL args)))), (34, (io 0))] ([some (.cells [(.func 80 [] [])]), some (rowE encB ([] : List Bool))]) (by kernel_rfl) ?_
    refine CG.loopL args (fun i a => [(1, (lo Dm.encI ranks)), (4, .d (.list (a.1.map encI))), (5, .sl 1 (a.2.1.length * 1) 0 a.2.1.length 1), (6, (io 0)), (8, .d (.bool a.2.2)), (32, (lo encL args)), (33, (no (List.length (List.map encL args)))), (34, .d (.int .i64 (.ofNat i)))]) (fun i a => [some (.cells [(.func 80 [] [])]), some (rowE encB a.2.1)]) (fun i a r => (dimsV (go args ranks [] [] true) = dimsV (go r (ranks.drop i) a.1 a.2.1 a.2.2) ∧ a.2.1.length = i)) (([], [], true) : List Int × List Bool × Bool) ?_ (Tidy.refl _ _) ?_ ?_
    · exact ⟨rfl, rfl⟩
    · rintro i ⟨fr, fd, eq⟩ hi hd ⟨hinv, hfd⟩
      dsimp only at hinv hfd ⊢
      have hR : dimsF args ranks = dimsV (some (fr, fd, eq)) := by
        rw [dimsF, hb, cond_false, hinv]; simp [go]
      rw [hR]
      cases eq with
      | true =>
        refine s1 hW 4 0 [] 191 [(35, (bo (iLt (Int.ofNat i) (Int.ofNat (List.length (List.map encL args))))))] ?_
        refine CG.condF (show (iLt (Int.ofNat i) (Int.ofNat (List.length (List.map encL args)))) = false from f_lt (by (try simp only [zz] at *) <;> omega)) (by kernel_rfl) ?_
        refine CG.exitL (by decide) ?_
        refine s1 hW 12 0 [false] 14 [] ?_
        rotate_left
        refine CG.tidy (Tidy.frzE (sz := 1) encB fd 1 5 (tm' := [(4, (lo Dm.encI fr)), (5, (.d (.list (List.map encB fd)))), (6, (io 0))]) (H' := [some (.cells [(.func 80 [] [])]), none]) (fun _ => rfl) (by kernel_rfl) (by kernel_rfl) ⟨.inr rfl, ⟨.inl rfl, trivial⟩⟩ (by kernel_rfl) (by kernel_rfl)) ?_
        refine CG.ret (v' := (.tuple [(lo Dm.encI fr), (lo encB fd), (io 0)])) (by kernel_rfl) ?_
        rfl
      | false => refine s1 hW 4 0 [] 191 [(35, (bo (iLt (Int.ofNat i) (Int.ofNat (List.length (List.map encL args))))))] ?_
                 refine CG.condF (show (iLt (Int.ofNat i) (Int.ofNat (List.length (List.map encL args)))) = false from f_lt (by (try simp only [zz] at *) <;> omega)) (by kernel_rfl) ?_
                 refine CG.exitL (by decide) ?_
                 refine s1 hW 10 0 [true] 0 [(4, .nils), (5, .nils), (6, (io 14))] ?_
                 refine CG.ret (v' := (.tuple [(.d (.list [])), (.d (.list [])), (io 14)])) (by kernel_rfl) ?_
                 rfl
    · rintro i ⟨fr, fd, eq⟩ x r hd hx hlt ⟨hinv, hfd⟩
      dsimp only at hinv hfd ⊢
      obtain ⟨k, hk1⟩ : ∃ k, ranks[i]? = some k := ⟨_, List.getElem?_eq_getElem (by omega)⟩
      have hxl := ha x (List.mem_of_getElem? hx)
      have hk2 := hr k (List.mem_of_getElem? hk1)
      have hk0 : 0 ≤ k := by
        have h : ranks.any neg = false := by assumption
        rw [List.any_eq_false] at h
        exact ltF (by simpa [neg] using h k (List.mem_of_getElem? hk1))
      rw [drop_at hk1] at hinv
      refine s1 hW 4 0 [] 255 [(35, (bo (iLt (Int.ofNat i) (Int.ofNat (List.length (List.map encL args))))))] ?_
      refine CG.condT (show (iLt (Int.ofNat i) (Int.ofNat (List.length (List.map encL args)))) = true from t_lt (by (try simp only [zz] at *) <;> omega)) (by kernel_rfl) ?_
      refine s1 hW 5 1 [] 255 [(36, (no i))] ?_
      refine CG.ix (idx_map (enc := encL) hx) rfl (by kernel_rfl) ?_
      refine s1 hW 3 4 [] 255 [(10, (lo Dm.encI x)), (40, (no (List.length (List.map Dm.encI x)))), (41, (lo Dm.encI ranks)), (42, (no i))] ?_
      refine CG.ix (idx_map (enc := Dm.encI) hk1) rfl (by kernel_rfl) ?_
      refine s1 hW 4 3 [] 511 [(11, (io (wrapF IntKind.i64 (Int.ofNat (List.length (List.map Dm.encI x)) - k)))), (48, (bo (iLt (wrapF IntKind.i64 (Int.ofNat (List.length (List.map Dm.encI x)) - k)) 0)))] ?_
      rw [wrapS (by simp only [Int.ofNat_eq_natCast, List.length_map]; omega)]
      by_cases hn : (x.length : Int) < k
      · have q35 : (iLt (Int.ofNat (List.length (List.map Dm.encI x)) - k) 0) = true := t_lt (by (try simp only [zz] at *) <;> omega)
        rw [q35]
        refine s1 hW 6 0 [true] 1009 [(4, .nils), (5, .nils), (6, (io 13))] ?_
        refine CG.retL (v' := (.tuple [(.d (.list [])), (.d (.list [])), (io 13)])) (by kernel_rfl) ?_
        rotate_left
        rw [dimsF, hb, cond_false, hinv, go, if_pos hn]; rfl
      · obtain ⟨m, hm⟩ : ∃ m : Nat, Int.ofNat (List.length (List.map Dm.encI x)) - k = Int.ofNat m := ⟨x.length - k.toNat, by simp only [Int.ofNat_eq_natCast, List.length_map]; omega⟩
        have hm2 : (m : Int) = x.length - k := by simp only [Int.ofNat_eq_natCast, List.length_map] at hm; omega
        rw [hm]
        rw [go_cons hk0 hm2] at hinv
        refine s1 hW 0 3 [] 2047 [(51, (bo (iLt 0 (Int.ofNat m))))] ?_
        refine spLtN 0 m (fun q39 p39 => ?_) (fun q39 p39 => ?_)
        have q40 : (iLt 0 (Int.ofNat m)) = true := t_lt (by (try simp only [zz] at *) <;> omega)
        rw [q40]
        refine s1 hW 0 5 [] 2047 [(56, (bo (iLt 0 (Int.ofNat (List.length (List.map Dm.encI fr))))))] ?_
        refine spLtN 0 (List.length (List.map Dm.encI fr)) (fun q42 p42 => ?_) (fun q42 p42 => ?_) <;> simp only [zz] at p42
        have q43 : (iLt 0 (Int.ofNat (List.length (List.map Dm.encI fr)))) = true := t_lt (by (try simp only [zz] at *) <;> omega)
        rw [q43]
        refine s1 hW 2 0 [] 1023 [(62, (bo (!iEq (Int.ofNat m) (Int.ofNat (List.length (List.map Dm.encI fr))))))] ?_
        refine spEqN m (List.length (List.map Dm.encI fr)) (fun q45 p45 => ?_) (fun q45 p45 => ?_) <;> simp only [zz] at p45
        refine CG.condF (b := (!iEq (Int.ofNat m) (Int.ofNat (List.length (List.map Dm.encI fr))))) (by rw [q45]; rfl) (by kernel_rfl) ?_
        refine s1 hW 4 3 [] 1023 [(65, (bo (iLt 0 (Int.ofNat m))))] ?_
        rw [q40]
        refine s1 hW 2 0 [] 1023 [(69, (bo (iEq (Int.ofNat (List.length (List.map Dm.encI fr))) 0)))] ?_
        refine CG.condF (show (iEq (Int.ofNat (List.length (List.map Dm.encI fr))) 0) = false from f_eq (by (try simp only [zz] at *) <;> omega)) (by kernel_rfl) ?_
        refine s1 hW 3 2 [] 1023 [(75, (bo eq))] ?_
        refine sp eq (fun q46 => ?_) (fun q46 => ?_)
        rw [q46]
        refine s1 hW 0 3 [] 2047 [(78, (bo (iEq (Int.ofNat m) 0)))] ?_
        have q47 : (iEq (Int.ofNat m) 0) = false := f_eq (by (try simp only [zz] at *) <;> omega)
        rw [q47]
        refine s1 hW 0 3 [] 4063 [(79, (lo Dm.encI fr)), (80, (lo Dm.encI x)), (81, (no m))] ?_
        refine CG.lsl Dm.encI x 0 m (fun _ => rfl) rfl (by kernel_rfl) (by kernel_rfl) (by kernel_rfl) (by kernel_rfl) (by (try simp only [zz] at *) <;> omega) rfl ?_
        refine CG.pg ((pc_eqInts hW fr (List.drop 0 (List.take m x))) (by first | assumption | exact (by (try simp only [zz] at *) <;> omega))) rfl (by kernel_rfl) ?_
        refine s1 hW 2 4 [] 463 [(8, (bo (fr == List.drop 0 (List.take m x)))), (86, (.sl 1 (List.length fd * 1) 0 (List.length fd) 1)), (89, (.d (.list [[(.bool (iLt 0 (Int.ofNat m)))]])))] ?_
        refine CG.apE encB fd ((iLt 0 (Int.ofNat m)) :: []) 1 (fun _ => rfl) rfl (by kernel_rfl) (by kernel_rfl) (by (try simp only [zz] at *) <;> omega) ?_
        refine s3 hW 3 2 [] [(1, (lo Dm.encI ranks)), (4, (lo Dm.encI fr)), (5, (.sl 1 (List.length (fd ++ [iLt 0 (Int.ofNat m)]) * 1) 0 (List.length (fd ++ [iLt 0 (Int.ofNat m)])) 1)), (6, (io 0)), (8, (bo (fr == List.drop 0 (List.take m x)))), (32, (lo encL args)), (33, (no (List.length (List.map encL args)))), (34, (io (wrapF IntKind.i64 (iAdd (Int.ofNat i) 1))))] ([some (.cells [(.func 80 [] [])]), some (rowE encB (fd ++ [iLt 0 (Int.ofNat m)]))]) ?_
        refine CG.endL rfl ?_
        rw [wrapI (by omega)]
        rotate_left
        rw [q46]
        refine s1 hW 2 4 [] 927 [(86, (.sl 1 (List.length fd * 1) 0 (List.length fd) 1)), (89, (.d (.list [[(.bool (iLt 0 (Int.ofNat m)))]])))] ?_
        refine CG.apE encB fd ((iLt 0 (Int.ofNat m)) :: []) 1 (fun _ => rfl) rfl (by kernel_rfl) (by kernel_rfl) (by (try simp only [zz] at *) <;> omega) ?_
        refine s3 hW 3 2 [] [(1, (lo Dm.encI ranks)), (4, (lo Dm.encI fr)), (5, (.sl 1 (List.length (fd ++ [iLt 0 (Int.ofNat m)]) * 1) 0 (List.length (fd ++ [iLt 0 (Int.ofNat m)])) 1)), (6, (io 0)), (8, (bo false)), (32, (lo encL args)), (33, (no (List.length (List.map encL args)))), (34, (io (wrapF IntKind.i64 (iAdd (Int.ofNat i) 1))))] ([some (.cells [(.func 80 [] [])]), some (rowE encB (fd ++ [iLt 0 (Int.ofNat m)]))]) ?_
        refine CG.endL rfl ?_
        rw [wrapI (by omega)]
        rotate_left
        refine CG.condT (b := (!iEq (Int.ofNat m) (Int.ofNat (List.length (List.map Dm.encI fr))))) (by rw [q45]; rfl) (by kernel_rfl) ?_
        refine s1 hW 3 0 [] 1009 [(4, .nils), (5, .nils), (6, (io 13))] ?_
        refine CG.retL (v' := (.tuple [(.d (.list [])), (.d (.list [])), (io 13)])) (by kernel_rfl) ?_
        rotate_left
        have q48 : (iLt 0 (Int.ofNat (List.length (List.map Dm.encI fr)))) = false := f_lt (by (try simp only [zz] at *) <;> omega)
        rw [q48]
        refine s1 hW 7 3 [false] 1023 [(65, (bo (iLt 0 (Int.ofNat m))))] ?_
        rw [q40]
        refine s1 hW 2 0 [] 1023 [(69, (bo (iEq (Int.ofNat (List.length (List.map Dm.encI fr))) 0)))] ?_
        refine CG.condT (show (iEq (Int.ofNat (List.length (List.map Dm.encI fr))) 0) = true from t_eq (by (try simp only [zz] at *) <;> omega)) (by kernel_rfl) ?_
        refine s1 hW 0 2 [] 1023 [(70, (lo Dm.encI x)), (71, (no m))] ?_
        refine CG.lsl Dm.encI x 0 m (fun _ => rfl) rfl (by kernel_rfl) (by kernel_rfl) (by kernel_rfl) (by kernel_rfl) (by (try simp only [zz] at *) <;> omega) rfl ?_
        refine CG.pg ((pc_clone hW (List.drop 0 (List.take m x))) (by first | assumption | exact (by (try simp only [zz] at *) <;> omega)) (by first | assumption | exact (by (try simp only [zz] at *) <;> omega))) rfl (by kernel_rfl) ?_
        refine s1 hW 3 2 [] 1021 [(4, (lo Dm.encI (List.drop 0 (List.take m x)))), (75, (bo eq))] ?_
        refine sp eq (fun q49 => ?_) (fun q49 => ?_)
        rw [q49]
        refine s1 hW 0 3 [] 2047 [(78, (bo (iEq (Int.ofNat m) 0)))] ?_
        have q50 : (iEq (Int.ofNat m) 0) = false := f_eq (by (try simp only [zz] at *) <;> omega)
        rw [q50]
        refine s1 hW 0 3 [] 4063 [(79, (lo Dm.encI (List.drop 0 (List.take m x)))), (80, (lo Dm.encI x)), (81, (no m))] ?_
        refine CG.lsl Dm.encI x 0 m (fun _ => rfl) rfl (by kernel_rfl) (by kernel_rfl) (by kernel_rfl) (by kernel_rfl) (by (try simp only [zz] at *) <;> omega) rfl ?_
        refine CG.pg ((pc_eqInts hW (List.drop 0 (List.take m x)) (List.drop 0 (List.take m x))) (by first | assumption | exact (by (try simp only [zz] at *) <;> omega))) rfl (by kernel_rfl) ?_
        refine s1 hW 2 4 [] 463 [(8, (bo (List.drop 0 (List.take m x) == List.drop 0 (List.take m x)))), (86, (.sl 1 (List.length fd * 1) 0 (List.length fd) 1)), (89, (.d (.list [[(.bool (iLt 0 (Int.ofNat m)))]])))] ?_
        refine CG.apE encB fd ((iLt 0 (Int.ofNat m)) :: []) 1 (fun _ => rfl) rfl (by kernel_rfl) (by kernel_rfl) (by (try simp only [zz] at *) <;> omega) ?_
        refine s3 hW 3 2 [] [(1, (lo Dm.encI ranks)), (4, (lo Dm.encI (List.drop 0 (List.take m x)))), (5, (.sl 1 (List.length (fd ++ [iLt 0 (Int.ofNat m)]) * 1) 0 (List.length (fd ++ [iLt 0 (Int.ofNat m)])) 1)), (6, (io 0)), (8, (bo (List.drop 0 (List.take m x) == List.drop 0 (List.take m x)))), (32, (lo encL args)), (33, (no (List.length (List.map encL args)))), (34, (io (wrapF IntKind.i64 (iAdd (Int.ofNat i) 1))))] ([some (.cells [(.func 80 [] [])]), some (rowE encB (fd ++ [iLt 0 (Int.ofNat m)]))]) ?_
        refine CG.endL rfl ?_
        rw [wrapI (by omega)]
        rotate_left
        rw [q49]
        refine s1 hW 2 4 [] 927 [(86, (.sl 1 (List.length fd * 1) 0 (List.length fd) 1)), (89, (.d (.list [[(.bool (iLt 0 (Int.ofNat m)))]])))] ?_
        refine CG.apE encB fd ((iLt 0 (Int.ofNat m)) :: []) 1 (fun _ => rfl) rfl (by kernel_rfl) (by kernel_rfl) (by (try simp only [zz] at *) <;> omega) ?_
        refine s3 hW 3 2 [] [(1, (lo Dm.encI ranks)), (4, (lo Dm.encI (List.drop 0 (List.take m x)))), (5, (.sl 1 (List.length (fd ++ [iLt 0 (Int.ofNat m)]) * 1) 0 (List.length (fd ++ [iLt 0 (Int.ofNat m)])) 1)), (6, (io 0)), (8, (bo false)), (32, (lo encL args)), (33, (no (List.length (List.map encL args)))), (34, (io (wrapF IntKind.i64 (iAdd (Int.ofNat i) 1))))] ([some (.cells [(.func 80 [] [])]), some (rowE encB (fd ++ [iLt 0 (Int.ofNat m)]))]) ?_
        refine CG.endL rfl ?_
        rw [wrapI (by omega)]
        rotate_left
        have q51 : (iLt 0 (Int.ofNat m)) = false := f_lt (by (try simp only [zz] at *) <;> omega)
        rw [q51]
        refine s1 hW 7 3 [false] 1023 [(65, (bo (iLt 0 (Int.ofNat m))))] ?_
        rw [q51]
        refine s1 hW 6 2 [false] 1023 [(75, (bo eq))] ?_
        refine sp eq (fun q52 => ?_) (fun q52 => ?_)
        rw [q52]
        refine s1 hW 0 3 [] 2047 [(78, (bo (iEq (Int.ofNat m) 0)))] ?_
        have q53 : (iEq (Int.ofNat m) 0) = true := t_eq (by (try simp only [zz] at *) <;> omega)
        rw [q53]
        refine s1 hW 2 4 [] 927 [(86, (.sl 1 (List.length fd * 1) 0 (List.length fd) 1)), (89, (.d (.list [[(.bool (iLt 0 (Int.ofNat m)))]])))] ?_
        refine CG.apE encB fd ((iLt 0 (Int.ofNat m)) :: []) 1 (fun _ => rfl) rfl (by kernel_rfl) (by kernel_rfl) (by (try simp only [zz] at *) <;> omega) ?_
        refine s3 hW 3 2 [] [(1, (lo Dm.encI ranks)), (4, (lo Dm.encI fr)), (5, (.sl 1 (List.length (fd ++ [iLt 0 (Int.ofNat m)]) * 1) 0 (List.length (fd ++ [iLt 0 (Int.ofNat m)])) 1)), (6, (io 0)), (8, (bo true)), (32, (lo encL args)), (33, (no (List.length (List.map encL args)))), (34, (io (wrapF IntKind.i64 (iAdd (Int.ofNat i) 1))))] ([some (.cells [(.func 80 [] [])]), some (rowE encB (fd ++ [iLt 0 (Int.ofNat m)]))]) ?_
        refine CG.endL rfl ?_
        rw [wrapI (by omega)]
        rotate_left
        rw [q52]
        refine s1 hW 2 4 [] 927 [(86, (.sl 1 (List.length fd * 1) 0 (List.length fd) 1)), (89, (.d (.list [[(.bool (iLt 0 (Int.ofNat m)))]])))] ?_
        refine CG.apE encB fd ((iLt 0 (Int.ofNat m)) :: []) 1 (fun _ => rfl) rfl (by kernel_rfl) (by kernel_rfl) (by (try simp only [zz] at *) <;> omega) ?_
        refine s3 hW 3 2 [] [(1, (lo Dm.encI ranks)), (4, (lo Dm.encI fr)), (5, (.sl 1 (List.length (fd ++ [iLt 0 (Int.ofNat m)]) * 1) 0 (List.length (fd ++ [iLt 0 (Int.ofNat m)])) 1)), (6, (io 0)), (8, (bo false)), (32, (lo encL args)), (33, (no (List.length (List.map encL args)))), (34, (io (wrapF IntKind.i64 (iAdd (Int.ofNat i) 1))))] ([some (.cells [(.func 80 [] [])]), some (rowE encB (fd ++ [iLt 0 (Int.ofNat m)]))]) ?_
        refine CG.endL rfl ?_
        rw [wrapI (by omega)]
        rotate_left
        all_goals first
          | (rw [dimsF, hb, cond_false, hinv, if_pos (by omega)]; rfl)
          | (refine ⟨(_, _, _), ⟨?_, by simp [hfd]⟩, Tidy.refl _ _⟩
             rw [hinv, if_neg (by omega), if_neg (by omega)]
             first
               | (rw [show eq = false by assumption]; rfl)
               | (rw [show eq = true by assumption, show decide (m = 0) = true from decide_eq_true (by omega)]; rfl)
               | (rw [show eq = true by assumption, show decide (m = 0) = false from decide_eq_false (by omega)]; rfl))
          | (refine ⟨(_, _, _), ⟨?_, by simp [hfd]⟩, Tidy.refl _ _⟩
             rw [hinv, if_neg (by omega), if_pos (by omega)]
             first
               | (rw [show eq = false by assumption]; rfl)
               | (rw [show eq = true by assumption, show decide (m = 0) = true from decide_eq_true (by omega)]; rfl)
               | (rw [show eq = true by assumption, show decide (m = 0) = false from decide_eq_false (by omega)]; rfl))
  · have : badD args ranks = true := by
      simp only [badD, Bool.or_eq_true, decide_eq_true_eq]
      exact .inl (.inl (.inl (by omega)))
    rw [dimsF, this]; rfl
end Fw.Tz.Da

/-
  Values of the variables: the plain law of AgreeValues.
-/
set_option linter.unusedVariables false
namespace Fw.Tz.Pv
open Go Fw.Tz.Va Fw.Tz.Vb Fw.Tz.Vc Fw.Tz.Fg Fw.Tz.Eq Fw.Tz.Pp Fw.Tz.Da Fw.Tz.Dm
def evAll (f : Lin → Option Int) : List Lin → Option (List Int)
  | [] => some []
  | x :: l => match f x with
    | none => none
    | some v => (evAll f l).map (v :: ·)
def evTs (f : Lin → Option Int) : List Ty → Option (List (List Int))
  | [] => some []
  | t :: ts => match evAll f t.dims with
    | none => none
    | some v => (evTs f ts).map (v :: ·)
theorem evAll_len {f : Lin → Option Int} : ∀ {l : List Lin} {r : List Int}, evAll f l = some r → r.length = l.length
  | [], r, h => by simp only [evAll, Option.some.injEq] at h; rw [← h]; rfl
  | x :: l, r, h => by
    rw [evAll] at h
    split at h
    · cases h
    · simp only [Option.map_eq_some_iff] at h
      obtain ⟨a, h1, rfl⟩ := h
      simp [evAll_len h1]
theorem evAll_app {f : Lin → Option Int} : ∀ {a b : List Lin} {r : List Int}, evAll f (a ++ b) = some r → ∃ x y, evAll f a = some x ∧ evAll f b = some y ∧ r = x ++ y
  | [], b, r, h => ⟨[], r, rfl, h, rfl⟩
  | u :: a, b, r, h => by
    rw [List.cons_append, evAll] at h
    split at h
    · cases h
    · rename_i v hv
      simp only [Option.map_eq_some_iff] at h
      obtain ⟨s, h1, rfl⟩ := h
      obtain ⟨x, y, h2, h3, rfl⟩ := evAll_app h1
      exact ⟨v :: x, y, by rw [evAll, hv]; simp [h2], h3, rfl⟩
theorem evAll_mem {f : Lin → Option Int} {p : Int → Prop} (hp : ∀ x v, f x = some v → p v) : ∀ {l : List Lin} {r : List Int}, evAll f l = some r → ∀ v ∈ r, p v
  | [], r, h => by simp only [evAll, Option.some.injEq] at h; rw [← h]; simp
  | x :: l, r, h => by
    rw [evAll] at h
    split at h
    · cases h
    · rename_i u hu
      simp only [Option.map_eq_some_iff] at h
      obtain ⟨a, h1, rfl⟩ := h
      intro v hv
      rcases List.mem_cons.1 hv with rfl | hv
      · exact hp _ _ hu
      · exact evAll_mem hp h1 v hv
theorem evTs_len {f : Lin → Option Int} : ∀ {l : List Ty} {r : List (List Int)}, evTs f l = some r → r.length = l.length
  | [], r, h => by simp only [evTs, Option.some.injEq] at h; rw [← h]; rfl
  | x :: l, r, h => by
    rw [evTs] at h
    split at h
    · cases h
    · simp only [Option.map_eq_some_iff] at h
      obtain ⟨a, h1, rfl⟩ := h
      simp [evTs_len h1]
theorem evTs_mem {f : Lin → Option Int} {p : Int → Prop} (hp : ∀ x v, f x = some v → p v) : ∀ {l : List Ty} {r : List (List Int)}, evTs f l = some r → ∀ a ∈ r, ∀ v ∈ a, p v
  | [], r, h => by simp only [evTs, Option.some.injEq] at h; rw [← h]; simp
  | x :: l, r, h => by
    rw [evTs] at h
    split at h
    · cases h
    · rename_i u hu
      simp only [Option.map_eq_some_iff] at h
      obtain ⟨a, h1, rfl⟩ := h
      intro b hb
      rcases List.mem_cons.1 hb with rfl | hb
      · exact evAll_mem hp hu
      · exact evTs_mem hp h1 b hb
theorem evTs_maxlen {f : Lin → Option Int} {k : Nat} : ∀ {l : List Ty} {r : List (List Int)}, (∀ t ∈ l, t.dims.length ≤ k) → evTs f l = some r → ∀ a ∈ r, a.length ≤ k
  | [], r, _, h => by simp only [evTs, Option.some.injEq] at h; rw [← h]; simp
  | x :: l, r, hl, h => by
    rw [evTs] at h
    split at h
    · cases h
    · rename_i u hu
      simp only [Option.map_eq_some_iff] at h
      obtain ⟨a, h1, rfl⟩ := h
      intro b hb
      rcases List.mem_cons.1 hb with rfl | hb
      · rw [evAll_len hu]; exact hl x List.mem_cons_self
      · exact evTs_maxlen (fun t ht => hl t (List.mem_cons_of_mem _ ht)) h1 b hb
def rankOf (w : Ty) : Int := (w.dims.length : Int)
theorem go_fits (f : Lin → Option Int) (fr : List Lin) (F : List Int) (hF : evAll f fr = some F) : ∀ (gs ws : List Ty) (bs : List Bool) (args : List (List Int)) (cur : List Int) (acc : List Bool), gs.length = ws.length → bs.length = gs.length → fits [] fr gs ws bs →
    (fr = [] → ∀ b ∈ bs, b = false) → evTs f gs = some args → (cur = [] ∨ cur = F) → go args (ws.map rankOf) cur acc true = some (bif bs.any id then F else cur, acc ++ bs, true)
  | [], [], [], args, cur, acc, _, _, _, _, he, _ => by
    simp only [evTs, Option.some.injEq] at he
    rw [← he]; simp [go]
  | g :: gs, w :: ws, b :: bs, args, cur, acc, h1, h2, h3, h0, he, h4 => by
    rw [fits] at h3
    obtain ⟨h5, h6⟩ := h3
    rw [evTs] at he
    split at he
    · cases he
    · rename_i v hv
      simp only [Option.map_eq_some_iff] at he
      obtain ⟨args', he', rfl⟩ := he
      have ih := fun cur acc h => go_fits f fr F hF gs ws bs args' cur acc (by simpa using h1) (by simpa using h2) h6 (fun e b hb => h0 e b (List.mem_cons_of_mem _ hb)) he' h
      have hFl := evAll_len hF
      rw [List.map_cons]
      rcases lift_some h5 with ⟨rfl, _, rfl⟩ | ⟨rfl, rfl⟩
      · have hd : fr ≠ [] := fun e => by have := h0 e true List.mem_cons_self; cases this
        have hd0 : 0 < fr.length := List.length_pos_iff.2 hd
        obtain ⟨x, y, k1, k2, rfl⟩ := evAll_app hv
        rw [hF, Option.some.injEq] at k1
        subst k1
        have hyl := evAll_len k2
        have e0 : (F ++ y).length = F.length + w.dims.length := by simp [hyl]
        have e1 : (F ++ y).length - (rankOf w).toNat = F.length := by simp only [rankOf, Int.toNat_natCast]; omega
        have e2 : rankOf w < ((F ++ y).length : Int) := by simp only [rankOf]; omega
        have e3 : (F ++ y).take F.length = F := by simp
        rw [go, if_neg (by omega), if_neg (by
          rcases h4 with rfl | rfl
          · simp
          · simp only [rankOf]; omega)]
        have e4 : (if rankOf w < ((F ++ y).length : Int) ∧ cur = [] then (F ++ y).take ((F ++ y).length - (rankOf w).toNat) else cur) = F := by
          rcases h4 with rfl | rfl
          · rw [if_pos ⟨e2, rfl⟩, e1, e3]
          · split
            · rw [e1, e3]
            · rfl
        rw [e4, e1, e3]
        simp only [beq_self_eq_true, Bool.or_true, Bool.and_self, decide_eq_true e2]
        rw [ih _ _ (.inr rfl)]
        simp
      · have hvl := evAll_len hv
        have e2 : ¬ rankOf g < (v.length : Int) := by simp only [rankOf]; omega
        have e3 : (v.length : Int) = rankOf g := by simp only [rankOf]; omega
        rw [go, if_neg (by omega), if_neg (fun h => e2 h.1)]
        rw [if_neg (fun h => e2 h.1)]
        simp only [e3, decide_true, Bool.true_or, Bool.and_self, Int.lt_irrefl, decide_false]
        rw [ih _ _ h4]
        simp
theorem frm_signs : ∀ (gs ws : List Ty) (cur : List Lin) (acc : List Bool) {fr : List Lin} {fd : List Bool}, gs.length = ws.length → frm cur acc gs ws = some (fr, fd) → ∃ bs, fd = acc ++ bs ∧ bs.length = gs.length ∧ (cur ≠ [] → fr = cur) ∧ (fr = [] → ∀ b ∈ bs, b = false)
  | [], [], cur, acc, fr, fd, _, h => by
    simp only [frm, Option.some.injEq, Prod.mk.injEq] at h
    obtain ⟨rfl, rfl⟩ := h
    exact ⟨[], by simp⟩
  | g :: gs, w :: ws, cur, acc, fr, fd, hl, h => by
    rw [frm] at h
    split at h
    · cases h
    · split at h
      · cases h
      · obtain ⟨bs, rfl, h2, h3, h4⟩ := frm_signs gs ws _ _ (by simpa using hl) h
        refine ⟨decide (w.dims.length < g.dims.length) :: bs, by simp, by simp [h2], fun hc => ?_, fun hf b hb => ?_⟩
        · rw [if_neg (fun h => hc h.2)] at h3
          exact h3 hc
        · rcases List.mem_cons.1 hb with rfl | hb
          · refine decide_eq_false fun hlt => ?_
            by_cases hc : cur = []
            · rw [if_pos ⟨hlt, hc⟩] at h3
              have hne : g.dims.take (g.dims.length - w.dims.length) ≠ [] := by
                rw [← List.length_pos_iff, List.length_take]; omega
              have := h3 hne
              rw [hf] at this
              exact hne this.symm
            · rw [if_neg (fun h => hc h.2)] at h3
              have := h3 hc
              rw [hf] at this
              exact hc this.symm
          · exact h4 hf b hb
theorem values_plain {c : Con} {fr : List Lin} {fd : List Bool} (f : Lin → Option Int) (hp : ∀ x v, f x = some v → 0 ≤ v) (hk : knownB c = true) (hf : frm [] [] c.gs c.ws = some (fr, fd)) (hh : holdsB c [] fr fd = true) {args : List (List Int)} {out cell : List Int}
    (ha : evTs f c.gs = some args) (ho : evAll f c.r.dims = some out) (hc : evAll f c.x.dims = some cell) : ∃ dims, dimsF args (c.ws.map rankOf) = outV dims fd 0 ∧ out = dims ++ cell := by
  obtain ⟨hws, hx, hcc⟩ := known_ws hk
  have hfit := fit_of hk
  rw [holdsB_iff hcc] at hh
  obtain ⟨h1, h2, h3, h4, h5⟩ := hh
  obtain ⟨bs, hbs, _, _, hsg⟩ := frm_signs c.gs c.ws [] [] hfit.len hf
  simp only [List.nil_append] at hbs
  subst hbs
  have hbad : badD args (c.ws.map rankOf) = false := by
    have e1 := evTs_len ha
    have e2 := hfit.len
    have e3 := hfit.le
    simp only [badD, Bool.or_eq_false_iff, decide_eq_false_iff_not, List.length_map, List.any_eq_false]
    refine ⟨⟨⟨by omega, by omega⟩, fun k hk => ?_⟩, fun r hr => ?_⟩
    · obtain ⟨w, _, rfl⟩ := List.mem_map.1 hk
      have : iLt (rankOf w) 0 = false := f_lt (by simp only [rankOf]; omega)
      simp [neg, this]
    · have := evTs_mem (p := fun v => 0 ≤ v) hp ha r hr
      simp only [Bool.not_eq_true, List.any_eq_false]
      intro v hv
      have : iLt v 0 = false := f_lt (this v hv)
      simp [neg, this]
  cases hb : fd.any id with
  | false =>
    obtain ⟨-, rfl⟩ := h3 hb
    have hg := go_fits f [] [] rfl c.gs c.ws fd args [] [] hfit.len h2 h4 hsg ha (.inl rfl)
    rw [hb] at hg
    refine ⟨[], ?_, ?_⟩
    · rw [dimsF, hbad, cond_false, hg]; simp [dimsV]
    · rw [hb] at h5
      simp only [liftB, cond_false, Option.some.injEq] at h5
      rw [← h5, hc, Option.some.injEq] at ho
      simp [ho]
  | true =>
    rw [hb] at h5
    rcases lift_some h5 with ⟨_, _, e⟩ | ⟨h, _⟩
    · rw [e] at ho
      obtain ⟨F, y, k1, k2, rfl⟩ := evAll_app ho
      rw [hc, Option.some.injEq] at k2
      subst k2
      have hg := go_fits f fr F k1 c.gs c.ws fd args [] [] hfit.len h2 h4 hsg ha (.inl rfl)
      rw [hb] at hg
      refine ⟨F, ?_, rfl⟩
      rw [dimsF, hbad, cond_false, hg]; simp [dimsV]
    · cases h
end Fw.Tz.Pv

/-
  Values of expressions, by the reference.
-/
namespace Fw.Tz.Xa
open Go Go.Proofs Fw.X Fw.Tz Fw.Nu Fw.Tz.Sd Fw.Tz.Na Fw.Tz.El Fw.Tz.Va Fw.Tz.Vb Fw.Tz.Vc Fw.Tz.Vd Fw.Tz.Vf Fw.Tz.Vh Fw.Tz.Eq Fw.Tz.Ew Fw.Tz.Fg Fw.Tz.Pp
variable {W : World}
def findV : List Cf → List UInt8 → Option Int
  | [], _ => none
  | v :: vs, s => if bytesEq v.var s = true then some v.c else findV vs s
def evG (vals : List Cf) : Int → List Cf → Int × Int
  | n, [] => (n, 0)
  | n, t :: ts => match findV vals t.var with
    | none => (0, 7)
    | some v => if v < -1000000000 ∨ 1000000000 < v then (0, 2) else evG vals (n + t.c * v) ts
def evX (vals : List Cf) (x : Lin) : Int × Int := if validL x.c x.ts = true then evG vals x.c x.ts else (0, 1)
def outI (p : Int × Int) : V := .tuple [.d (.int .i64 p.1), .d (.int .i64 p.2)]
theorem small_of {c : Int} (h : smallB c = true) : -1000000 ≤ c ∧ c ≤ 1000000 := by
  unfold smallB at h
  simpa using h
theorem validTs_small : ∀ (ts : List Cf) (p : Option (List UInt8)), validTs p ts = true → ∀ t ∈ ts, -1000000 ≤ t.c ∧ t.c ≤ 1000000
  | [], _, _, t, ht => by simp at ht
  | x :: ts, p, h, t, ht => by
    simp only [validTs, Bool.and_eq_true] at h
    rcases List.mem_cons.1 ht with rfl | ht
    · exact small_of h.1.1.2
    · exact validTs_small ts _ h.2 t ht
theorem mul_bd {a b : Int} (h1 : -1000000 ≤ a ∧ a ≤ 1000000) (h2 : -1000000000 ≤ b ∧ b ≤ 1000000000) : -1000000000000000 ≤ a * b ∧ a * b ≤ 1000000000000000 := by
  have ha : a.natAbs ≤ 1000000 := by omega
  have hb : b.natAbs ≤ 1000000000 := by omega
  have h := Nat.mul_le_mul ha hb
  rw [← Int.natAbs_mul] at h
  omega
theorem pc_ev (hW : W0 W) (x : Lin) (vals : List Cf) (hx : Lin.sm x) (hv : vals.length < 1099511627776) : PC P (gl W) 86 [vL x, .d (.list (vals.map Cf.enc))] (outI (evX vals x)) := by
  refine CG.start is86 ca86 rfl ?_
  have hl := hx.1
  have hV := pc_valid_ref hW x.c x.ts hl
  cases hvl : validL x.c x.ts with
  | false =>
    rw [hvl] at hV
    rw [evX, hvl, if_neg (by simp)]
    refine s4 hW 5 1 [] 2 [(2, (.ptr 0 2 0)), (4, (io 0)), (5, (io 0)), (10, (.agg [(io (Lin.c x)), (lo Cf.enc (Lin.ts x))]))] [(0, (.cells [(io (Lin.c x)), (lo Cf.enc (Lin.ts x))]))] ?_
    refine CG.pg (hV) rfl (by kernel_rfl) ?_
    refine s1 hW 6 0 [true] 7 [(5, (io 1))] ?_
    refine CG.ret (v' := (.tuple [(io 0), (io 1)])) (by kernel_rfl) ?_
    rfl
  | true =>
    rw [hvl] at hV
    rw [evX, hvl, if_pos rfl]
    have hvl2 := hvl
    simp only [validL, Bool.and_eq_true, decide_eq_true_eq] at hvl2
    obtain ⟨⟨hc, h12⟩, hts⟩ := hvl2
    have hcs := small_of hc
    refine s4 hW 5 1 [] 2 [(2, (.ptr 0 2 0)), (4, (io 0)), (5, (io 0)), (10, (.agg [(io (Lin.c x)), (lo Cf.enc (Lin.ts x))]))] [(0, (.cells [(io (Lin.c x)), (lo Cf.enc (Lin.ts x))]))] ?_
    refine CG.pg (hV) rfl (by kernel_rfl) ?_
    refine s1 hW 13 0 [false] 15 [(6, (io (Lin.c x))), (7, (io 0))] ?_
    rotate_left
    refine CG.loopL x.ts (fun i a => [(1, (lo Cf.enc vals)), (2, (.ptr 0 2 0)), (4, (io 0)), (5, (io 0)), (6, .d (.int .i64 a)), (7, .d (.int .i64 (.ofNat i)))]) (fun i a => [some (.cells [(io (Lin.c x)), (lo Cf.enc (Lin.ts x))])]) (fun i a r => (evG vals x.c x.ts = evG vals a r ∧ -(1000000 + (i : Int) * 1000000000000000) ≤ a ∧ a ≤ 1000000 + (i : Int) * 1000000000000000)) x.c ?_ (Tidy.refl _ _) ?_ ?_
    · exact ⟨rfl, by omega, by omega⟩
    · rintro i a hi hd ⟨hinv, h1, h2⟩
      refine s1 hW 4 0 [] 63 [(19, (bo (iLt (Int.ofNat i) (Int.ofNat (List.length (List.map Cf.enc (Lin.ts x)))))))] ?_
      refine CG.condF (show (iLt (Int.ofNat i) (Int.ofNat (List.length (List.map Cf.enc (Lin.ts x))))) = false from f_lt (by (try simp only [zz] at *) <;> omega)) (by kernel_rfl) ?_
      refine CG.exitL (by decide) ?_
      refine s1 hW 5 0 [] 8 [(4, (io a))] ?_
      refine CG.ret (v' := (.tuple [(io a), (io 0)])) (by kernel_rfl) ?_
      rotate_left
      rw [hinv]; rfl
    · rintro i a t r hdr ht hlt ⟨hinv, h1, h2⟩
      have htc := validTs_small _ _ hts t (List.mem_of_getElem? ht)
      rw [evG] at hinv
      refine s1 hW 4 0 [] 63 [(19, (bo (iLt (Int.ofNat i) (Int.ofNat (List.length (List.map Cf.enc (Lin.ts x)))))))] ?_
      refine CG.condT (show (iLt (Int.ofNat i) (Int.ofNat (List.length (List.map Cf.enc (Lin.ts x))))) = true from t_lt (by (try simp only [zz] at *) <;> omega)) (by kernel_rfl) ?_
      refine s1 hW 9 0 [] 63 [(8, (io 0))] ?_
      rotate_left
      refine CG.loopL vals (fun k u2 => [(1, (lo Cf.enc vals)), (2, (.ptr 0 2 0)), (4, (io 0)), (5, (io 0)), (6, (io a)), (7, (no i)), (8, .d (.int .i64 (.ofNat k)))]) (fun k u2 => [some (.cells [(io (Lin.c x)), (lo Cf.enc (Lin.ts x))])]) (fun k u2 r2 => (findV vals t.var = findV r2 t.var)) () ?_ (Tidy.refl _ _) ?_ ?_
      · rfl
      · intro k u2 hk hd2 hf
        rw [show findV vals t.var = none from hf] at hinv
        refine s1 hW 2 0 [] 127 [] ?_
        refine CG.drawA orders (by kernel_rfl) (by kernel_rfl) ?_
        refine AO.rd 5 [(22, (no k)), (23, (lo Cf.enc vals)), (24, (no (List.length (List.map Cf.enc vals)))), (25, (bo (decide (Int.ofNat k < Int.ofNat (List.length (List.map Cf.enc vals)))))), (26, (bo (decide (Int.ofNat k < Int.ofNat (List.length (List.map Cf.enc vals))))))] (by kernel_rfl) ?_
        have q30 : (decide (Int.ofNat k < Int.ofNat (List.length (List.map Cf.enc vals)))) = false := decide_eq_false (by (try simp only [zz] at *) <;> omega)
        rw [q30]
        refine AO.rd 13 [(27, (.tuple [])), (28, (.tuple [])), (29, (.tuple [])), (30, (.tuple [])), (31, (.tuple [])), (32, (.tuple [])), (33, (.tuple [])), (34, (.tuple [])), (35, (.tuple [])), (36, (.tuple [])), (37, (.tuple [])), (38, (.tuple [])), (39, (bo false))] (by kernel_rfl) ?_
        refine AO.done [1, 2, 4, 5, 6, 7, 8, 39] rfl rfl (by kernel_rfl) ?_
        refine s1 hW 2 0 [false] 127 [] ?_
        refine CG.exitL (by decide) ?_
        refine s1 hW 6 0 [] 127 [(45, (bo (iEq (Int.ofNat k) (Int.ofNat (List.length (List.map Cf.enc vals))))))] ?_
        refine CG.condT (show (iEq (Int.ofNat k) (Int.ofNat (List.length (List.map Cf.enc vals)))) = true from t_eq (by (try simp only [zz] at *) <;> omega)) (by kernel_rfl) ?_
        refine s1 hW 3 0 [] 119 [(5, (io 7))] ?_
        refine CG.retL (v' := (.tuple [(io 0), (io 7)])) (by kernel_rfl) ?_
        rotate_left
        rw [hinv]; rfl
      · intro k u2 y r2 hd2 hy hlt2 hf
        rw [findV] at hf
        cases hb : bytesEq y.var t.var with
        | false =>
          rw [hb, if_neg (by simp)] at hf
          refine s1 hW 2 0 [] 127 [] ?_
          refine CG.drawA orders (by kernel_rfl) (by kernel_rfl) ?_
          refine AO.rd 5 [(22, (no k)), (23, (lo Cf.enc vals)), (24, (no (List.length (List.map Cf.enc vals)))), (25, (bo (decide (Int.ofNat k < Int.ofNat (List.length (List.map Cf.enc vals)))))), (26, (bo (decide (Int.ofNat k < Int.ofNat (List.length (List.map Cf.enc vals))))))] (by kernel_rfl) ?_
          have q34 : (decide (Int.ofNat k < Int.ofNat (List.length (List.map Cf.enc vals)))) = true := decide_eq_true (by (try simp only [zz] at *) <;> omega)
          rw [q34]
          refine AO.rd 2 [(27, (lo Cf.enc vals)), (28, (no k))] (by kernel_rfl) ?_
          refine AO.idx (idx_map (enc := Cf.enc) hy) rfl (by kernel_rfl) (by kernel_rfl) (by kernel_rfl) rfl ?_
          refine AO.rd 5 [(30, (.cptr [(.str (Cf.var y))])), (31, (so (Cf.var y))), (32, (.ptr 0 2 1)), (33, (lo Cf.enc (Lin.ts x))), (34, (no i))] (by kernel_rfl) ?_
          refine AO.idx (idx_map (enc := Cf.enc) ht) rfl (by kernel_rfl) (by kernel_rfl) (by kernel_rfl) rfl ?_
          refine AO.rd 4 [(36, (.cptr [(.str (Cf.var t))])), (37, (so (Cf.var t))), (38, (bo (!bytesEq (Cf.var y) (Cf.var t)))), (39, (bo (!bytesEq (Cf.var y) (Cf.var t))))] (by kernel_rfl) ?_
          refine AO.done [1, 2, 4, 5, 6, 7, 8, 39] rfl rfl (by kernel_rfl) ?_
          refine s1 hW 1 0 [] 255 [] ?_
          refine CG.condT (b := (!bytesEq (Cf.var y) (Cf.var t))) (by rw [hb]; rfl) (by kernel_rfl) ?_
          refine s1 hW 3 3 [] 63 [(8, (io (wrapF IntKind.i64 (iAdd (Int.ofNat k) 1))))] ?_
          refine CG.popB ?_
          refine CG.endL rfl ?_
          rw [wrapI (by omega)]
          rotate_left
          exact ⟨(), hf, Tidy.eqs (by kernel_rfl)⟩
        | true =>
          rw [hb, if_pos rfl] at hf
          rw [hf] at hinv
          dsimp only at hinv
          refine s1 hW 2 0 [] 127 [] ?_
          refine CG.drawA orders (by kernel_rfl) (by kernel_rfl) ?_
          refine AO.rd 5 [(22, (no k)), (23, (lo Cf.enc vals)), (24, (no (List.length (List.map Cf.enc vals)))), (25, (bo (decide (Int.ofNat k < Int.ofNat (List.length (List.map Cf.enc vals)))))), (26, (bo (decide (Int.ofNat k < Int.ofNat (List.length (List.map Cf.enc vals))))))] (by kernel_rfl) ?_
          have q34 : (decide (Int.ofNat k < Int.ofNat (List.length (List.map Cf.enc vals)))) = true := decide_eq_true (by (try simp only [zz] at *) <;> omega)
          rw [q34]
          refine AO.rd 2 [(27, (lo Cf.enc vals)), (28, (no k))] (by kernel_rfl) ?_
          refine AO.idx (idx_map (enc := Cf.enc) hy) rfl (by kernel_rfl) (by kernel_rfl) (by kernel_rfl) rfl ?_
          refine AO.rd 5 [(30, (.cptr [(.str (Cf.var y))])), (31, (so (Cf.var y))), (32, (.ptr 0 2 1)), (33, (lo Cf.enc (Lin.ts x))), (34, (no i))] (by kernel_rfl) ?_
          refine AO.idx (idx_map (enc := Cf.enc) ht) rfl (by kernel_rfl) (by kernel_rfl) (by kernel_rfl) rfl ?_
          refine AO.rd 4 [(36, (.cptr [(.str (Cf.var t))])), (37, (so (Cf.var t))), (38, (bo (!bytesEq (Cf.var y) (Cf.var t)))), (39, (bo (!bytesEq (Cf.var y) (Cf.var t))))] (by kernel_rfl) ?_
          refine AO.done [1, 2, 4, 5, 6, 7, 8, 39] rfl rfl (by kernel_rfl) ?_
          refine s1 hW 1 0 [] 255 [] ?_
          refine CG.condF (b := (!bytesEq (Cf.var y) (Cf.var t))) (by rw [hb]; rfl) (by kernel_rfl) ?_
          refine CG.exitL (by decide) ?_
          refine s1 hW 6 0 [] 127 [(45, (bo (iEq (Int.ofNat k) (Int.ofNat (List.length (List.map Cf.enc vals))))))] ?_
          refine CG.condF (show (iEq (Int.ofNat k) (Int.ofNat (List.length (List.map Cf.enc vals)))) = false from f_eq (by (try simp only [zz] at *) <;> omega)) (by kernel_rfl) ?_
          refine s1 hW 3 2 [] 63 [(46, (lo Cf.enc vals)), (47, (no k))] ?_
          refine CG.ix (idx_map (enc := Cf.enc) hy) rfl (by kernel_rfl) ?_
          refine s1 hW 4 3 [] 63 [(9, (io (Cf.c y))), (53, (bo (iLt (Cf.c y) (-1000000000))))] ?_
          refine spLt (Cf.c y) (-1000000000) (fun q36 p36 => ?_) (fun q36 p36 => ?_)
          rw [q36]
          refine s1 hW 6 0 [true] 119 [(5, (io 2))] ?_
          refine CG.retL (v' := (.tuple [(io 0), (io 2)])) (by kernel_rfl) ?_
          rotate_left
          rw [q36]
          refine s1 hW 2 0 [] 127 [(56, (bo (iLt 1000000000 (Cf.c y))))] ?_
          refine spLt 1000000000 (Cf.c y) (fun q37 p37 => ?_) (fun q37 p37 => ?_)
          refine CG.condT q37 (by kernel_rfl) ?_
          refine s1 hW 3 0 [] 119 [(5, (io 2))] ?_
          refine CG.retL (v' := (.tuple [(io 0), (io 2)])) (by kernel_rfl) ?_
          rotate_left
          refine CG.condF q37 (by kernel_rfl) ?_
          refine s1 hW 2 4 [] 127 [(57, (io a)), (59, (lo Cf.enc (Lin.ts x))), (60, (no i))] ?_
          refine CG.ix (idx_map (enc := Cf.enc) ht) rfl (by kernel_rfl) ?_
          refine s3 hW 3 3 [] [(1, (lo Cf.enc vals)), (2, (.ptr 0 2 0)), (4, (io 0)), (5, (io 0)), (6, (io (wrapF IntKind.i64 (iAdd a (IntKind.wrap IntKind.i64 (Cf.c t * Cf.c y)))))), (7, (io (wrapF IntKind.i64 (iAdd (Int.ofNat i) 1))))] ([some (.cells [(io (Lin.c x)), (lo Cf.enc (Lin.ts x))])]) ?_
          refine CG.endL rfl ?_
          rw [wrapI (by omega)]
          rotate_left
          · rw [hinv, if_pos (by omega)]; rfl
          · rw [hinv, if_pos (by omega)]; rfl
          · have hm := mul_bd (b := y.c) htc ⟨by omega, by omega⟩
            rw [if_neg (by omega)] at hinv
            rw [show wrapF .i64 (iAdd a (IntKind.wrap .i64 (t.c * y.c))) = a + t.c * y.c from by rw [wrapF_eq, iAdd_eq, IntKind.wrap_i64, IntKind.wrap_i64]; omega]
            exact ⟨a + t.c * y.c, ⟨hinv, by omega, by omega⟩, Tidy.refl _ _⟩
def encI (n : Int) : List D := [.int .i64 n]
def evR (vals : List Cf) : List Int → List Lin → List Int × Int
  | acc, [] => (acc, 0)
  | acc, x :: l => if (evX vals x).2 ≠ 0 then ([], (evX vals x).2) else if (evX vals x).1 < 0 ∨ 4096 < (evX vals x).1 then ([], 2) else evR vals (acc ++ [(evX vals x).1]) l
def evS (vals : List Cf) (row : List UInt8) (dims : List Lin) : List Int × Int := if shpB row dims = false then ([], 1) else if bytesEq row [] = false then ([], 13) else evR vals [] dims
def outE (p : List Int × Int) : V := .tuple [.d (.list (p.1.map encI)), .d (.int .i64 p.2)]
theorem pc_evS (hW : W0 W) (row : List UInt8) (dims : List Lin) (vals : List Cf) (hd : dims.length < 1048576) (hx : ∀ x ∈ dims, Lin.sm x) (hv : vals.length < 1099511627776) : PC P (gl W) 37 [vS row dims, .d (.list (vals.map Cf.enc))] (outE (evS vals row dims)) := by
  refine CG.start is37 ca37 rfl ?_
  have hV := pc_shpR hW row dims (by omega) hx
  cases hs : shpB row dims with
  | false =>
    rw [hs] at hV
    rw [evS, hs, if_pos rfl]
    refine s4 hW 6 1 [] 2 [(2, (.ptr 0 2 0)), (4, .nils), (5, (io 0)), (11, (.agg [(so row), (lo Lin.enc dims)]))] [(0, (.cells [(so row), (lo Lin.enc dims)]))] ?_
    refine CG.pg (hV) rfl (by kernel_rfl) ?_
    refine s1 hW 6 0 [true] 7 [(5, (io 1))] ?_
    refine CG.ret (v' := (.tuple [(.d (.list [])), (io 1)])) (by kernel_rfl) ?_
    rfl
  | true =>
    rw [hs] at hV
    cases hr : bytesEq row [] with
    | false =>
      rw [evS, hs, if_neg (by simp), hr, if_pos rfl]
      refine s4 hW 6 1 [] 2 [(2, (.ptr 0 2 0)), (4, .nils), (5, (io 0)), (11, (.agg [(so row), (lo Lin.enc dims)]))] [(0, (.cells [(so row), (lo Lin.enc dims)]))] ?_
      refine CG.pg (hV) rfl (by kernel_rfl) ?_
      refine s1 hW 6 0 [false] 15 [(14, (bo (!bytesEq row [])))] ?_
      refine CG.condT (b := (!bytesEq row [])) (by rw [hr]; rfl) (by kernel_rfl) ?_
      refine s1 hW 3 0 [] 7 [(5, (io 13))] ?_
      refine CG.ret (v' := (.tuple [(.d (.list [])), (io 13)])) (by kernel_rfl) ?_
      rfl
    | true =>
      rw [evS, hs, if_neg (by simp), hr, if_neg (by simp)]
      refine s4 hW 6 1 [] 2 [(2, (.ptr 0 2 0)), (4, .nils), (5, (io 0)), (11, (.agg [(so row), (lo Lin.enc dims)]))] [(0, (.cells [(so row), (lo Lin.enc dims)]))] ?_
      refine CG.pg (hV) rfl (by kernel_rfl) ?_
      refine s1 hW 6 0 [false] 15 [(14, (bo (!bytesEq row [])))] ?_
      refine CG.condF (b := (!bytesEq row [])) (by rw [hr]; rfl) (by kernel_rfl) ?_
      refine s1 hW 11 0 [] 15 [(6, .nils), (7, (io 0))] ?_
      rotate_left
      refine CG.tidy (Tidy.nilS 6 1 (tm' := [(1, (lo Cf.enc vals)), (2, (.ptr 0 2 0)), (4, .nils), (5, (io 0)), (6, .sl 1 0 0 0 1), (7, (io 0))]) (Nat.le_refl _) (by kernel_rfl) (by kernel_rfl)) ?_
      refine CG.isH ([some (.cells [(so row), (lo Lin.enc dims)]), some .nil]) (by kernel_rfl) ?_
      refine CG.is [(1, (lo Cf.enc vals)), (2, (.ptr 0 2 0)), (4, .nils), (5, (io 0)), (6, .sl 1 (List.length ([] : List Int) * 1) 0 (List.length ([] : List Int)) 1), (7, (io 0))] ([some (.cells [(so row), (lo Lin.enc dims)]), some (rowE encI ([] : List Int))]) (by kernel_rfl) ?_
      refine CG.loopL dims (fun i a => [(1, (lo Cf.enc vals)), (2, (.ptr 0 2 0)), (4, .nils), (5, (io 0)), (6, .sl 1 (a.length * 1) 0 a.length 1), (7, .d (.int .i64 (.ofNat i)))]) (fun i a => [some (.cells [(so row), (lo Lin.enc dims)]), some (rowE encI a)]) (fun i a r => (evR vals [] dims = evR vals a r ∧ a.length = i)) ([] : List Int) ?_ (Tidy.refl _ _) ?_ ?_
      · exact ⟨rfl, rfl⟩
      · rintro i a hi hdr ⟨hinv, ha⟩
        rw [hinv, evR]
        refine s1 hW 4 0 [] 63 [(22, (bo (iLt (Int.ofNat i) (Int.ofNat (List.length (List.map Lin.enc dims))))))] ?_
        refine CG.condF (show (iLt (Int.ofNat i) (Int.ofNat (List.length (List.map Lin.enc dims)))) = false from f_lt (by (try simp only [zz] at *) <;> omega)) (by kernel_rfl) ?_
        refine CG.exitL (by decide) ?_
        refine s1 hW 5 0 [] 8 [(4, (.sl 1 (List.length a * 1) 0 (List.length a) 1))] ?_
        rotate_left
        refine CG.tidy (Tidy.frzE (sz := 1) encI a 1 4 (tm' := [(4, (.d (.list (List.map encI a)))), (5, (io 0))]) (H' := [some (.cells [(so row), (lo Lin.enc dims)]), none]) (fun _ => rfl) (by kernel_rfl) (by kernel_rfl) ⟨.inr rfl, ⟨.inl rfl, trivial⟩⟩ (by kernel_rfl) (by kernel_rfl)) ?_
        refine CG.ret (v' := (.tuple [(lo encI a), (io 0)])) (by kernel_rfl) ?_
        rfl
      · rintro i a x r hdr hxx hlt ⟨hinv, ha⟩
        have hE := pc_ev hW x vals (hx x (List.mem_of_getElem? hxx)) hv
        rw [evR] at hinv
        obtain ⟨n, e, hne⟩ : ∃ n e, evX vals x = (n, e) := ⟨_, _, rfl⟩
        rw [hne] at hE hinv
        dsimp only at hinv
        unfold outI at hE
        dsimp only at hE
        refine s1 hW 4 0 [] 63 [(22, (bo (iLt (Int.ofNat i) (Int.ofNat (List.length (List.map Lin.enc dims))))))] ?_
        refine CG.condT (show (iLt (Int.ofNat i) (Int.ofNat (List.length (List.map Lin.enc dims)))) = true from t_lt (by (try simp only [zz] at *) <;> omega)) (by kernel_rfl) ?_
        refine s1 hW 5 3 [] 63 [(27, (lo Lin.enc dims)), (28, (no i))] ?_
        refine CG.ix (idx_map (enc := Lin.enc) hxx) rfl (by kernel_rfl) ?_
        refine s1 hW 0 2 [] 63 [(30, (.agg [(io (Lin.c x)), (lo Cf.enc (Lin.ts x))])), (31, (lo Cf.enc vals))] ?_
        refine CG.pg (hE) rfl (by kernel_rfl) ?_
        refine s1 hW 6 0 [] 63 [(8, (io n)), (9, (io e)), (36, (bo (!iEq e 0)))] ?_
        refine spEq e 0 (fun q26 p26 => ?_) (fun q26 p26 => ?_)
        refine CG.condF (b := (!iEq e 0)) (by rw [q26]; rfl) (by kernel_rfl) ?_
        refine s1 hW 4 3 [] 127 [(40, (bo (iLt n 0)))] ?_
        refine spLt n 0 (fun q28 p28 => ?_) (fun q28 p28 => ?_)
        rw [q28]
        refine s1 hW 6 0 [true] 119 [(5, (io 2))] ?_
        refine CG.retL (v' := (.tuple [(.d (.list [])), (io 2)])) (by kernel_rfl) ?_
        rotate_left
        rw [q28]
        refine s1 hW 2 0 [] 127 [(43, (bo (iLt 4096 n)))] ?_
        refine spLt 4096 n (fun q29 p29 => ?_) (fun q29 p29 => ?_)
        refine CG.condT q29 (by kernel_rfl) ?_
        refine s1 hW 3 0 [] 119 [(5, (io 2))] ?_
        refine CG.retL (v' := (.tuple [(.d (.list [])), (io 2)])) (by kernel_rfl) ?_
        rotate_left
        refine CG.condF q29 (by kernel_rfl) ?_
        refine s1 hW 2 3 [] 63 [(44, (.sl 1 (List.length a * 1) 0 (List.length a) 1)), (46, (.d (.list [[(.int .i64 n)]])))] ?_
        refine CG.apE encI a (n :: []) 1 (fun _ => rfl) rfl (by kernel_rfl) (by kernel_rfl) (by (try simp only [zz] at *) <;> omega) ?_
        refine s3 hW 3 3 [] [(1, (lo Cf.enc vals)), (2, (.ptr 0 2 0)), (4, .nils), (5, (io 0)), (6, (.sl 1 (List.length (a ++ [n]) * 1) 0 (List.length (a ++ [n])) 1)), (7, (io (wrapF IntKind.i64 (iAdd (Int.ofNat i) 1))))] ([some (.cells [(so row), (lo Lin.enc dims)]), some (rowE encI (a ++ [n]))]) ?_
        refine CG.endL rfl ?_
        rw [wrapI (by omega)]
        rotate_left
        refine CG.condT (b := (!iEq e 0)) (by rw [q26]; rfl) (by kernel_rfl) ?_
        refine s1 hW 3 0 [] 119 [(5, (io e))] ?_
        refine CG.retL (v' := (.tuple [(.d (.list [])), (io e)])) (by kernel_rfl) ?_
        rotate_left
        · rw [hinv, if_neg (by omega), if_pos (by omega)]; rfl
        · rw [hinv, if_neg (by omega), if_pos (by omega)]; rfl
        · exact ⟨a ++ [n], ⟨by rw [hinv, if_neg (by omega), if_neg (by omega)], by simp [ha]⟩, Tidy.refl _ _⟩
        · rw [hinv, if_pos (by omega)]; rfl
end Fw.Tz.Xa

/-
  Values of shapes: what the reference answers, told by lists of values.
-/
namespace Fw.Tz.Xb
open Go Fw.Tz.Va Fw.Tz.Vb Fw.Tz.Vc Fw.Tz.Fg Fw.Tz.Eq Fw.Tz.Pp Fw.Tz.Xa Fw.Tz.Pv
def okV (vals : List Cf) (x : Lin) : Option Int := if (evX vals x).2 = 0 ∧ 0 ≤ (evX vals x).1 ∧ (evX vals x).1 ≤ 4096 then some (evX vals x).1 else none
theorem okV_pos (vals : List Cf) : ∀ x v, okV vals x = some v → 0 ≤ v := fun x v h => by
  unfold okV at h
  split at h
  · rename_i hc
    simp only [Option.some.injEq] at h
    omega
  · cases h
theorem evR_ok (vals : List Cf) : ∀ (l : List Lin) (acc : List Int), (evR vals acc l).2 = 0 → ∃ s, evAll (okV vals) l = some s ∧ (evR vals acc l).1 = acc ++ s
  | [], acc, _ => ⟨[], rfl, by simp [evR]⟩
  | x :: l, acc, h => by
    rw [evR] at h ⊢
    by_cases h1 : (evX vals x).2 = 0
    · rw [if_neg (by omega)] at h ⊢
      by_cases h2 : (evX vals x).1 < 0 ∨ 4096 < (evX vals x).1
      · rw [if_pos h2] at h
        simp at h
      · rw [if_neg h2] at h ⊢
        obtain ⟨s, k1, k2⟩ := evR_ok vals l _ h
        refine ⟨(evX vals x).1 :: s, ?_, by rw [k2]; simp⟩
        have : okV vals x = some (evX vals x).1 := by
          unfold okV
          rw [if_pos ⟨h1, by omega, by omega⟩]
        rw [evAll, this, k1]
        rfl
    · rw [if_pos h1] at h
      exact absurd h h1
theorem evS_ok {vals : List Cf} {row : List UInt8} {dims : List Lin} (h : (evS vals row dims).2 = 0) : ∃ s, evAll (okV vals) dims = some s ∧ (evS vals row dims).1 = s := by
  unfold evS at h ⊢
  split at h
  · simp at h
  · split at h
    · simp at h
    · rename_i h1 h2
      rw [if_neg h1, if_neg h2]
      obtain ⟨s, k1, k2⟩ := evR_ok vals dims [] h
      exact ⟨s, k1, by rw [k2]; simp⟩
theorem evTs_snoc (f : Lin → Option Int) (t : Ty) {d : List Int} (ht : evAll f t.dims = some d) : ∀ (l : List Ty) {r : List (List Int)}, evTs f l = some r → evTs f (l ++ [t]) = some (r ++ [d])
  | [], r, h => by
    simp only [evTs, Option.some.injEq] at h
    subst h
    simp [evTs, ht]
  | u :: l, r, h => by
    rw [evTs] at h
    split at h
    · cases h
    · rename_i v hv
      simp only [Option.map_eq_some_iff] at h
      obtain ⟨a, h1, rfl⟩ := h
      rw [List.cons_append, evTs, hv, evTs_snoc f t ht l h1]
      rfl
end Fw.Tz.Xb
