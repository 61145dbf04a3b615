/-
  Lists of numbers and of truth values: what the library and the references compute over them.
-/
import Derived.Test.YtgfgckimecpmlaaGreatDoorTc
import Derived.Test.YtgfgckimecpmlaaGreatDoorFg

set_option linter.unusedSimpArgs false
set_option maxRecDepth 1000000
set_option maxHeartbeats 4000000
namespace Fw.Tz.Dm
open Go Go.Proofs Fw.X Fw.Tz
variable {W : World}
noncomputable def rd (W : World) (ov : List (Nat × Bool)) (sp : List (Nat × V)) (n : Nat) (l : List IOper) (ks : List Nat) (tm : List (Nat × V)) (H : Heap) : Option (List V × Heap × List (Bool × Bool) × CallL) :=
  runDX [5] (gl W) (dcallOf (pcallX kt0 .e (rawX W kt0 .e 40)) (callX W kt0 .e (rawX W kt0 .e 40))) ov sp n l ks tm H
noncomputable def rg (W : World) (n : Nat) (N j : Nat) (bs : List Bool) (cur : Cur) (K : List Fr) (ks : List Nat) (tm : List (Nat × V)) (H : Heap) : Option XR :=
  runG [5] (gl W) (callX W kt0 .e (rawX W kt0 .e 40)) (pcallX kt0 .e (rawX W kt0 .e 40)) n N j bs cur K ks tm H
theorem st (hW : W0 W) (N j : Nat) (bs : List Bool) {cur : Cur} {K : List Fr} {n : Nat} {tm : List (Nat × V)} {H : Heap} {Q : Ex → St → Prop} (c' : Cur) (K' : List Fr) (tm' : List (Nat × V)) (H' : Heap)
    (h1 : ctlJ N j bs cur K = some (c', K')) (h2 : rg W n N j bs cur K (tm'.map Prod.fst) tm H = some (.tuple (tm'.map Prod.snd), H')) (hq : CG P (gl W) c' K' n tm' H' Q) : CG P (gl W) cur K n tm H Q :=
  CG.st orders (callX_ok hW (ex0) _ (rawX_ok hW (ex0) 40)) (pcallX_ok hW (ex0) _ (rawX_ok hW (ex0) 40)) N j bs h1 h2 hq
theorem wrapS {a b : Int} (h : -9223372036854775808 ≤ a - b ∧ a - b ≤ 9223372036854775807) : wrapF .i64 (a - b) = a - b := by
  rw [wrapF_eq, IntKind.wrap_i64]; omega
theorem drop_at {α : Type} {l : List α} {i : Nat} {x : α} (h : l[i]? = some x) : l.drop i = x :: l.drop (i + 1) := by
  obtain ⟨hlt, he⟩ := List.getElem?_eq_some_iff.1 h
  rw [List.drop_eq_getElem_cons hlt, he]
def encI (n : Int) : List D := [.int .i64 n]
def encB (b : Bool) : List D := [.bool b]
def encL (l : List Int) : List D := [.list (l.map encI)]
def neg (n : Int) : Bool := iLt n 0
def fiV : Option Nat → V
  | some i => .d (.int .i64 (.ofNat i))
  | none => .d (.int .i64 (-1))
theorem pc_eqInts (hW : W0 W) (a b : List Int) (ha : a.length < 1099511627776) : PC P (gl W) 85 [.d (.list (a.map encI)), .d (.list (b.map encI))] (.d (.bool (a == b))) := by
  refine CG.start is85 ca85 rfl ?_
  refine st hW 7 0 [] (.code (.cond (Opd.t 10) (.seq (.region f85.r2) .ret) .skip)) [.seq (.seq (.seq (.region f85.r3) (.block 0 (.loop f85.l9))) (.seq (.region f85.r10) .ret))] [(0, (.d (.list (List.map encI a)))), (1, (.d (.list (List.map encI b)))), (4, (.d (.bool false))), (10, (.d (.bool (!iEq (Int.ofNat (List.length (List.map encI a))) (Int.ofNat (List.length (List.map encI b)))))))] ([]) (by kernel_rfl) (by kernel_rfl) ?_
  refine (Bool.eq_false_or_eq_true (iEq (Int.ofNat (List.length (List.map encI a))) (Int.ofNat (List.length (List.map encI b))))).elim (fun q7 => ?_) (fun q7 => ?_)
  have p7 := eqT q7
  simp only [Int.ofNat_eq_natCast, List.length_map, List.length_append, List.length_cons, List.length_nil, List.length_take, List.length_drop] at p7
  rotate_left
  have p7 := eqF q7
  simp only [Int.ofNat_eq_natCast, List.length_map, List.length_append, List.length_cons, List.length_nil, List.length_take, List.length_drop] at p7
  rotate_right
  refine CG.condF (b := (!iEq (Int.ofNat (List.length (List.map encI a))) (Int.ofNat (List.length (List.map encI b))))) (by rw [q7]; rfl) (by kernel_rfl) ?_
  refine st hW 7 0 [] (.code (.loop f85.l9)) [.block 0, .seq (.seq (.region f85.r10) .ret)] [(0, (.d (.list (List.map encI a)))), (1, (.d (.list (List.map encI b)))), (4, (.d (.bool false))), (12, (.d (.int .i64 (.ofNat (List.length (List.map encI a)))))), (13, (.d (.int .i64 0)))] ([]) (by kernel_rfl) (by kernel_rfl) ?_
  rotate_left
  refine CG.condT (b := (!iEq (Int.ofNat (List.length (List.map encI a))) (Int.ofNat (List.length (List.map encI b))))) (by rw [q7]; rfl) (by kernel_rfl) ?_
  refine st hW 3 0 [] (.code .ret) [.seq (.seq (.seq (.region f85.r3) (.block 0 (.loop f85.l9))) (.seq (.region f85.r10) .ret))] [(0, (.d (.list (List.map encI a)))), (1, (.d (.list (List.map encI b)))), (4, (.d (.bool false)))] ([]) (by kernel_rfl) (by kernel_rfl) ?_
  refine CG.ret (v' := (.d (.bool false))) (by kernel_rfl) ?_
  rotate_left
  · refine CG.loopL a (fun i u => [(0, (.d (.list (List.map encI a)))), (1, (.d (.list (List.map encI b)))), (4, (.d (.bool false))), (12, (.d (.int .i64 (.ofNat (List.length (List.map encI a)))))), (13, .d (.int .i64 (.ofNat i)))]) (fun i u => []) (fun i u r => ((r == b.drop i) = (a == b))) () ?_ (Tidy.refl _ _) ?_ ?_
    · simp
    · intro i u hi hd hinv
      refine st hW 4 0 [] (.code (.cond (Opd.t 14) .skip (.exit 0))) [.seq (.seq (.block 1 (.seq (.region f85.r5) (.seq (.draw f85.r6) (.cond (Opd.t 24) (.seq (.region f85.r7) .ret) .skip)))) (.region f85.r8))] [(0, (.d (.list (List.map encI a)))), (1, (.d (.list (List.map encI b)))), (4, (.d (.bool false))), (13, (.d (.int .i64 (.ofNat i)))), (14, (.d (.bool (iLt (Int.ofNat i) (Int.ofNat (List.length (List.map encI a)))))))] ([]) (by kernel_rfl) (by kernel_rfl) ?_
      have q13 : (iLt (Int.ofNat i) (Int.ofNat (List.length (List.map encI a)))) = false := f_lt (by (try simp only [Int.ofNat_eq_natCast, List.length_map, List.length_append, List.length_cons, List.length_nil, List.length_take, List.length_drop] at *) <;> omega)
      refine CG.condF (b := (iLt (Int.ofNat i) (Int.ofNat (List.length (List.map encI a))))) q13 (by kernel_rfl) ?_
      refine CG.exitL (by decide) ?_
      refine st hW 5 0 [] (.code .ret) [] [(4, (.d (.bool true)))] ([]) (by kernel_rfl) (by kernel_rfl) ?_
      refine CG.ret (v' := (.d (.bool true))) (by kernel_rfl) ?_
      rotate_left
      rw [← hinv, show b.drop i = [] from List.drop_of_length_le (by omega)]; rfl
    · intro i u x r hd hx hlt hinv
      obtain ⟨y, hy⟩ : ∃ y, b[i]? = some y := ⟨_, List.getElem?_eq_getElem (by omega)⟩
      rw [drop_at hy, List.cons_beq_cons] at hinv
      refine st hW 4 0 [] (.code (.cond (Opd.t 14) .skip (.exit 0))) [.seq (.seq (.block 1 (.seq (.region f85.r5) (.seq (.draw f85.r6) (.cond (Opd.t 24) (.seq (.region f85.r7) .ret) .skip)))) (.region f85.r8))] [(0, (.d (.list (List.map encI a)))), (1, (.d (.list (List.map encI b)))), (4, (.d (.bool false))), (12, (.d (.int .i64 (.ofNat (List.length (List.map encI a)))))), (13, (.d (.int .i64 (.ofNat i)))), (14, (.d (.bool (iLt (Int.ofNat i) (Int.ofNat (List.length (List.map encI a)))))))] ([]) (by kernel_rfl) (by kernel_rfl) ?_
      have q18 : (iLt (Int.ofNat i) (Int.ofNat (List.length (List.map encI a)))) = true := t_lt (by (try simp only [Int.ofNat_eq_natCast, List.length_map, List.length_append, List.length_cons, List.length_nil, List.length_take, List.length_drop] at *) <;> omega)
      refine CG.condT (b := (iLt (Int.ofNat i) (Int.ofNat (List.length (List.map encI a))))) q18 (by kernel_rfl) ?_
      refine st hW 8 0 [] (.code (.draw f85.r6)) [.seq (.cond (Opd.t 24) (.seq (.region f85.r7) .ret) .skip), .block 1, .seq (.region f85.r8)] [(0, (.d (.list (List.map encI a)))), (1, (.d (.list (List.map encI b)))), (4, (.d (.bool false))), (5, (.d (.int .i64 (.ofNat i)))), (12, (.d (.int .i64 (.ofNat (List.length (List.map encI a)))))), (13, (.d (.int .i64 (.ofNat i))))] ([]) (by kernel_rfl) (by kernel_rfl) ?_
      refine CG.drawA orders (by kernel_rfl) (by first | kernel_rfl | (simp only [heapLt, boxLt_row, boxLt_cell, Bool.and_self, Bool.true_and]; done)) ?_
      refine AO.run 2 (tm' := [(0, (.d (.list (List.map encI a)))), (1, (.d (.list (List.map encI b)))), (4, (.d (.bool false))), (5, (.d (.int .i64 (.ofNat i)))), (12, (.d (.int .i64 (.ofNat (List.length (List.map encI a)))))), (13, (.d (.int .i64 (.ofNat i)))), (16, (.d (.list (List.map encI a)))), (17, (.d (.int .i64 (.ofNat i))))]) (by kernel_rfl) ?_
      refine AO.idx (es := a.map encI) (j := i) (e := encI x) (idx_map hx) rfl (by kernel_rfl) (by kernel_rfl) (by kernel_rfl) rfl ?_
      refine AO.run 3 (tm' := [(0, (.d (.list (List.map encI a)))), (1, (.d (.list (List.map encI b)))), (4, (.d (.bool false))), (5, (.d (.int .i64 (.ofNat i)))), (12, (.d (.int .i64 (.ofNat (List.length (List.map encI a)))))), (13, (.d (.int .i64 (.ofNat i)))), (16, (.d (.list (List.map encI a)))), (17, (.d (.int .i64 (.ofNat i)))), (18, (.cptr [(.int .i64 x)])), (19, (.d (.int .i64 x))), (20, (.d (.list (List.map encI b)))), (21, (.d (.int .i64 (.ofNat i))))]) (by kernel_rfl) ?_
      refine AO.idx (es := b.map encI) (j := i) (e := encI y) (idx_map hy) rfl (by kernel_rfl) (by kernel_rfl) (by kernel_rfl) rfl ?_
      refine AO.run 2 (tm' := [(0, (.d (.list (List.map encI a)))), (1, (.d (.list (List.map encI b)))), (4, (.d (.bool false))), (5, (.d (.int .i64 (.ofNat i)))), (12, (.d (.int .i64 (.ofNat (List.length (List.map encI a)))))), (13, (.d (.int .i64 (.ofNat i)))), (16, (.d (.list (List.map encI a)))), (17, (.d (.int .i64 (.ofNat i)))), (18, (.cptr [(.int .i64 x)])), (19, (.d (.int .i64 x))), (20, (.d (.list (List.map encI b)))), (21, (.d (.int .i64 (.ofNat i)))), (22, (.cptr [(.int .i64 y)])), (23, (.d (.int .i64 y))), (24, (.d (.bool (x != y))))]) (by kernel_rfl) ?_
      refine AO.done (tm2 := [(0, (.d (.list (List.map encI a)))), (1, (.d (.list (List.map encI b)))), (4, (.d (.bool false))), (12, (.d (.int .i64 (.ofNat (List.length (List.map encI a)))))), (13, (.d (.int .i64 (.ofNat i)))), (24, (.d (.bool (x != y))))]) [0, 1, 4, 12, 13, 24] rfl (by kernel_rfl) (by kernel_rfl) ?_
      refine st hW 1 0 [] (.code (.cond (Opd.t 24) (.seq (.region f85.r7) .ret) .skip)) [.block 1, .seq (.region f85.r8)] [(0, (.d (.list (List.map encI a)))), (1, (.d (.list (List.map encI b)))), (4, (.d (.bool false))), (12, (.d (.int .i64 (.ofNat (List.length (List.map encI a)))))), (13, (.d (.int .i64 (.ofNat i)))), (24, (.d (.bool (x != y))))] ([]) (by kernel_rfl) (by kernel_rfl) ?_
      refine (Bool.eq_false_or_eq_true (x != y)).elim (fun q20 => ?_) (fun q20 => ?_)
      have p20 := bneT q20
      rotate_left
      have p20 := bneF q20
      rotate_right
      refine CG.condT (b := (x != y)) q20 (by kernel_rfl) ?_
      refine st hW 3 0 [] (.code .ret) [.block 1, .seq (.region f85.r8)] [(0, (.d (.list (List.map encI a)))), (1, (.d (.list (List.map encI b)))), (4, (.d (.bool false))), (12, (.d (.int .i64 (.ofNat (List.length (List.map encI a)))))), (13, (.d (.int .i64 (.ofNat i))))] ([]) (by kernel_rfl) (by kernel_rfl) ?_
      refine CG.retL (v' := (.d (.bool false))) (by kernel_rfl) ?_
      rotate_left
      refine CG.condF (b := (x != y)) q20 (by kernel_rfl) ?_
      refine st hW 3 2 [] (.ops (List.drop 2 f85.r8)) [] [(0, (.d (.list (List.map encI a)))), (1, (.d (.list (List.map encI b)))), (4, (.d (.bool false))), (12, (.d (.int .i64 (.ofNat (List.length (List.map encI a)))))), (13, (.d (.int .i64 (wrapF IntKind.i64 (iAdd (Int.ofNat i) 1)))))] ([]) (by kernel_rfl) (by kernel_rfl) ?_
      refine CG.endL rfl ?_
      rw [wrapI (by omega)]
      rotate_left
      all_goals first
        | exact ⟨(), by rw [← hinv, show (x == y) = true from by first | assumption | simpa using (by assumption : x = y)]; simp, Tidy.refl _ _⟩
        | (rw [← hinv, show (x == y) = false from by first | assumption | simpa using (by assumption : x ≠ y)]; rfl)
  · have : a ≠ b := by rintro rfl; omega
    simp [this]
theorem pc_sameInts (hW : W0 W) (a b : List Int) (ha : a.length < 1099511627776) : PC P (gl W) 36 [.d (.list (a.map encI)), .d (.list (b.map encI))] (.d (.bool (a == b))) := by
  refine CG.start is36 ca36 rfl ?_
  refine st hW 7 0 [] (.code (.cond (Opd.t 10) (.seq (.region f36.r2) .ret) .skip)) [.seq (.seq (.seq (.region f36.r3) (.block 0 (.loop f36.l8))) (.seq (.region f36.r9) .ret))] [(0, (.d (.list (List.map encI a)))), (1, (.d (.list (List.map encI b)))), (4, (.d (.bool false))), (10, (.d (.bool (!iEq (Int.ofNat (List.length (List.map encI a))) (Int.ofNat (List.length (List.map encI b)))))))] ([]) (by kernel_rfl) (by kernel_rfl) ?_
  refine (Bool.eq_false_or_eq_true (iEq (Int.ofNat (List.length (List.map encI a))) (Int.ofNat (List.length (List.map encI b))))).elim (fun q7 => ?_) (fun q7 => ?_)
  have p7 := eqT q7
  simp only [Int.ofNat_eq_natCast, List.length_map, List.length_append, List.length_cons, List.length_nil, List.length_take, List.length_drop] at p7
  rotate_left
  have p7 := eqF q7
  simp only [Int.ofNat_eq_natCast, List.length_map, List.length_append, List.length_cons, List.length_nil, List.length_take, List.length_drop] at p7
  rotate_right
  refine CG.condF (b := (!iEq (Int.ofNat (List.length (List.map encI a))) (Int.ofNat (List.length (List.map encI b))))) (by rw [q7]; rfl) (by kernel_rfl) ?_
  refine st hW 7 0 [] (.code (.loop f36.l8)) [.block 0, .seq (.seq (.region f36.r9) .ret)] [(0, (.d (.list (List.map encI a)))), (1, (.d (.list (List.map encI b)))), (4, (.d (.bool false))), (5, (.d (.int .i64 0)))] ([]) (by kernel_rfl) (by kernel_rfl) ?_
  rotate_left
  refine CG.condT (b := (!iEq (Int.ofNat (List.length (List.map encI a))) (Int.ofNat (List.length (List.map encI b))))) (by rw [q7]; rfl) (by kernel_rfl) ?_
  refine st hW 3 0 [] (.code .ret) [.seq (.seq (.seq (.region f36.r3) (.block 0 (.loop f36.l8))) (.seq (.region f36.r9) .ret))] [(0, (.d (.list (List.map encI a)))), (1, (.d (.list (List.map encI b)))), (4, (.d (.bool false)))] ([]) (by kernel_rfl) (by kernel_rfl) ?_
  refine CG.ret (v' := (.d (.bool false))) (by kernel_rfl) ?_
  rotate_left
  · refine CG.loopL a (fun i u => [(0, (.d (.list (List.map encI a)))), (1, (.d (.list (List.map encI b)))), (4, (.d (.bool false))), (5, .d (.int .i64 (.ofNat i)))]) (fun i u => []) (fun i u r => ((r == b.drop i) = (a == b))) () ?_ (Tidy.refl _ _) ?_ ?_
    · simp
    · intro i u hi hd hinv
      refine st hW 4 0 [] (.code (.cond (Opd.t 14) .skip (.exit 0))) [.seq (.seq (.block 1 (.seq (.draw f36.r5) (.cond (Opd.t 25) (.seq (.region f36.r6) .ret) .skip))) (.region f36.r7))] [(0, (.d (.list (List.map encI a)))), (1, (.d (.list (List.map encI b)))), (4, (.d (.bool false))), (5, (.d (.int .i64 (.ofNat i)))), (14, (.d (.bool (iLt (Int.ofNat i) (Int.ofNat (List.length (List.map encI a)))))))] ([]) (by kernel_rfl) (by kernel_rfl) ?_
      have q13 : (iLt (Int.ofNat i) (Int.ofNat (List.length (List.map encI a)))) = false := f_lt (by (try simp only [Int.ofNat_eq_natCast, List.length_map, List.length_append, List.length_cons, List.length_nil, List.length_take, List.length_drop] at *) <;> omega)
      refine CG.condF (b := (iLt (Int.ofNat i) (Int.ofNat (List.length (List.map encI a))))) q13 (by kernel_rfl) ?_
      refine CG.exitL (by decide) ?_
      refine st hW 5 0 [] (.code .ret) [] [(4, (.d (.bool true)))] ([]) (by kernel_rfl) (by kernel_rfl) ?_
      refine CG.ret (v' := (.d (.bool true))) (by kernel_rfl) ?_
      rotate_left
      rw [← hinv, show b.drop i = [] from List.drop_of_length_le (by omega)]; rfl
    · intro i u x r hd hx hlt hinv
      obtain ⟨y, hy⟩ : ∃ y, b[i]? = some y := ⟨_, List.getElem?_eq_getElem (by omega)⟩
      rw [drop_at hy, List.cons_beq_cons] at hinv
      refine st hW 4 0 [] (.code (.cond (Opd.t 14) .skip (.exit 0))) [.seq (.seq (.block 1 (.seq (.draw f36.r5) (.cond (Opd.t 25) (.seq (.region f36.r6) .ret) .skip))) (.region f36.r7))] [(0, (.d (.list (List.map encI a)))), (1, (.d (.list (List.map encI b)))), (4, (.d (.bool false))), (5, (.d (.int .i64 (.ofNat i)))), (14, (.d (.bool (iLt (Int.ofNat i) (Int.ofNat (List.length (List.map encI a)))))))] ([]) (by kernel_rfl) (by kernel_rfl) ?_
      have q18 : (iLt (Int.ofNat i) (Int.ofNat (List.length (List.map encI a)))) = true := t_lt (by (try simp only [Int.ofNat_eq_natCast, List.length_map, List.length_append, List.length_cons, List.length_nil, List.length_take, List.length_drop] at *) <;> omega)
      refine CG.condT (b := (iLt (Int.ofNat i) (Int.ofNat (List.length (List.map encI a))))) q18 (by kernel_rfl) ?_
      refine st hW 5 0 [] (.code (.draw f36.r5)) [.seq (.cond (Opd.t 25) (.seq (.region f36.r6) .ret) .skip), .block 1, .seq (.region f36.r7)] [(0, (.d (.list (List.map encI a)))), (1, (.d (.list (List.map encI b)))), (4, (.d (.bool false))), (5, (.d (.int .i64 (.ofNat i))))] ([]) (by kernel_rfl) (by kernel_rfl) ?_
      refine CG.drawA orders (by kernel_rfl) (by first | kernel_rfl | (simp only [heapLt, boxLt_row, boxLt_cell, Bool.and_self, Bool.true_and]; done)) ?_
      refine AO.run 2 (tm' := [(0, (.d (.list (List.map encI a)))), (1, (.d (.list (List.map encI b)))), (4, (.d (.bool false))), (5, (.d (.int .i64 (.ofNat i)))), (17, (.d (.list (List.map encI a)))), (18, (.d (.int .i64 (.ofNat i))))]) (by kernel_rfl) ?_
      refine AO.idx (es := a.map encI) (j := i) (e := encI x) (idx_map hx) rfl (by kernel_rfl) (by kernel_rfl) (by kernel_rfl) rfl ?_
      refine AO.run 3 (tm' := [(0, (.d (.list (List.map encI a)))), (1, (.d (.list (List.map encI b)))), (4, (.d (.bool false))), (5, (.d (.int .i64 (.ofNat i)))), (17, (.d (.list (List.map encI a)))), (18, (.d (.int .i64 (.ofNat i)))), (19, (.cptr [(.int .i64 x)])), (20, (.d (.int .i64 x))), (21, (.d (.list (List.map encI b)))), (22, (.d (.int .i64 (.ofNat i))))]) (by kernel_rfl) ?_
      refine AO.idx (es := b.map encI) (j := i) (e := encI y) (idx_map hy) rfl (by kernel_rfl) (by kernel_rfl) (by kernel_rfl) rfl ?_
      refine AO.run 2 (tm' := [(0, (.d (.list (List.map encI a)))), (1, (.d (.list (List.map encI b)))), (4, (.d (.bool false))), (5, (.d (.int .i64 (.ofNat i)))), (17, (.d (.list (List.map encI a)))), (18, (.d (.int .i64 (.ofNat i)))), (19, (.cptr [(.int .i64 x)])), (20, (.d (.int .i64 x))), (21, (.d (.list (List.map encI b)))), (22, (.d (.int .i64 (.ofNat i)))), (23, (.cptr [(.int .i64 y)])), (24, (.d (.int .i64 y))), (25, (.d (.bool (x != y))))]) (by kernel_rfl) ?_
      refine AO.done (tm2 := [(0, (.d (.list (List.map encI a)))), (1, (.d (.list (List.map encI b)))), (4, (.d (.bool false))), (5, (.d (.int .i64 (.ofNat i)))), (25, (.d (.bool (x != y))))]) [0, 1, 4, 5, 25] rfl (by kernel_rfl) (by kernel_rfl) ?_
      refine st hW 1 0 [] (.code (.cond (Opd.t 25) (.seq (.region f36.r6) .ret) .skip)) [.block 1, .seq (.region f36.r7)] [(0, (.d (.list (List.map encI a)))), (1, (.d (.list (List.map encI b)))), (4, (.d (.bool false))), (5, (.d (.int .i64 (.ofNat i)))), (25, (.d (.bool (x != y))))] ([]) (by kernel_rfl) (by kernel_rfl) ?_
      refine (Bool.eq_false_or_eq_true (x != y)).elim (fun q20 => ?_) (fun q20 => ?_)
      have p20 := bneT q20
      rotate_left
      have p20 := bneF q20
      rotate_right
      refine CG.condT (b := (x != y)) q20 (by kernel_rfl) ?_
      refine st hW 3 0 [] (.code .ret) [.block 1, .seq (.region f36.r7)] [(0, (.d (.list (List.map encI a)))), (1, (.d (.list (List.map encI b)))), (4, (.d (.bool false))), (5, (.d (.int .i64 (.ofNat i))))] ([]) (by kernel_rfl) (by kernel_rfl) ?_
      refine CG.retL (v' := (.d (.bool false))) (by kernel_rfl) ?_
      rotate_left
      refine CG.condF (b := (x != y)) q20 (by kernel_rfl) ?_
      refine st hW 3 3 [] (.ops (List.drop 3 f36.r7)) [] [(0, (.d (.list (List.map encI a)))), (1, (.d (.list (List.map encI b)))), (4, (.d (.bool false))), (5, (.d (.int .i64 (wrapF IntKind.i64 (iAdd (Int.ofNat i) 1)))))] ([]) (by kernel_rfl) (by kernel_rfl) ?_
      refine CG.endL rfl ?_
      rw [wrapI (by omega)]
      rotate_left
      all_goals first
        | exact ⟨(), by rw [← hinv, show (x == y) = true from by first | assumption | simpa using (by assumption : x = y)]; simp, Tidy.refl _ _⟩
        | (rw [← hinv, show (x == y) = false from by first | assumption | simpa using (by assumption : x ≠ y)]; rfl)
  · have : a ≠ b := by rintro rfl; omega
    simp [this]
theorem pc_sameFramed (hW : W0 W) (a b : List Bool) (ha : a.length < 1099511627776) : PC P (gl W) 21 [.d (.list (a.map encB)), .d (.list (b.map encB))] (.d (.bool (a == b))) := by
  refine CG.start is21 ca21 rfl ?_
  refine st hW 7 0 [] (.code (.cond (Opd.t 10) (.seq (.region f21.r2) .ret) .skip)) [.seq (.seq (.seq (.region f21.r3) (.block 0 (.loop f21.l8))) (.seq (.region f21.r9) .ret))] [(0, (.d (.list (List.map encB a)))), (1, (.d (.list (List.map encB b)))), (4, (.d (.bool false))), (10, (.d (.bool (!iEq (Int.ofNat (List.length (List.map encB a))) (Int.ofNat (List.length (List.map encB b)))))))] ([]) (by kernel_rfl) (by kernel_rfl) ?_
  refine (Bool.eq_false_or_eq_true (iEq (Int.ofNat (List.length (List.map encB a))) (Int.ofNat (List.length (List.map encB b))))).elim (fun q7 => ?_) (fun q7 => ?_)
  have p7 := eqT q7
  simp only [Int.ofNat_eq_natCast, List.length_map, List.length_append, List.length_cons, List.length_nil, List.length_take, List.length_drop] at p7
  rotate_left
  have p7 := eqF q7
  simp only [Int.ofNat_eq_natCast, List.length_map, List.length_append, List.length_cons, List.length_nil, List.length_take, List.length_drop] at p7
  rotate_right
  refine CG.condF (b := (!iEq (Int.ofNat (List.length (List.map encB a))) (Int.ofNat (List.length (List.map encB b))))) (by rw [q7]; rfl) (by kernel_rfl) ?_
  refine st hW 7 0 [] (.code (.loop f21.l8)) [.block 0, .seq (.seq (.region f21.r9) .ret)] [(0, (.d (.list (List.map encB a)))), (1, (.d (.list (List.map encB b)))), (4, (.d (.bool false))), (5, (.d (.int .i64 0)))] ([]) (by kernel_rfl) (by kernel_rfl) ?_
  rotate_left
  refine CG.condT (b := (!iEq (Int.ofNat (List.length (List.map encB a))) (Int.ofNat (List.length (List.map encB b))))) (by rw [q7]; rfl) (by kernel_rfl) ?_
  refine st hW 3 0 [] (.code .ret) [.seq (.seq (.seq (.region f21.r3) (.block 0 (.loop f21.l8))) (.seq (.region f21.r9) .ret))] [(0, (.d (.list (List.map encB a)))), (1, (.d (.list (List.map encB b)))), (4, (.d (.bool false)))] ([]) (by kernel_rfl) (by kernel_rfl) ?_
  refine CG.ret (v' := (.d (.bool false))) (by kernel_rfl) ?_
  rotate_left
  · refine CG.loopL a (fun i u => [(0, (.d (.list (List.map encB a)))), (1, (.d (.list (List.map encB b)))), (4, (.d (.bool false))), (5, .d (.int .i64 (.ofNat i)))]) (fun i u => []) (fun i u r => ((r == b.drop i) = (a == b))) () ?_ (Tidy.refl _ _) ?_ ?_
    · simp
    · intro i u hi hd hinv
      refine st hW 4 0 [] (.code (.cond (Opd.t 14) .skip (.exit 0))) [.seq (.seq (.block 1 (.seq (.draw f21.r5) (.cond (Opd.t 25) (.seq (.region f21.r6) .ret) .skip))) (.region f21.r7))] [(0, (.d (.list (List.map encB a)))), (1, (.d (.list (List.map encB b)))), (4, (.d (.bool false))), (5, (.d (.int .i64 (.ofNat i)))), (14, (.d (.bool (iLt (Int.ofNat i) (Int.ofNat (List.length (List.map encB a)))))))] ([]) (by kernel_rfl) (by kernel_rfl) ?_
      have q13 : (iLt (Int.ofNat i) (Int.ofNat (List.length (List.map encB a)))) = false := f_lt (by (try simp only [Int.ofNat_eq_natCast, List.length_map, List.length_append, List.length_cons, List.length_nil, List.length_take, List.length_drop] at *) <;> omega)
      refine CG.condF (b := (iLt (Int.ofNat i) (Int.ofNat (List.length (List.map encB a))))) q13 (by kernel_rfl) ?_
      refine CG.exitL (by decide) ?_
      refine st hW 5 0 [] (.code .ret) [] [(4, (.d (.bool true)))] ([]) (by kernel_rfl) (by kernel_rfl) ?_
      refine CG.ret (v' := (.d (.bool true))) (by kernel_rfl) ?_
      rotate_left
      rw [← hinv, show b.drop i = [] from List.drop_of_length_le (by omega)]; rfl
    · intro i u x r hd hx hlt hinv
      obtain ⟨y, hy⟩ : ∃ y, b[i]? = some y := ⟨_, List.getElem?_eq_getElem (by omega)⟩
      rw [drop_at hy, List.cons_beq_cons] at hinv
      refine st hW 4 0 [] (.code (.cond (Opd.t 14) .skip (.exit 0))) [.seq (.seq (.block 1 (.seq (.draw f21.r5) (.cond (Opd.t 25) (.seq (.region f21.r6) .ret) .skip))) (.region f21.r7))] [(0, (.d (.list (List.map encB a)))), (1, (.d (.list (List.map encB b)))), (4, (.d (.bool false))), (5, (.d (.int .i64 (.ofNat i)))), (14, (.d (.bool (iLt (Int.ofNat i) (Int.ofNat (List.length (List.map encB a)))))))] ([]) (by kernel_rfl) (by kernel_rfl) ?_
      have q18 : (iLt (Int.ofNat i) (Int.ofNat (List.length (List.map encB a)))) = true := t_lt (by (try simp only [Int.ofNat_eq_natCast, List.length_map, List.length_append, List.length_cons, List.length_nil, List.length_take, List.length_drop] at *) <;> omega)
      refine CG.condT (b := (iLt (Int.ofNat i) (Int.ofNat (List.length (List.map encB a))))) q18 (by kernel_rfl) ?_
      refine st hW 5 0 [] (.code (.draw f21.r5)) [.seq (.cond (Opd.t 25) (.seq (.region f21.r6) .ret) .skip), .block 1, .seq (.region f21.r7)] [(0, (.d (.list (List.map encB a)))), (1, (.d (.list (List.map encB b)))), (4, (.d (.bool false))), (5, (.d (.int .i64 (.ofNat i))))] ([]) (by kernel_rfl) (by kernel_rfl) ?_
      refine CG.drawA orders (by kernel_rfl) (by first | kernel_rfl | (simp only [heapLt, boxLt_row, boxLt_cell, Bool.and_self, Bool.true_and]; done)) ?_
      refine AO.run 2 (tm' := [(0, (.d (.list (List.map encB a)))), (1, (.d (.list (List.map encB b)))), (4, (.d (.bool false))), (5, (.d (.int .i64 (.ofNat i)))), (17, (.d (.list (List.map encB a)))), (18, (.d (.int .i64 (.ofNat i))))]) (by kernel_rfl) ?_
      refine AO.idx (es := a.map encB) (j := i) (e := encB x) (idx_map hx) rfl (by kernel_rfl) (by kernel_rfl) (by kernel_rfl) rfl ?_
      refine AO.run 3 (tm' := [(0, (.d (.list (List.map encB a)))), (1, (.d (.list (List.map encB b)))), (4, (.d (.bool false))), (5, (.d (.int .i64 (.ofNat i)))), (17, (.d (.list (List.map encB a)))), (18, (.d (.int .i64 (.ofNat i)))), (19, (.cptr [(.bool x)])), (20, (.d (.bool x))), (21, (.d (.list (List.map encB b)))), (22, (.d (.int .i64 (.ofNat i))))]) (by kernel_rfl) ?_
      refine AO.idx (es := b.map encB) (j := i) (e := encB y) (idx_map hy) rfl (by kernel_rfl) (by kernel_rfl) (by kernel_rfl) rfl ?_
      refine AO.run 2 (tm' := [(0, (.d (.list (List.map encB a)))), (1, (.d (.list (List.map encB b)))), (4, (.d (.bool false))), (5, (.d (.int .i64 (.ofNat i)))), (17, (.d (.list (List.map encB a)))), (18, (.d (.int .i64 (.ofNat i)))), (19, (.cptr [(.bool x)])), (20, (.d (.bool x))), (21, (.d (.list (List.map encB b)))), (22, (.d (.int .i64 (.ofNat i)))), (23, (.cptr [(.bool y)])), (24, (.d (.bool y))), (25, (.d (.bool (!x == y))))]) (by kernel_rfl) ?_
      refine AO.done (tm2 := [(0, (.d (.list (List.map encB a)))), (1, (.d (.list (List.map encB b)))), (4, (.d (.bool false))), (5, (.d (.int .i64 (.ofNat i)))), (25, (.d (.bool (!x == y))))]) [0, 1, 4, 5, 25] rfl (by kernel_rfl) (by kernel_rfl) ?_
      refine st hW 1 0 [] (.code (.cond (Opd.t 25) (.seq (.region f21.r6) .ret) .skip)) [.block 1, .seq (.region f21.r7)] [(0, (.d (.list (List.map encB a)))), (1, (.d (.list (List.map encB b)))), (4, (.d (.bool false))), (5, (.d (.int .i64 (.ofNat i)))), (25, (.d (.bool (!x == y))))] ([]) (by kernel_rfl) (by kernel_rfl) ?_
      refine (Bool.eq_false_or_eq_true (x == y)).elim (fun q19 => ?_) (fun q19 => ?_)
      refine CG.condF (b := (!x == y)) (by rw [q19]; rfl) (by kernel_rfl) ?_
      refine st hW 3 3 [] (.ops (List.drop 3 f21.r7)) [] [(0, (.d (.list (List.map encB a)))), (1, (.d (.list (List.map encB b)))), (4, (.d (.bool false))), (5, (.d (.int .i64 (wrapF IntKind.i64 (iAdd (Int.ofNat i) 1)))))] ([]) (by kernel_rfl) (by kernel_rfl) ?_
      refine CG.endL rfl ?_
      rw [wrapI (by omega)]
      rotate_left
      refine CG.condT (b := (!x == y)) (by rw [q19]; rfl) (by kernel_rfl) ?_
      refine st hW 3 0 [] (.code .ret) [.block 1, .seq (.region f21.r7)] [(0, (.d (.list (List.map encB a)))), (1, (.d (.list (List.map encB b)))), (4, (.d (.bool false))), (5, (.d (.int .i64 (.ofNat i))))] ([]) (by kernel_rfl) (by kernel_rfl) ?_
      refine CG.retL (v' := (.d (.bool false))) (by kernel_rfl) ?_
      rotate_left
      all_goals first
        | exact ⟨(), by rw [← hinv, show (x == y) = true from by first | assumption | simpa using (by assumption : x = y)]; simp, Tidy.refl _ _⟩
        | (rw [← hinv, show (x == y) = false from by first | assumption | simpa using (by assumption : x ≠ y)]; rfl)
  · have : a ≠ b := by rintro rfl; omega
    simp [this]
theorem pc_negIdx (hW : W0 W) (l : List Int) (hl : l.length < 1099511627776) : PC P (gl W) 139 [.d (.list (l.map encI)), .func 80 [] []] (fiV (l.findIdx? neg)) := by
  refine CG.start is139 ca139 rfl ?_
  refine st hW 8 0 [] (.code (.loop f139.l7)) [.block 0, .seq (.seq (.region f139.r8) .ret)] [(0, (.d (.list (List.map encI l)))), (1, (.func 80 [] [])), (4, (.d (.int .i64 0))), (7, (.d (.int .i64 (.ofNat (List.length (List.map encI l)))))), (8, (.d (.int .i64 0)))] ([]) (by kernel_rfl) (by kernel_rfl) ?_
  rotate_left
  refine CG.loopL l (fun i u => [(0, (.d (.list (List.map encI l)))), (1, (.func 80 [] [])), (4, (.d (.int .i64 0))), (7, (.d (.int .i64 (.ofNat (List.length (List.map encI l)))))), (8, .d (.int .i64 (.ofNat i)))]) (fun i u => []) (fun i u r => (fiV (l.findIdx? neg) = fiV ((r.findIdx? neg).map (· + i)))) () ?_ (Tidy.refl _ _) ?_ ?_
  · cases l.findIdx? neg <;> rfl
  · intro i u hi hd hinv
    refine st hW 4 0 [] (.code (.cond (Opd.t 9) .skip (.exit 0))) [.seq (.seq (.block 1 (.seq (.region f139.r3) (.seq (.region f139.r4) (.cond (Opd.t 16) (.seq (.region f139.r5) .ret) .skip)))) (.region f139.r6))] [(0, (.d (.list (List.map encI l)))), (1, (.func 80 [] [])), (4, (.d (.int .i64 0))), (8, (.d (.int .i64 (.ofNat i)))), (9, (.d (.bool (iLt (Int.ofNat i) (Int.ofNat (List.length (List.map encI l)))))))] ([]) (by kernel_rfl) (by kernel_rfl) ?_
    have q10 : (iLt (Int.ofNat i) (Int.ofNat (List.length (List.map encI l)))) = false := f_lt (by (try simp only [Int.ofNat_eq_natCast, List.length_map, List.length_append, List.length_cons, List.length_nil, List.length_take, List.length_drop] at *) <;> omega)
    refine CG.condF (b := (iLt (Int.ofNat i) (Int.ofNat (List.length (List.map encI l))))) q10 (by kernel_rfl) ?_
    refine CG.exitL (by decide) ?_
    refine st hW 5 0 [] (.code .ret) [] [(4, (.d (.int .i64 (-1))))] ([]) (by kernel_rfl) (by kernel_rfl) ?_
    refine CG.ret (v' := (.d (.int .i64 (-1)))) (by kernel_rfl) ?_
    rotate_left
    rw [hinv]; rfl
  · intro i u x r hd hx hlt hinv
    refine st hW 4 0 [] (.code (.cond (Opd.t 9) .skip (.exit 0))) [.seq (.seq (.block 1 (.seq (.region f139.r3) (.seq (.region f139.r4) (.cond (Opd.t 16) (.seq (.region f139.r5) .ret) .skip)))) (.region f139.r6))] [(0, (.d (.list (List.map encI l)))), (1, (.func 80 [] [])), (4, (.d (.int .i64 0))), (7, (.d (.int .i64 (.ofNat (List.length (List.map encI l)))))), (8, (.d (.int .i64 (.ofNat i)))), (9, (.d (.bool (iLt (Int.ofNat i) (Int.ofNat (List.length (List.map encI l)))))))] ([]) (by kernel_rfl) (by kernel_rfl) ?_
    have q13 : (iLt (Int.ofNat i) (Int.ofNat (List.length (List.map encI l)))) = true := t_lt (by (try simp only [Int.ofNat_eq_natCast, List.length_map, List.length_append, List.length_cons, List.length_nil, List.length_take, List.length_drop] at *) <;> omega)
    refine CG.condT (b := (iLt (Int.ofNat i) (Int.ofNat (List.length (List.map encI l))))) q13 (by kernel_rfl) ?_
    refine st hW 8 3 [] (.ops (List.drop 3 f139.r4)) [.seq (.cond (Opd.t 16) (.seq (.region f139.r5) .ret) .skip), .block 1, .seq (.region f139.r6)] [(0, (.d (.list (List.map encI l)))), (1, (.func 80 [] [])), (4, (.d (.int .i64 0))), (5, (.d (.int .i64 (.ofNat i)))), (7, (.d (.int .i64 (.ofNat (List.length (List.map encI l)))))), (8, (.d (.int .i64 (.ofNat i)))), (11, (.func 80 [] [])), (12, (.d (.list (List.map encI l)))), (13, (.d (.int .i64 (.ofNat i))))] ([]) (by kernel_rfl) (by kernel_rfl) ?_
    refine CG.idx (es := l.map encI) (j := i) (e := encI x) (idx_map hx) rfl (by kernel_rfl) (by kernel_rfl) (by kernel_rfl) rfl ?_
    refine st hW 2 0 [] (.code (.cond (Opd.t 16) (.seq (.region f139.r5) .ret) .skip)) [.block 1, .seq (.region f139.r6)] [(0, (.d (.list (List.map encI l)))), (1, (.func 80 [] [])), (4, (.d (.int .i64 0))), (5, (.d (.int .i64 (.ofNat i)))), (7, (.d (.int .i64 (.ofNat (List.length (List.map encI l)))))), (8, (.d (.int .i64 (.ofNat i)))), (16, (.d (.bool (iLt x 0))))] ([]) (by kernel_rfl) (by kernel_rfl) ?_
    refine (Bool.eq_false_or_eq_true (iLt x 0)).elim (fun q15 => ?_) (fun q15 => ?_)
    have p15 := ltT q15
    rotate_left
    have p15 := ltF q15
    rotate_right
    refine CG.condT (b := (iLt x 0)) q15 (by kernel_rfl) ?_
    refine st hW 3 0 [] (.code .ret) [.block 1, .seq (.region f139.r6)] [(0, (.d (.list (List.map encI l)))), (1, (.func 80 [] [])), (4, (.d (.int .i64 (.ofNat i)))), (7, (.d (.int .i64 (.ofNat (List.length (List.map encI l)))))), (8, (.d (.int .i64 (.ofNat i))))] ([]) (by kernel_rfl) (by kernel_rfl) ?_
    refine CG.retL (v' := (.d (.int .i64 (.ofNat i)))) (by kernel_rfl) ?_
    rotate_left
    refine CG.condF (b := (iLt x 0)) q15 (by kernel_rfl) ?_
    refine st hW 3 2 [] (.ops (List.drop 2 f139.r6)) [] [(0, (.d (.list (List.map encI l)))), (1, (.func 80 [] [])), (4, (.d (.int .i64 0))), (7, (.d (.int .i64 (.ofNat (List.length (List.map encI l)))))), (8, (.d (.int .i64 (wrapF IntKind.i64 (iAdd (Int.ofNat i) 1)))))] ([]) (by kernel_rfl) (by kernel_rfl) ?_
    refine CG.endL rfl ?_
    rw [wrapI (by omega)]
    rotate_left
    · rw [hinv, List.findIdx?_cons, show neg x = true by assumption]; simp [fiV]
    · refine ⟨(), ?_, Tidy.refl _ _⟩
      rw [hinv, List.findIdx?_cons, show neg x = false by assumption]
      cases r.findIdx? neg <;> simp [fiV]
      omega
theorem pc_cloneInts (hW : W0 W) (a : Int) (l : List Int) (hl : (a :: l).length < 1073741824) : PC P (gl W) 84 [.d (.list ((a :: l).map encI))] (.d (.list ((a :: l).map encI))) := by
  refine CG.start is84 ca84 rfl ?_
  refine st hW 11 2 [false] (.ops (List.drop 2 f84.r3)) [.seq .ret] [(2, .nils), (5, (.sl 0 0 0 0 1)), (6, (.d (.list ([(.int .i64 a)] :: (List.map encI l)))))] ([some (.cells [])]) (by kernel_rfl) (by kernel_rfl) ?_
  rotate_left
  show CG _ _ _ _ _ ([(2, .nils), (5, .sl 0 (List.length ([] : List Int) * 1) 0 (List.length ([] : List Int)) 1), (6, (.d (.list ([(.int .i64 a)] :: (List.map encI l)))))]) ([some (cellE encI ([] : List Int))]) _
  refine CG.appC encI [] (a :: l) (b := 0) (H' := [some (cellE encI ([] ++ (a :: l)))]) (fun _ => rfl) rfl rfl (by kernel_rfl) (by kernel_rfl) (by kernel_rfl) (sliceC_map (enc := encI) (fun _ => rfl) _ (a :: l)) (by (try simp only [Int.ofNat_eq_natCast, List.length_map, List.length_append, List.length_cons, List.length_nil, List.length_take, List.length_drop] at *) <;> omega) rfl (by kernel_rfl) ?_
  refine st hW 2 0 [] (.code .ret) [] [(2, (.sl 0 (List.length ([] ++ a :: l) * 1) 0 (List.length ([] ++ a :: l)) 1))] ([some (cellE encI ([] ++ a :: l))]) (by kernel_rfl) (by kernel_rfl) ?_
  rotate_left
  refine CG.tidy (Tidy.frzC encI ([] ++ a :: l) 0 2 (tm' := [(2, (.d (.list (List.map encI ([] ++ a :: l)))))]) (H' := [none]) (fun _ => rfl) (by kernel_rfl) (by kernel_rfl) ⟨.inl rfl, trivial⟩ (by kernel_rfl) (by kernel_rfl)) ?_
  refine CG.ret (v' := (.d (.list ([(.int .i64 a)] :: (List.map encI l))))) (by kernel_rfl) ?_
  rfl
theorem pc_negAny (hW : W0 W) (l : List Int) (hl : l.length < 1099511627776) : PC P (gl W) 81 [.d (.list (l.map encI)), .func 80 [] []] (.d (.bool (l.any neg))) := by
  refine CG.start is81 ca81 rfl ?_
  refine st hW 4 2 [] (.ops (List.drop 2 f81.r1)) [.seq .ret] [(4, (.d (.bool false))), (5, (.d (.list (List.map encI l)))), (6, (.func 80 [] []))] ([]) (by kernel_rfl) (by kernel_rfl) ?_
  refine CG.pc ((pc_negIdx hW l) (by first | assumption | exact (by (try simp only [Int.ofNat_eq_natCast, List.length_map, List.length_append, List.length_cons, List.length_nil, List.length_take, List.length_drop] at *) <;> omega))) rfl (by kernel_rfl) rfl ?_
  rotate_left
  have : l.any neg = (l.findIdx? neg).isSome := by rw [List.findIdx?_isSome]
  rw [this]
  cases l.findIdx? neg with
  | none => refine st hW 2 0 [] (.code .ret) [] [(4, (.d (.bool false)))] ([]) (by kernel_rfl) (by kernel_rfl) ?_
            refine CG.ret (v' := (.d (.bool false))) (by kernel_rfl) ?_
            rfl
  | some i => refine st hW 2 0 [] (.code .ret) [] [(4, (.d (.bool true)))] ([]) (by kernel_rfl) (by kernel_rfl) ?_
              refine CG.ret (v' := (.d (.bool true))) (by kernel_rfl) ?_
              rfl
def hN : Heap := [some (.cells [.func 80 [] []])]
theorem wf_negRow (hW : W0 W) (l : List Int) (hl : l.length < 1099511627776) : WF P (gl W) 83 [.d (.list (l.map encI)), .ptr 0 1 0] hN (Same (.d (.bool (l.any neg))) hN) := by
  refine CG.startW is83 ca83 rfl ?_
  refine st hW 4 2 [] (.ops (List.drop 2 f83.r1)) [.seq .ret] [(3, (.d (.bool false))), (4, (.d (.list (List.map encI l)))), (5, (.func 80 [] []))] ([some (.cells [(.func 80 [] [])])]) (by kernel_rfl) (by kernel_rfl) ?_
  refine CG.pc ((pc_negAny hW l) (by first | assumption | exact (by (try simp only [Int.ofNat_eq_natCast, List.length_map, List.length_append, List.length_cons, List.length_nil, List.length_take, List.length_drop] at *) <;> omega))) rfl (by kernel_rfl) rfl ?_
  refine st hW 2 0 [] (.code .ret) [] [(3, (.d (.bool (List.any l neg))))] ([some (.cells [(.func 80 [] [])])]) (by kernel_rfl) (by kernel_rfl) ?_
  refine CG.retW (v' := (.d (.bool (List.any l neg)))) (by kernel_rfl) ?_
  rotate_left
  exact ⟨rfl, rfl⟩
theorem wf_rowsIdx (hW : W0 W) (l : List (List Int)) (hl : l.length < 1099511627776) (hr : ∀ r ∈ l, r.length < 1099511627776) : WF P (gl W) 140 [.d (.list (l.map encL)), .func 83 [] [.ptr 0 1 0]] hN (Same (fiV (l.findIdx? (fun r => r.any neg))) hN) := by
  refine CG.startW is140 ca140 rfl ?_
  refine st hW 8 0 [] (.code (.loop f140.l7)) [.block 0, .seq (.seq (.region f140.r8) .ret)] [(0, (.d (.list (List.map encL l)))), (1, (.func 83 [] [(.ptr 0 1 0)])), (4, (.d (.int .i64 0))), (7, (.d (.int .i64 (.ofNat (List.length (List.map encL l)))))), (8, (.d (.int .i64 0)))] ([some (.cells [(.func 80 [] [])])]) (by kernel_rfl) (by kernel_rfl) ?_
  rotate_left
  refine CG.loopL l (fun i u => [(0, (.d (.list (List.map encL l)))), (1, (.func 83 [] [(.ptr 0 1 0)])), (4, (.d (.int .i64 0))), (7, (.d (.int .i64 (.ofNat (List.length (List.map encL l)))))), (8, .d (.int .i64 (.ofNat i)))]) (fun i u => [some (.cells [(.func 80 [] [])])]) (fun i u r => (fiV (l.findIdx? (fun r => r.any neg)) = fiV ((r.findIdx? (fun r => r.any neg)).map (· + i)))) () ?_ (Tidy.refl _ _) ?_ ?_
  · cases l.findIdx? (fun r => r.any neg) <;> rfl
  · intro i u hi hd hinv
    refine st hW 4 0 [] (.code (.cond (Opd.t 9) .skip (.exit 0))) [.seq (.seq (.block 1 (.seq (.region f140.r3) (.seq (.region f140.r4) (.cond (Opd.t 16) (.seq (.region f140.r5) .ret) .skip)))) (.region f140.r6))] [(0, (.d (.list (List.map encL l)))), (1, (.func 83 [] [(.ptr 0 1 0)])), (4, (.d (.int .i64 0))), (8, (.d (.int .i64 (.ofNat i)))), (9, (.d (.bool (iLt (Int.ofNat i) (Int.ofNat (List.length (List.map encL l)))))))] ([some (.cells [(.func 80 [] [])])]) (by kernel_rfl) (by kernel_rfl) ?_
    have q11 : (iLt (Int.ofNat i) (Int.ofNat (List.length (List.map encL l)))) = false := f_lt (by (try simp only [Int.ofNat_eq_natCast, List.length_map, List.length_append, List.length_cons, List.length_nil, List.length_take, List.length_drop] at *) <;> omega)
    refine CG.condF (b := (iLt (Int.ofNat i) (Int.ofNat (List.length (List.map encL l))))) q11 (by kernel_rfl) ?_
    refine CG.exitL (by decide) ?_
    refine st hW 5 0 [] (.code .ret) [] [(4, (.d (.int .i64 (-1))))] ([some (.cells [(.func 80 [] [])])]) (by kernel_rfl) (by kernel_rfl) ?_
    refine CG.retW (v' := (.d (.int .i64 (-1)))) (by kernel_rfl) ?_
    rotate_left
    exact ⟨by rw [hinv]; rfl, rfl⟩
  · intro i u x r hd hx hlt hinv
    have hxl : x.length < 1099511627776 := hr x (List.mem_of_getElem? hx)
    refine st hW 4 0 [] (.code (.cond (Opd.t 9) .skip (.exit 0))) [.seq (.seq (.block 1 (.seq (.region f140.r3) (.seq (.region f140.r4) (.cond (Opd.t 16) (.seq (.region f140.r5) .ret) .skip)))) (.region f140.r6))] [(0, (.d (.list (List.map encL l)))), (1, (.func 83 [] [(.ptr 0 1 0)])), (4, (.d (.int .i64 0))), (7, (.d (.int .i64 (.ofNat (List.length (List.map encL l)))))), (8, (.d (.int .i64 (.ofNat i)))), (9, (.d (.bool (iLt (Int.ofNat i) (Int.ofNat (List.length (List.map encL l)))))))] ([some (.cells [(.func 80 [] [])])]) (by kernel_rfl) (by kernel_rfl) ?_
    have q15 : (iLt (Int.ofNat i) (Int.ofNat (List.length (List.map encL l)))) = true := t_lt (by (try simp only [Int.ofNat_eq_natCast, List.length_map, List.length_append, List.length_cons, List.length_nil, List.length_take, List.length_drop] at *) <;> omega)
    refine CG.condT (b := (iLt (Int.ofNat i) (Int.ofNat (List.length (List.map encL l))))) q15 (by kernel_rfl) ?_
    refine st hW 8 3 [] (.ops (List.drop 3 f140.r4)) [.seq (.cond (Opd.t 16) (.seq (.region f140.r5) .ret) .skip), .block 1, .seq (.region f140.r6)] [(0, (.d (.list (List.map encL l)))), (1, (.func 83 [] [(.ptr 0 1 0)])), (4, (.d (.int .i64 0))), (5, (.d (.int .i64 (.ofNat i)))), (7, (.d (.int .i64 (.ofNat (List.length (List.map encL l)))))), (8, (.d (.int .i64 (.ofNat i)))), (11, (.func 83 [] [(.ptr 0 1 0)])), (12, (.d (.list (List.map encL l)))), (13, (.d (.int .i64 (.ofNat i))))] ([some (.cells [(.func 80 [] [])])]) (by kernel_rfl) (by kernel_rfl) ?_
    refine CG.idx (es := l.map encL) (j := i) (e := encL x) (idx_map hx) rfl (by kernel_rfl) (by kernel_rfl) (by kernel_rfl) rfl ?_
    refine st hW 0 1 [] (.ops (List.drop 1 (List.drop 1 (List.drop 3 f140.r4)))) [.seq (.cond (Opd.t 16) (.seq (.region f140.r5) .ret) .skip), .block 1, .seq (.region f140.r6)] [(0, (.d (.list (List.map encL l)))), (1, (.func 83 [] [(.ptr 0 1 0)])), (4, (.d (.int .i64 0))), (5, (.d (.int .i64 (.ofNat i)))), (7, (.d (.int .i64 (.ofNat (List.length (List.map encL l)))))), (8, (.d (.int .i64 (.ofNat i)))), (11, (.func 83 [] [(.ptr 0 1 0)])), (15, (.d (.list (List.map encI x))))] ([some (.cells [(.func 80 [] [])])]) (by kernel_rfl) (by kernel_rfl) ?_
    refine CG.wfv (first := []) (cap := [(.ptr 0 1 0)]) ((wf_negRow hW x) (by first | assumption | exact (by (try simp only [Int.ofNat_eq_natCast, List.length_map, List.length_append, List.length_cons, List.length_nil, List.length_take, List.length_drop] at *) <;> omega))) rfl (by kernel_rfl) (by kernel_rfl) (by kernel_rfl) rfl ?_
    refine st hW 2 0 [] (.code (.cond (Opd.t 16) (.seq (.region f140.r5) .ret) .skip)) [.block 1, .seq (.region f140.r6)] [(0, (.d (.list (List.map encL l)))), (1, (.func 83 [] [(.ptr 0 1 0)])), (4, (.d (.int .i64 0))), (5, (.d (.int .i64 (.ofNat i)))), (7, (.d (.int .i64 (.ofNat (List.length (List.map encL l)))))), (8, (.d (.int .i64 (.ofNat i)))), (16, (.d (.bool (List.any x neg))))] ([some (.cells [(.func 80 [] [])])]) (by kernel_rfl) (by kernel_rfl) ?_
    refine (Bool.eq_false_or_eq_true (List.any x neg)).elim (fun q16 => ?_) (fun q16 => ?_)
    refine CG.condT (b := (List.any x neg)) q16 (by kernel_rfl) ?_
    refine st hW 3 0 [] (.code .ret) [.block 1, .seq (.region f140.r6)] [(0, (.d (.list (List.map encL l)))), (1, (.func 83 [] [(.ptr 0 1 0)])), (4, (.d (.int .i64 (.ofNat i)))), (7, (.d (.int .i64 (.ofNat (List.length (List.map encL l)))))), (8, (.d (.int .i64 (.ofNat i))))] ([some (.cells [(.func 80 [] [])])]) (by kernel_rfl) (by kernel_rfl) ?_
    refine CG.retLW (v' := (.d (.int .i64 (.ofNat i)))) (by kernel_rfl) ?_
    rotate_left
    refine CG.condF (b := (List.any x neg)) q16 (by kernel_rfl) ?_
    refine st hW 3 2 [] (.ops (List.drop 2 f140.r6)) [] [(0, (.d (.list (List.map encL l)))), (1, (.func 83 [] [(.ptr 0 1 0)])), (4, (.d (.int .i64 0))), (7, (.d (.int .i64 (.ofNat (List.length (List.map encL l)))))), (8, (.d (.int .i64 (wrapF IntKind.i64 (iAdd (Int.ofNat i) 1)))))] ([some (.cells [(.func 80 [] [])])]) (by kernel_rfl) (by kernel_rfl) ?_
    refine CG.endL rfl ?_
    rw [wrapI (by omega)]
    rotate_left
    · rw [hinv, List.findIdx?_cons, show x.any neg = true by assumption]; exact ⟨by simp [fiV], rfl⟩
    · refine ⟨(), ?_, Tidy.refl _ _⟩
      rw [hinv, List.findIdx?_cons, show x.any neg = false by assumption]
      cases r.findIdx? (fun r => r.any neg) <;> simp [fiV]
      omega
theorem wf_rowsAny (hW : W0 W) (l : List (List Int)) (hl : l.length < 1099511627776) (hr : ∀ r ∈ l, r.length < 1099511627776) : WF P (gl W) 82 [.d (.list (l.map encL)), .func 83 [] [.ptr 0 1 0]] hN (Same (.d (.bool (l.any (fun r => r.any neg)))) hN) := by
  refine CG.startW is82 ca82 rfl ?_
  refine st hW 4 2 [] (.ops (List.drop 2 f82.r1)) [.seq .ret] [(4, (.d (.bool false))), (5, (.d (.list (List.map encL l)))), (6, (.func 83 [] [(.ptr 0 1 0)]))] ([some (.cells [(.func 80 [] [])])]) (by kernel_rfl) (by kernel_rfl) ?_
  refine CG.wf ((wf_rowsIdx hW l) (by first | assumption | exact (by (try simp only [Int.ofNat_eq_natCast, List.length_map, List.length_append, List.length_cons, List.length_nil, List.length_take, List.length_drop] at *) <;> omega)) (by first | assumption | exact (by (try simp only [Int.ofNat_eq_natCast, List.length_map, List.length_append, List.length_cons, List.length_nil, List.length_take, List.length_drop] at *) <;> omega))) rfl rfl (by kernel_rfl) rfl ?_
  rotate_left
  have : l.any (fun r => r.any neg) = (l.findIdx? (fun r => r.any neg)).isSome := by rw [List.findIdx?_isSome]
  rw [this]
  cases l.findIdx? (fun r => r.any neg) with
  | none =>
    refine st hW 2 0 [] (.code .ret) [] [(4, (.d (.bool false)))] ([some (.cells [(.func 80 [] [])])]) (by kernel_rfl) (by kernel_rfl) ?_
    refine CG.retW (v' := (.d (.bool false))) (by kernel_rfl) ?_
    rotate_left
    exact ⟨rfl, rfl⟩
  | some i =>
    refine st hW 2 0 [] (.code .ret) [] [(4, (.d (.bool true)))] ([some (.cells [(.func 80 [] [])])]) (by kernel_rfl) (by kernel_rfl) ?_
    refine CG.retW (v' := (.d (.bool true))) (by kernel_rfl) ?_
    rotate_left
    exact ⟨rfl, rfl⟩
end Fw.Tz.Dm

/-
  Dims, of the program and of the reference, for any lists.
-/
set_option linter.unusedSimpArgs false
set_option maxRecDepth 1000000
set_option maxHeartbeats 4000000
namespace Fw.Tz.Da
open Go Go.Proofs Fw.X Fw.Tz Fw.Tz.Dm
variable {W : World}
noncomputable def rd (W : World) (ov : List (Nat × Bool)) (sp : List (Nat × V)) (n : Nat) (l : List IOper) (ks : List Nat) (tm : List (Nat × V)) (H : Heap) : Option (List V × Heap × List (Bool × Bool) × CallL) :=
  runDX [92] (gl W) (dcallOf (pcallX kt0 .e (rawX W kt0 .e 40)) (callX W kt0 .e (rawX W kt0 .e 40))) ov sp n l ks tm H
noncomputable def rg (W : World) (n : Nat) (N j : Nat) (bs : List Bool) (cur : Cur) (K : List Fr) (ks : List Nat) (tm : List (Nat × V)) (H : Heap) : Option XR :=
  runG [92] (gl W) (callX W kt0 .e (rawX W kt0 .e 40)) (pcallX kt0 .e (rawX W kt0 .e 40)) n N j bs cur K ks tm H
theorem st (hW : W0 W) (N j : Nat) (bs : List Bool) {cur : Cur} {K : List Fr} {n : Nat} {tm : List (Nat × V)} {H : Heap} {Q : Ex → St → Prop} (c' : Cur) (K' : List Fr) (tm' : List (Nat × V)) (H' : Heap)
    (h1 : ctlJ N j bs cur K = some (c', K')) (h2 : rg W n N j bs cur K (tm'.map Prod.fst) tm H = some (.tuple (tm'.map Prod.snd), H')) (hq : CG P (gl W) c' K' n tm' H' Q) : CG P (gl W) cur K n tm H Q :=
  CG.st orders (callX_ok hW (ex0) _ (rawX_ok hW (ex0) 40)) (pcallX_ok hW (ex0) _ (rawX_ok hW (ex0) 40)) N j bs h1 h2 hq
def go : List (List Int) → List Int → List Int → List Bool → Bool → Option (List Int × List Bool × Bool)
  | l :: ls, k :: ks, fr, fd, eq =>
    if (l.length : Int) < k then none
    else if k < l.length ∧ fr ≠ [] ∧ (l.length : Int) - k ≠ fr.length then none
    else go ls ks (if k < l.length ∧ fr = [] then l.take (l.length - k.toNat) else fr) (fd ++ [decide (k < l.length)])
      (eq && (decide ((l.length : Int) = k) || (if k < l.length ∧ fr = [] then l.take (l.length - k.toNat) else fr) == l.take (l.length - k.toNat)))
  | _, _, fr, fd, eq => some (fr, fd, eq)
theorem go_cons {x : List Int} {k : Int} {m : Nat} (h0 : 0 ≤ k) (hm : (m : Int) = x.length - k) (r : List (List Int)) (ks fr : List Int) (fd : List Bool) (eq : Bool) : go (x :: r) (k :: ks) fr fd eq =
    if 0 < m ∧ 0 < fr.length ∧ m ≠ fr.length then none else
      go r ks (if 0 < m ∧ fr.length = 0 then x.take m else fr) (fd ++ [iLt 0 (.ofNat m)]) (eq && (decide (m = 0) || (if 0 < m ∧ fr.length = 0 then x.take m else fr) == x.take m)) := by
  have e0 : x.length - k.toNat = m := by omega
  have e1 : (k < (x.length : Int)) = (0 < m) := propext ⟨fun h => by omega, fun h => by omega⟩
  have e2 : (fr = []) = (fr.length = 0) := propext List.length_eq_zero_iff.symm
  have e3 : (fr ≠ []) = (0 < fr.length) := propext ⟨fun h => List.length_pos_iff.2 h, fun h => List.length_pos_iff.1 h⟩
  have e4 : ((x.length : Int) - k ≠ fr.length) = (m ≠ fr.length) := propext ⟨fun h => by omega, fun h => by omega⟩
  have e5 : decide ((x.length : Int) = k) = decide (m = 0) := by congr 1; exact propext ⟨fun h => by omega, fun h => by omega⟩
  have e6 : iLt 0 (Int.ofNat m) = decide (0 < m) := by rw [iLt_eq]; congr 1; exact propext ⟨fun h => by simpa using h, fun h => by simpa using h⟩
  rw [go, if_neg (by omega)]
  simp only [e0, e1, e2, e3, e4, e5, e6]
theorem pc_clone (hW : W0 W) (l : List Int) (h0 : 0 < l.length) (hl : l.length < 1073741824) : PC P (gl W) 84 [.d (.list (l.map Dm.encI))] (.d (.list (l.map Dm.encI))) := by
  cases l with
  | nil => simp at h0
  | cons a l => exact pc_cloneInts hW a l hl
def outV (fr : List Int) (fd : List Bool) (e : Int) : V := .tuple [.d (.list (fr.map encI)), .d (.list (fd.map encB)), .d (.int .i64 e)]
def dimsV : Option (List Int × List Bool × Bool) → V
  | none => outV [] [] 13
  | some (fr, fd, eq) => bif eq then outV fr fd 0 else outV [] [] 14
def badD (args : List (List Int)) (ranks : List Int) : Bool := decide (args.length ≠ ranks.length) || decide (16 < args.length) || ranks.any neg || args.any (fun r => r.any neg)
def dimsF (args : List (List Int)) (ranks : List Int) : V := bif badD args ranks then outV [] [] 1 else dimsV (go args ranks [] [] true)
theorem pc_dims (hW : W0 W) (args : List (List Int)) (ranks : List Int) (hl : args.length < 1048576) (_hk : ranks.length < 1048576) (ha : ∀ r ∈ args, r.length < 1048576) (hr : ∀ k ∈ ranks, k ≤ 9223372036854775807) :
    PC P (gl W) 34 [.d (.list (args.map encL)), .d (.list (ranks.map encI))] (dimsF args ranks) := by
  refine CG.start is34 ca34 rfl ?_
  have ha' : ∀ r ∈ args, r.length < 1099511627776 := fun r h => by have := ha r h; omega
  refine st hW 8 6 [] (.ops (List.drop 6 f34.r2)) [.seq (.cond (Opd.t 31) (.seq (.region f34.r3) .ret) .skip), .seq (.seq (.region f34.r4) (.seq (.seq (.region f34.r5) (.block 0 (.loop f34.l16))) (.seq (.seq (.region f34.r17) (.cond (Opd.t 93) (.seq (.region f34.r18) .ret) .skip)) (.seq (.region f34.r19) .ret))))] [(0, (.d (.list (List.map encL args)))), (1, (.d (.list (List.map Dm.encI ranks)))), (4, .nils), (5, .nils), (6, (.d (.int .i64 0))), (7, (.ptr 0 1 0)), (17, (.d (.bool (!iEq (Int.ofNat (List.length (List.map encL args))) (Int.ofNat (List.length (List.map Dm.encI ranks)))))))] ([some (.cells [(.func 80 [] [])])]) (by kernel_rfl) (by kernel_rfl) ?_
  refine (Bool.eq_false_or_eq_true (iEq (Int.ofNat (List.length (List.map encL args))) (Int.ofNat (List.length (List.map Dm.encI ranks))))).elim (fun q11 => ?_) (fun q11 => ?_)
  have p11 := eqT q11
  simp only [Int.ofNat_eq_natCast, List.length_map, List.length_append, List.length_cons, List.length_nil, List.length_take, List.length_drop] at p11
  rotate_left
  have p11 := eqF q11
  simp only [Int.ofNat_eq_natCast, List.length_map, List.length_append, List.length_cons, List.length_nil, List.length_take, List.length_drop] at p11
  rotate_right
  rw [q11]
  refine st hW 0 5 [] (.ops (List.drop 5 (List.drop 6 f34.r2))) [.seq (.cond (Opd.t 31) (.seq (.region f34.r3) .ret) .skip), .seq (.seq (.region f34.r4) (.seq (.seq (.region f34.r5) (.block 0 (.loop f34.l16))) (.seq (.seq (.region f34.r17) (.cond (Opd.t 93) (.seq (.region f34.r18) .ret) .skip)) (.seq (.region f34.r19) .ret))))] [(0, (.d (.list (List.map encL args)))), (1, (.d (.list (List.map Dm.encI ranks)))), (4, .nils), (5, .nils), (6, (.d (.int .i64 0))), (7, (.ptr 0 1 0)), (22, (.d (.bool (iLt 16 (Int.ofNat (List.length (List.map encL args)))))))] ([some (.cells [(.func 80 [] [])])]) (by kernel_rfl) (by kernel_rfl) ?_
  refine (Bool.eq_false_or_eq_true (iLt 16 (Int.ofNat (List.length (List.map encL args))))).elim (fun q13 => ?_) (fun q13 => ?_)
  have p13 := ltT q13
  simp only [Int.ofNat_eq_natCast, List.length_map, List.length_append, List.length_cons, List.length_nil, List.length_take, List.length_drop] at p13
  rotate_left
  have p13 := ltF q13
  simp only [Int.ofNat_eq_natCast, List.length_map, List.length_append, List.length_cons, List.length_nil, List.length_take, List.length_drop] at p13
  rotate_right
  rw [q13]
  refine st hW 6 0 [true] (.code .ret) [.seq (.seq (.region f34.r4) (.seq (.seq (.region f34.r5) (.block 0 (.loop f34.l16))) (.seq (.seq (.region f34.r17) (.cond (Opd.t 93) (.seq (.region f34.r18) .ret) .skip)) (.seq (.region f34.r19) .ret))))] [(0, (.d (.list (List.map encL args)))), (1, (.d (.list (List.map Dm.encI ranks)))), (4, .nils), (5, .nils), (6, (.d (.int .i64 1)))] ([some (.cells [(.func 80 [] [])])]) (by kernel_rfl) (by kernel_rfl) ?_
  refine CG.ret (v' := (.tuple [(.d (.list [])), (.d (.list [])), (.d (.int .i64 1))])) (by kernel_rfl) ?_
  rotate_left
  rw [q13]
  refine st hW 0 2 [] (.ops (List.drop 2 (List.drop 5 (List.drop 6 f34.r2)))) [.seq (.cond (Opd.t 31) (.seq (.region f34.r3) .ret) .skip), .seq (.seq (.region f34.r4) (.seq (.seq (.region f34.r5) (.block 0 (.loop f34.l16))) (.seq (.seq (.region f34.r17) (.cond (Opd.t 93) (.seq (.region f34.r18) .ret) .skip)) (.seq (.region f34.r19) .ret))))] [(0, (.d (.list (List.map encL args)))), (1, (.d (.list (List.map Dm.encI ranks)))), (4, .nils), (5, .nils), (6, (.d (.int .i64 0))), (7, (.ptr 0 1 0)), (22, (.d (.bool false))), (23, (.d (.list (List.map Dm.encI ranks)))), (24, (.func 80 [] []))] ([some (.cells [(.func 80 [] [])])]) (by kernel_rfl) (by kernel_rfl) ?_
  refine CG.pcG ((pc_negAny hW ranks) (by first | assumption | exact (by (try simp only [Int.ofNat_eq_natCast, List.length_map, List.length_append, List.length_cons, List.length_nil, List.length_take, List.length_drop] at *) <;> omega))) rfl (by kernel_rfl) (by kernel_rfl) rfl ?_
  refine st hW 0 2 [] (.ops (List.drop 2 (List.drop 1 (List.drop 2 (List.drop 5 (List.drop 6 f34.r2)))))) [.seq (.cond (Opd.t 31) (.seq (.region f34.r3) .ret) .skip), .seq (.seq (.region f34.r4) (.seq (.seq (.region f34.r5) (.block 0 (.loop f34.l16))) (.seq (.seq (.region f34.r17) (.cond (Opd.t 93) (.seq (.region f34.r18) .ret) .skip)) (.seq (.region f34.r19) .ret))))] [(0, (.d (.list (List.map encL args)))), (1, (.d (.list (List.map Dm.encI ranks)))), (4, .nils), (5, .nils), (6, (.d (.int .i64 0))), (7, (.ptr 0 1 0)), (27, (.d (.bool (List.any ranks neg))))] ([some (.cells [(.func 80 [] [])])]) (by kernel_rfl) (by kernel_rfl) ?_
  refine (Bool.eq_false_or_eq_true (List.any ranks neg)).elim (fun q14 => ?_) (fun q14 => ?_)
  rw [q14]
  refine st hW 6 0 [true] (.code .ret) [.seq (.seq (.region f34.r4) (.seq (.seq (.region f34.r5) (.block 0 (.loop f34.l16))) (.seq (.seq (.region f34.r17) (.cond (Opd.t 93) (.seq (.region f34.r18) .ret) .skip)) (.seq (.region f34.r19) .ret))))] [(0, (.d (.list (List.map encL args)))), (1, (.d (.list (List.map Dm.encI ranks)))), (4, .nils), (5, .nils), (6, (.d (.int .i64 1)))] ([some (.cells [(.func 80 [] [])])]) (by kernel_rfl) (by kernel_rfl) ?_
  refine CG.ret (v' := (.tuple [(.d (.list [])), (.d (.list [])), (.d (.int .i64 1))])) (by kernel_rfl) ?_
  rotate_left
  rw [q14]
  refine st hW 0 2 [] (.ops (List.drop 2 (List.drop 2 (List.drop 1 (List.drop 2 (List.drop 5 (List.drop 6 f34.r2))))))) [.seq (.cond (Opd.t 31) (.seq (.region f34.r3) .ret) .skip), .seq (.seq (.region f34.r4) (.seq (.seq (.region f34.r5) (.block 0 (.loop f34.l16))) (.seq (.seq (.region f34.r17) (.cond (Opd.t 93) (.seq (.region f34.r18) .ret) .skip)) (.seq (.region f34.r19) .ret))))] [(0, (.d (.list (List.map encL args)))), (1, (.d (.list (List.map Dm.encI ranks)))), (4, .nils), (5, .nils), (6, (.d (.int .i64 0))), (27, (.d (.bool false))), (28, (.d (.list (List.map encL args)))), (29, (.func 83 [] [(.ptr 0 1 0)]))] ([some (.cells [(.func 80 [] [])])]) (by kernel_rfl) (by kernel_rfl) ?_
  refine CG.wf ((wf_rowsAny hW args) (by first | assumption | exact (by (try simp only [Int.ofNat_eq_natCast, List.length_map, List.length_append, List.length_cons, List.length_nil, List.length_take, List.length_drop] at *) <;> omega)) (by first | assumption | exact (by (try simp only [Int.ofNat_eq_natCast, List.length_map, List.length_append, List.length_cons, List.length_nil, List.length_take, List.length_drop] at *) <;> omega))) rfl (by kernel_rfl) (by kernel_rfl) rfl ?_
  refine st hW 2 0 [] (.code (.cond (Opd.t 31) (.seq (.region f34.r3) .ret) .skip)) [.seq (.seq (.region f34.r4) (.seq (.seq (.region f34.r5) (.block 0 (.loop f34.l16))) (.seq (.seq (.region f34.r17) (.cond (Opd.t 93) (.seq (.region f34.r18) .ret) .skip)) (.seq (.region f34.r19) .ret))))] [(0, (.d (.list (List.map encL args)))), (1, (.d (.list (List.map Dm.encI ranks)))), (4, .nils), (5, .nils), (6, (.d (.int .i64 0))), (31, (.d (.bool (List.any args fun r => List.any r neg))))] ([some (.cells [(.func 80 [] [])])]) (by kernel_rfl) (by kernel_rfl) ?_
  refine (Bool.eq_false_or_eq_true (List.any args fun r => List.any r neg)).elim (fun q15 => ?_) (fun q15 => ?_)
  refine CG.condT (b := (List.any args fun r => List.any r neg)) q15 (by kernel_rfl) ?_
  refine st hW 3 0 [] (.code .ret) [.seq (.seq (.region f34.r4) (.seq (.seq (.region f34.r5) (.block 0 (.loop f34.l16))) (.seq (.seq (.region f34.r17) (.cond (Opd.t 93) (.seq (.region f34.r18) .ret) .skip)) (.seq (.region f34.r19) .ret))))] [(0, (.d (.list (List.map encL args)))), (1, (.d (.list (List.map Dm.encI ranks)))), (4, .nils), (5, .nils), (6, (.d (.int .i64 1)))] ([some (.cells [(.func 80 [] [])])]) (by kernel_rfl) (by kernel_rfl) ?_
  refine CG.ret (v' := (.tuple [(.d (.list [])), (.d (.list [])), (.d (.int .i64 1))])) (by kernel_rfl) ?_
  rotate_left
  refine CG.condF (b := (List.any args fun r => List.any r neg)) q15 (by kernel_rfl) ?_
  refine st hW 10 0 [] (.code (.loop f34.l16)) [.block 0, .seq (.seq (.seq (.region f34.r17) (.cond (Opd.t 93) (.seq (.region f34.r18) .ret) .skip)) (.seq (.region f34.r19) .ret))] [(1, (.d (.list (List.map Dm.encI ranks)))), (4, .nils), (5, .nils), (6, (.d (.int .i64 0))), (8, (.d (.bool true))), (32, (.d (.list (List.map encL args)))), (33, (.d (.int .i64 (.ofNat (List.length (List.map encL args)))))), (34, (.d (.int .i64 0)))] ([some (.cells [(.func 80 [] [])])]) (by kernel_rfl) (by kernel_rfl) ?_
  rotate_left
  rw [q11]
  refine st hW 6 0 [true] (.code .ret) [.seq (.seq (.region f34.r4) (.seq (.seq (.region f34.r5) (.block 0 (.loop f34.l16))) (.seq (.seq (.region f34.r17) (.cond (Opd.t 93) (.seq (.region f34.r18) .ret) .skip)) (.seq (.region f34.r19) .ret))))] [(0, (.d (.list (List.map encL args)))), (1, (.d (.list (List.map Dm.encI ranks)))), (4, .nils), (5, .nils), (6, (.d (.int .i64 1)))] ([some (.cells [(.func 80 [] [])])]) (by kernel_rfl) (by kernel_rfl) ?_
  refine CG.ret (v' := (.tuple [(.d (.list [])), (.d (.list [])), (.d (.int .i64 1))])) (by kernel_rfl) ?_
  rotate_left
  · have : badD args ranks = true := by
      simp only [badD, Bool.or_eq_true, decide_eq_true_eq]
      exact .inl (.inl (.inr (by omega)))
    rw [dimsF, this]; rfl
  · have : badD args ranks = true := by
      simp only [badD, Bool.or_eq_true, decide_eq_true_eq]
      exact .inl (.inr (by assumption))
    rw [dimsF, this]; rfl
  · have : badD args ranks = true := by
      simp only [badD, Bool.or_eq_true, decide_eq_true_eq]
      exact .inr (by assumption)
    rw [dimsF, this]; rfl
  · have hb : badD args ranks = false := by
      simp only [badD, Bool.or_eq_false_iff, decide_eq_false_iff_not]
      exact ⟨⟨⟨by omega, by omega⟩, by assumption⟩, by assumption⟩
    refine CG.tidy (Tidy.nilD 4 (tm' := [(1, (.d (.list (List.map Dm.encI ranks)))), (4, .d (.list [])), (5, .nils), (6, (.d (.int .i64 0))), (8, (.d (.bool true))), (32, (.d (.list (List.map encL args)))), (33, (.d (.int .i64 (.ofNat (List.length (List.map encL args)))))), (34, (.d (.int .i64 0)))]) (by kernel_rfl) (by kernel_rfl)) ?_
    refine CG.tidy (Tidy.nilS 5 1 (tm' := [(1, (.d (.list (List.map Dm.encI ranks)))), (4, (.d (.list []))), (5, .sl 1 0 0 0 1), (6, (.d (.int .i64 0))), (8, (.d (.bool true))), (32, (.d (.list (List.map encL args)))), (33, (.d (.int .i64 (.ofNat (List.length (List.map encL args)))))), (34, (.d (.int .i64 0)))]) (Nat.le_refl _) (by kernel_rfl) (by kernel_rfl)) ?_
    show CG _ _ _ _ _ _ ([some (.cells [(.func 80 [] [])]), some .nil]) _
    show CG _ _ _ _ _ ([(1, (.d (.list (List.map Dm.encI ranks)))), (4, (.d (.list []))), (5, .sl 1 (List.length ([] : List Bool) * 1) 0 (List.length ([] : List Bool)) 1), (6, (.d (.int .i64 0))), (8, (.d (.bool true))), (32, (.d (.list (List.map encL args)))), (33, (.d (.int .i64 (.ofNat (List.length (List.map encL args)))))), (34, (.d (.int .i64 0)))]) ([some (.cells [(.func 80 [] [])]), some (rowE encB ([] : List Bool))]) _
    refine CG.loopL args (fun i a => [(1, (.d (.list (List.map Dm.encI ranks)))), (4, .d (.list (a.1.map encI))), (5, .sl 1 (a.2.1.length * 1) 0 a.2.1.length 1), (6, (.d (.int .i64 0))), (8, .d (.bool a.2.2)), (32, (.d (.list (List.map encL args)))), (33, (.d (.int .i64 (.ofNat (List.length (List.map encL args)))))), (34, .d (.int .i64 (.ofNat i)))]) (fun i a => [some (.cells [(.func 80 [] [])]), some (rowE encB a.2.1)]) (fun i a r => (dimsV (go args ranks [] [] true) = dimsV (go r (ranks.drop i) a.1 a.2.1 a.2.2) ∧ a.2.1.length = i)) (([], [], true) : List Int × List Bool × Bool) ?_ (Tidy.refl _ _) ?_ ?_
    · exact ⟨rfl, rfl⟩
    · rintro i ⟨fr, fd, eq⟩ hi hd ⟨hinv, hfd⟩
      dsimp only at hinv hfd ⊢
      have hR : dimsF args ranks = dimsV (some (fr, fd, eq)) := by
        rw [dimsF, hb, cond_false, hinv]; simp [go]
      rw [hR]
      cases eq with
      | true =>
        refine st hW 4 0 [] (.code (.cond (Opd.t 35) .skip (.exit 0))) [.seq (.seq (.block 1 (.seq (.region f34.r7) (.seq (.region f34.r8) (.seq (.seq (.region f34.r9) (.cond (Opd.t 62) (.seq (.region f34.r10) .ret) .skip)) (.seq (.seq (.region f34.r11) (.cond (Opd.t 69) (.region f34.r12) .skip)) (.seq (.region f34.r13) (.region f34.r14))))))) (.region f34.r15))] [(1, (.d (.list (List.map Dm.encI ranks)))), (4, (.d (.list (List.map Dm.encI fr)))), (5, (.sl 1 (List.length fd * 1) 0 (List.length fd) 1)), (6, (.d (.int .i64 0))), (8, (.d (.bool true))), (32, (.d (.list (List.map encL args)))), (34, (.d (.int .i64 (.ofNat i)))), (35, (.d (.bool (iLt (Int.ofNat i) (Int.ofNat (List.length (List.map encL args)))))))] ([some (.cells [(.func 80 [] [])]), some (rowE encB fd)]) (by kernel_rfl) (by kernel_rfl) ?_
        have q25 : (iLt (Int.ofNat i) (Int.ofNat (List.length (List.map encL args)))) = false := f_lt (by (try simp only [Int.ofNat_eq_natCast, List.length_map, List.length_append, List.length_cons, List.length_nil, List.length_take, List.length_drop] at *) <;> omega)
        refine CG.condF (b := (iLt (Int.ofNat i) (Int.ofNat (List.length (List.map encL args))))) q25 (by kernel_rfl) ?_
        refine CG.exitL (by decide) ?_
        refine st hW 12 0 [false] (.code .ret) [] [(4, (.d (.list (List.map Dm.encI fr)))), (5, (.sl 1 (List.length fd * 1) 0 (List.length fd) 1)), (6, (.d (.int .i64 0)))] ([some (.cells [(.func 80 [] [])]), some (rowE encB fd)]) (by kernel_rfl) (by kernel_rfl) ?_
        rotate_left
        refine CG.tidy (Tidy.frzE encB fd 1 5 (tm' := [(4, (.d (.list (List.map Dm.encI fr)))), (5, (.d (.list (List.map encB fd)))), (6, (.d (.int .i64 0)))]) (H' := [some (.cells [(.func 80 [] [])]), none]) (fun _ => rfl) (by kernel_rfl) (by kernel_rfl) ⟨.inr rfl, ⟨.inl rfl, trivial⟩⟩ (by kernel_rfl) (by kernel_rfl)) ?_
        refine CG.ret (v' := (.tuple [(.d (.list (List.map Dm.encI fr))), (.d (.list (List.map encB fd))), (.d (.int .i64 0))])) (by kernel_rfl) ?_
        rfl
      | false => refine st hW 4 0 [] (.code (.cond (Opd.t 35) .skip (.exit 0))) [.seq (.seq (.block 1 (.seq (.region f34.r7) (.seq (.region f34.r8) (.seq (.seq (.region f34.r9) (.cond (Opd.t 62) (.seq (.region f34.r10) .ret) .skip)) (.seq (.seq (.region f34.r11) (.cond (Opd.t 69) (.region f34.r12) .skip)) (.seq (.region f34.r13) (.region f34.r14))))))) (.region f34.r15))] [(1, (.d (.list (List.map Dm.encI ranks)))), (4, (.d (.list (List.map Dm.encI fr)))), (5, (.sl 1 (List.length fd * 1) 0 (List.length fd) 1)), (6, (.d (.int .i64 0))), (8, (.d (.bool false))), (32, (.d (.list (List.map encL args)))), (34, (.d (.int .i64 (.ofNat i)))), (35, (.d (.bool (iLt (Int.ofNat i) (Int.ofNat (List.length (List.map encL args)))))))] ([some (.cells [(.func 80 [] [])]), some (rowE encB fd)]) (by kernel_rfl) (by kernel_rfl) ?_
                 have q25 : (iLt (Int.ofNat i) (Int.ofNat (List.length (List.map encL args)))) = false := f_lt (by (try simp only [Int.ofNat_eq_natCast, List.length_map, List.length_append, List.length_cons, List.length_nil, List.length_take, List.length_drop] at *) <;> omega)
                 refine CG.condF (b := (iLt (Int.ofNat i) (Int.ofNat (List.length (List.map encL args))))) q25 (by kernel_rfl) ?_
                 refine CG.exitL (by decide) ?_
                 refine st hW 10 0 [true] (.code .ret) [.seq (.seq (.region f34.r19) .ret)] [(4, .nils), (5, .nils), (6, (.d (.int .i64 14)))] ([some (.cells [(.func 80 [] [])]), some (rowE encB fd)]) (by kernel_rfl) (by kernel_rfl) ?_
                 refine CG.ret (v' := (.tuple [(.d (.list [])), (.d (.list [])), (.d (.int .i64 14))])) (by kernel_rfl) ?_
                 rfl
    · rintro i ⟨fr, fd, eq⟩ x r hd hx hlt ⟨hinv, hfd⟩
      dsimp only at hinv hfd ⊢
      obtain ⟨k, hk1⟩ : ∃ k, ranks[i]? = some k := ⟨_, List.getElem?_eq_getElem (by omega)⟩
      have hxl := ha x (List.mem_of_getElem? hx)
      have hk2 := hr k (List.mem_of_getElem? hk1)
      have hk0 : 0 ≤ k := by
        have h : ranks.any neg = false := by assumption
        rw [List.any_eq_false] at h
        exact ltF (by simpa [neg] using h k (List.mem_of_getElem? hk1))
      rw [drop_at hk1] at hinv
      refine st hW 4 0 [] (.code (.cond (Opd.t 35) .skip (.exit 0))) [.seq (.seq (.block 1 (.seq (.region f34.r7) (.seq (.region f34.r8) (.seq (.seq (.region f34.r9) (.cond (Opd.t 62) (.seq (.region f34.r10) .ret) .skip)) (.seq (.seq (.region f34.r11) (.cond (Opd.t 69) (.region f34.r12) .skip)) (.seq (.region f34.r13) (.region f34.r14))))))) (.region f34.r15))] [(1, (.d (.list (List.map Dm.encI ranks)))), (4, (.d (.list (List.map Dm.encI fr)))), (5, (.sl 1 (List.length fd * 1) 0 (List.length fd) 1)), (6, (.d (.int .i64 0))), (8, (.d (.bool eq))), (32, (.d (.list (List.map encL args)))), (33, (.d (.int .i64 (.ofNat (List.length (List.map encL args)))))), (34, (.d (.int .i64 (.ofNat i)))), (35, (.d (.bool (iLt (Int.ofNat i) (Int.ofNat (List.length (List.map encL args)))))))] ([some (.cells [(.func 80 [] [])]), some (rowE encB fd)]) (by kernel_rfl) (by kernel_rfl) ?_
      have q33 : (iLt (Int.ofNat i) (Int.ofNat (List.length (List.map encL args)))) = true := t_lt (by (try simp only [Int.ofNat_eq_natCast, List.length_map, List.length_append, List.length_cons, List.length_nil, List.length_take, List.length_drop] at *) <;> omega)
      refine CG.condT (b := (iLt (Int.ofNat i) (Int.ofNat (List.length (List.map encL args))))) q33 (by kernel_rfl) ?_
      refine st hW 5 1 [] (.ops (List.drop 1 f34.r7)) [.seq (.seq (.region f34.r8) (.seq (.seq (.region f34.r9) (.cond (Opd.t 62) (.seq (.region f34.r10) .ret) .skip)) (.seq (.seq (.region f34.r11) (.cond (Opd.t 69) (.region f34.r12) .skip)) (.seq (.region f34.r13) (.region f34.r14))))), .block 1, .seq (.region f34.r15)] [(1, (.d (.list (List.map Dm.encI ranks)))), (4, (.d (.list (List.map Dm.encI fr)))), (5, (.sl 1 (List.length fd * 1) 0 (List.length fd) 1)), (6, (.d (.int .i64 0))), (8, (.d (.bool eq))), (32, (.d (.list (List.map encL args)))), (33, (.d (.int .i64 (.ofNat (List.length (List.map encL args)))))), (34, (.d (.int .i64 (.ofNat i)))), (36, (.d (.int .i64 (.ofNat i))))] ([some (.cells [(.func 80 [] [])]), some (rowE encB fd)]) (by kernel_rfl) (by kernel_rfl) ?_
      refine CG.idx (es := args.map encL) (j := i) (e := encL x) (idx_map hx) rfl (by kernel_rfl) (by kernel_rfl) (by kernel_rfl) rfl ?_
      refine st hW 3 4 [] (.ops (List.drop 4 f34.r8)) [.seq (.seq (.seq (.region f34.r9) (.cond (Opd.t 62) (.seq (.region f34.r10) .ret) .skip)) (.seq (.seq (.region f34.r11) (.cond (Opd.t 69) (.region f34.r12) .skip)) (.seq (.region f34.r13) (.region f34.r14)))), .block 1, .seq (.region f34.r15)] [(1, (.d (.list (List.map Dm.encI ranks)))), (4, (.d (.list (List.map Dm.encI fr)))), (5, (.sl 1 (List.length fd * 1) 0 (List.length fd) 1)), (6, (.d (.int .i64 0))), (8, (.d (.bool eq))), (10, (.d (.list (List.map Dm.encI x)))), (32, (.d (.list (List.map encL args)))), (33, (.d (.int .i64 (.ofNat (List.length (List.map encL args)))))), (34, (.d (.int .i64 (.ofNat i)))), (40, (.d (.int .i64 (.ofNat (List.length (List.map Dm.encI x)))))), (41, (.d (.list (List.map Dm.encI ranks)))), (42, (.d (.int .i64 (.ofNat i))))] ([some (.cells [(.func 80 [] [])]), some (rowE encB fd)]) (by kernel_rfl) (by kernel_rfl) ?_
      refine CG.idx (es := ranks.map Dm.encI) (j := i) (e := Dm.encI k) (idx_map hk1) rfl (by kernel_rfl) (by kernel_rfl) (by kernel_rfl) rfl ?_
      refine st hW 4 3 [] (.ops (List.drop 3 f34.r9)) [.seq (.cond (Opd.t 62) (.seq (.region f34.r10) .ret) .skip), .seq (.seq (.seq (.region f34.r11) (.cond (Opd.t 69) (.region f34.r12) .skip)) (.seq (.region f34.r13) (.region f34.r14))), .block 1, .seq (.region f34.r15)] [(1, (.d (.list (List.map Dm.encI ranks)))), (4, (.d (.list (List.map Dm.encI fr)))), (5, (.sl 1 (List.length fd * 1) 0 (List.length fd) 1)), (6, (.d (.int .i64 0))), (8, (.d (.bool eq))), (10, (.d (.list (List.map Dm.encI x)))), (11, (.d (.int .i64 (wrapF IntKind.i64 (Int.ofNat (List.length (List.map Dm.encI x)) - k))))), (32, (.d (.list (List.map encL args)))), (33, (.d (.int .i64 (.ofNat (List.length (List.map encL args)))))), (34, (.d (.int .i64 (.ofNat i)))), (48, (.d (.bool (iLt (wrapF IntKind.i64 (Int.ofNat (List.length (List.map Dm.encI x)) - k)) 0))))] ([some (.cells [(.func 80 [] [])]), some (rowE encB fd)]) (by kernel_rfl) (by kernel_rfl) ?_
      rw [wrapS (by simp only [Int.ofNat_eq_natCast, List.length_map]; omega)]
      by_cases hn : (x.length : Int) < k
      · have q35 : (iLt (Int.ofNat (List.length (List.map Dm.encI x)) - k) 0) = true := t_lt (by (try simp only [Int.ofNat_eq_natCast, List.length_map, List.length_append, List.length_cons, List.length_nil, List.length_take, List.length_drop] at *) <;> omega)
        rw [q35]
        refine st hW 6 0 [true] (.code .ret) [.seq (.seq (.seq (.region f34.r11) (.cond (Opd.t 69) (.region f34.r12) .skip)) (.seq (.region f34.r13) (.region f34.r14))), .block 1, .seq (.region f34.r15)] [(1, (.d (.list (List.map Dm.encI ranks)))), (4, .nils), (5, .nils), (6, (.d (.int .i64 13))), (8, (.d (.bool eq))), (10, (.d (.list (List.map Dm.encI x)))), (11, (.d (.int .i64 (Int.ofNat (List.length (List.map Dm.encI x)) - k)))), (32, (.d (.list (List.map encL args)))), (33, (.d (.int .i64 (.ofNat (List.length (List.map encL args)))))), (34, (.d (.int .i64 (.ofNat i))))] ([some (.cells [(.func 80 [] [])]), some (rowE encB fd)]) (by kernel_rfl) (by kernel_rfl) ?_
        refine CG.retL (v' := (.tuple [(.d (.list [])), (.d (.list [])), (.d (.int .i64 13))])) (by kernel_rfl) ?_
        rotate_left
        rw [dimsF, hb, cond_false, hinv, go, if_pos hn]; rfl
      · obtain ⟨m, hm⟩ : ∃ m : Nat, Int.ofNat (List.length (List.map Dm.encI x)) - k = Int.ofNat m := ⟨x.length - k.toNat, by simp only [Int.ofNat_eq_natCast, List.length_map]; omega⟩
        have hm2 : (m : Int) = x.length - k := by simp only [Int.ofNat_eq_natCast, List.length_map] at hm; omega
        rw [hm]
        rw [go_cons hk0 hm2] at hinv
        refine st hW 0 3 [] (.ops (List.drop 3 (List.drop 3 f34.r9))) [.seq (.cond (Opd.t 62) (.seq (.region f34.r10) .ret) .skip), .seq (.seq (.seq (.region f34.r11) (.cond (Opd.t 69) (.region f34.r12) .skip)) (.seq (.region f34.r13) (.region f34.r14))), .block 1, .seq (.region f34.r15)] [(1, (.d (.list (List.map Dm.encI ranks)))), (4, (.d (.list (List.map Dm.encI fr)))), (5, (.sl 1 (List.length fd * 1) 0 (List.length fd) 1)), (6, (.d (.int .i64 0))), (8, (.d (.bool eq))), (10, (.d (.list (List.map Dm.encI x)))), (11, (.d (.int .i64 (.ofNat m)))), (32, (.d (.list (List.map encL args)))), (33, (.d (.int .i64 (.ofNat (List.length (List.map encL args)))))), (34, (.d (.int .i64 (.ofNat i)))), (48, (.d (.bool false))), (51, (.d (.bool (iLt 0 (Int.ofNat m)))))] ([some (.cells [(.func 80 [] [])]), some (rowE encB fd)]) (by kernel_rfl) (by kernel_rfl) ?_
        refine (Bool.eq_false_or_eq_true (iLt 0 (Int.ofNat m))).elim (fun q39 => ?_) (fun q39 => ?_)
        have p39 := ltT q39
        simp only [Int.ofNat_eq_natCast, List.length_map, List.length_append, List.length_cons, List.length_nil, List.length_take, List.length_drop] at p39
        rotate_left
        have p39 := ltF q39
        simp only [Int.ofNat_eq_natCast, List.length_map, List.length_append, List.length_cons, List.length_nil, List.length_take, List.length_drop] at p39
        rotate_right
        rw [q39]
        refine st hW 0 5 [] (.ops (List.drop 5 (List.drop 3 (List.drop 3 f34.r9)))) [.seq (.cond (Opd.t 62) (.seq (.region f34.r10) .ret) .skip), .seq (.seq (.seq (.region f34.r11) (.cond (Opd.t 69) (.region f34.r12) .skip)) (.seq (.region f34.r13) (.region f34.r14))), .block 1, .seq (.region f34.r15)] [(1, (.d (.list (List.map Dm.encI ranks)))), (4, (.d (.list (List.map Dm.encI fr)))), (5, (.sl 1 (List.length fd * 1) 0 (List.length fd) 1)), (6, (.d (.int .i64 0))), (8, (.d (.bool eq))), (10, (.d (.list (List.map Dm.encI x)))), (11, (.d (.int .i64 (.ofNat m)))), (32, (.d (.list (List.map encL args)))), (33, (.d (.int .i64 (.ofNat (List.length (List.map encL args)))))), (34, (.d (.int .i64 (.ofNat i)))), (48, (.d (.bool false))), (56, (.d (.bool (iLt 0 (Int.ofNat (List.length (List.map Dm.encI fr)))))))] ([some (.cells [(.func 80 [] [])]), some (rowE encB fd)]) (by kernel_rfl) (by kernel_rfl) ?_
        refine (Bool.eq_false_or_eq_true (iLt 0 (Int.ofNat (List.length (List.map Dm.encI fr))))).elim (fun q41 => ?_) (fun q41 => ?_)
        have p41 := ltT q41
        simp only [Int.ofNat_eq_natCast, List.length_map, List.length_append, List.length_cons, List.length_nil, List.length_take, List.length_drop] at p41
        rotate_left
        have p41 := ltF q41
        simp only [Int.ofNat_eq_natCast, List.length_map, List.length_append, List.length_cons, List.length_nil, List.length_take, List.length_drop] at p41
        rotate_right
        rw [q41]
        refine st hW 2 0 [] (.code (.cond (Opd.t 62) (.seq (.region f34.r10) .ret) .skip)) [.seq (.seq (.seq (.region f34.r11) (.cond (Opd.t 69) (.region f34.r12) .skip)) (.seq (.region f34.r13) (.region f34.r14))), .block 1, .seq (.region f34.r15)] [(1, (.d (.list (List.map Dm.encI ranks)))), (4, (.d (.list (List.map Dm.encI fr)))), (5, (.sl 1 (List.length fd * 1) 0 (List.length fd) 1)), (6, (.d (.int .i64 0))), (8, (.d (.bool eq))), (10, (.d (.list (List.map Dm.encI x)))), (11, (.d (.int .i64 (.ofNat m)))), (32, (.d (.list (List.map encL args)))), (33, (.d (.int .i64 (.ofNat (List.length (List.map encL args)))))), (34, (.d (.int .i64 (.ofNat i)))), (62, (.d (.bool (!iEq (Int.ofNat m) (Int.ofNat (List.length (List.map Dm.encI fr)))))))] ([some (.cells [(.func 80 [] [])]), some (rowE encB fd)]) (by kernel_rfl) (by kernel_rfl) ?_
        refine (Bool.eq_false_or_eq_true (iEq (Int.ofNat m) (Int.ofNat (List.length (List.map Dm.encI fr))))).elim (fun q43 => ?_) (fun q43 => ?_)
        have p43 := eqT q43
        simp only [Int.ofNat_eq_natCast, List.length_map, List.length_append, List.length_cons, List.length_nil, List.length_take, List.length_drop] at p43
        rotate_left
        have p43 := eqF q43
        simp only [Int.ofNat_eq_natCast, List.length_map, List.length_append, List.length_cons, List.length_nil, List.length_take, List.length_drop] at p43
        rotate_right
        refine CG.condF (b := (!iEq (Int.ofNat m) (Int.ofNat (List.length (List.map Dm.encI fr))))) (by rw [q43]; rfl) (by kernel_rfl) ?_
        refine st hW 4 3 [] (.ops (List.drop 3 f34.r11)) [.seq (.cond (Opd.t 69) (.region f34.r12) .skip), .seq (.seq (.region f34.r13) (.region f34.r14)), .block 1, .seq (.region f34.r15)] [(1, (.d (.list (List.map Dm.encI ranks)))), (4, (.d (.list (List.map Dm.encI fr)))), (5, (.sl 1 (List.length fd * 1) 0 (List.length fd) 1)), (6, (.d (.int .i64 0))), (8, (.d (.bool eq))), (10, (.d (.list (List.map Dm.encI x)))), (11, (.d (.int .i64 (.ofNat m)))), (32, (.d (.list (List.map encL args)))), (33, (.d (.int .i64 (.ofNat (List.length (List.map encL args)))))), (34, (.d (.int .i64 (.ofNat i)))), (65, (.d (.bool (iLt 0 (Int.ofNat m)))))] ([some (.cells [(.func 80 [] [])]), some (rowE encB fd)]) (by kernel_rfl) (by kernel_rfl) ?_
        rw [q39]
        refine st hW 2 0 [] (.code (.cond (Opd.t 69) (.region f34.r12) .skip)) [.seq (.seq (.region f34.r13) (.region f34.r14)), .block 1, .seq (.region f34.r15)] [(1, (.d (.list (List.map Dm.encI ranks)))), (4, (.d (.list (List.map Dm.encI fr)))), (5, (.sl 1 (List.length fd * 1) 0 (List.length fd) 1)), (6, (.d (.int .i64 0))), (8, (.d (.bool eq))), (10, (.d (.list (List.map Dm.encI x)))), (11, (.d (.int .i64 (.ofNat m)))), (32, (.d (.list (List.map encL args)))), (33, (.d (.int .i64 (.ofNat (List.length (List.map encL args)))))), (34, (.d (.int .i64 (.ofNat i)))), (69, (.d (.bool (iEq (Int.ofNat (List.length (List.map Dm.encI fr))) 0))))] ([some (.cells [(.func 80 [] [])]), some (rowE encB fd)]) (by kernel_rfl) (by kernel_rfl) ?_
        have q44 : (iEq (Int.ofNat (List.length (List.map Dm.encI fr))) 0) = false := f_eq (by (try simp only [Int.ofNat_eq_natCast, List.length_map, List.length_append, List.length_cons, List.length_nil, List.length_take, List.length_drop] at *) <;> omega)
        refine CG.condF (b := (iEq (Int.ofNat (List.length (List.map Dm.encI fr))) 0)) q44 (by kernel_rfl) ?_
        refine st hW 3 2 [] (.ops (List.drop 2 f34.r13)) [.seq (.region f34.r14), .block 1, .seq (.region f34.r15)] [(1, (.d (.list (List.map Dm.encI ranks)))), (4, (.d (.list (List.map Dm.encI fr)))), (5, (.sl 1 (List.length fd * 1) 0 (List.length fd) 1)), (6, (.d (.int .i64 0))), (8, (.d (.bool eq))), (10, (.d (.list (List.map Dm.encI x)))), (11, (.d (.int .i64 (.ofNat m)))), (32, (.d (.list (List.map encL args)))), (33, (.d (.int .i64 (.ofNat (List.length (List.map encL args)))))), (34, (.d (.int .i64 (.ofNat i)))), (75, (.d (.bool eq)))] ([some (.cells [(.func 80 [] [])]), some (rowE encB fd)]) (by kernel_rfl) (by kernel_rfl) ?_
        refine (Bool.eq_false_or_eq_true eq).elim (fun q45 => ?_) (fun q45 => ?_)
        rw [q45]
        refine st hW 0 3 [] (.ops (List.drop 3 (List.drop 2 f34.r13))) [.seq (.region f34.r14), .block 1, .seq (.region f34.r15)] [(1, (.d (.list (List.map Dm.encI ranks)))), (4, (.d (.list (List.map Dm.encI fr)))), (5, (.sl 1 (List.length fd * 1) 0 (List.length fd) 1)), (6, (.d (.int .i64 0))), (8, (.d (.bool true))), (10, (.d (.list (List.map Dm.encI x)))), (11, (.d (.int .i64 (.ofNat m)))), (32, (.d (.list (List.map encL args)))), (33, (.d (.int .i64 (.ofNat (List.length (List.map encL args)))))), (34, (.d (.int .i64 (.ofNat i)))), (75, (.d (.bool true))), (78, (.d (.bool (iEq (Int.ofNat m) 0))))] ([some (.cells [(.func 80 [] [])]), some (rowE encB fd)]) (by kernel_rfl) (by kernel_rfl) ?_
        have q46 : (iEq (Int.ofNat m) 0) = false := f_eq (by (try simp only [Int.ofNat_eq_natCast, List.length_map, List.length_append, List.length_cons, List.length_nil, List.length_take, List.length_drop] at *) <;> omega)
        rw [q46]
        refine st hW 0 3 [] (.ops (List.drop 3 (List.drop 3 (List.drop 2 f34.r13)))) [.seq (.region f34.r14), .block 1, .seq (.region f34.r15)] [(1, (.d (.list (List.map Dm.encI ranks)))), (4, (.d (.list (List.map Dm.encI fr)))), (5, (.sl 1 (List.length fd * 1) 0 (List.length fd) 1)), (6, (.d (.int .i64 0))), (8, (.d (.bool true))), (11, (.d (.int .i64 (.ofNat m)))), (32, (.d (.list (List.map encL args)))), (33, (.d (.int .i64 (.ofNat (List.length (List.map encL args)))))), (34, (.d (.int .i64 (.ofNat i)))), (75, (.d (.bool true))), (78, (.d (.bool false))), (79, (.d (.list (List.map Dm.encI fr)))), (80, (.d (.list (List.map Dm.encI x)))), (81, (.d (.int .i64 (.ofNat m))))] ([some (.cells [(.func 80 [] [])]), some (rowE encB fd)]) (by kernel_rfl) (by kernel_rfl) ?_
        refine CG.lsl Dm.encI x 0 m (fun _ => rfl) rfl (by kernel_rfl) (by kernel_rfl) (by kernel_rfl) (by kernel_rfl) (by (try simp only [Int.ofNat_eq_natCast, List.length_map, List.length_append, List.length_cons, List.length_nil, List.length_take, List.length_drop] at *) <;> omega) rfl ?_
        refine CG.pcG ((pc_eqInts hW fr (List.drop 0 (List.take m x))) (by first | assumption | exact (by (try simp only [Int.ofNat_eq_natCast, List.length_map, List.length_append, List.length_cons, List.length_nil, List.length_take, List.length_drop] at *) <;> omega))) rfl (by kernel_rfl) (by kernel_rfl) rfl ?_
        refine st hW 2 4 [] (.ops (List.drop 4 f34.r14)) [.block 1, .seq (.region f34.r15)] [(1, (.d (.list (List.map Dm.encI ranks)))), (4, (.d (.list (List.map Dm.encI fr)))), (5, (.sl 1 (List.length fd * 1) 0 (List.length fd) 1)), (6, (.d (.int .i64 0))), (8, (.d (.bool (fr == List.drop 0 (List.take m x))))), (32, (.d (.list (List.map encL args)))), (33, (.d (.int .i64 (.ofNat (List.length (List.map encL args)))))), (34, (.d (.int .i64 (.ofNat i)))), (86, (.sl 1 (List.length fd * 1) 0 (List.length fd) 1)), (89, (.d (.list [[(.bool (iLt 0 (Int.ofNat m)))]])))] ([some (.cells [(.func 80 [] [])]), some (rowE encB fd)]) (by kernel_rfl) (by kernel_rfl) ?_
        refine CG.appE encB fd ((iLt 0 (Int.ofNat m)) :: []) (b := 1) (H' := [some (.cells [(.func 80 [] [])]), some (rowE encB (fd ++ ((iLt 0 (Int.ofNat m)) :: [])))]) (fun _ => rfl) rfl rfl (by kernel_rfl) (by kernel_rfl) (by kernel_rfl) (by kernel_rfl) (by (try simp only [Int.ofNat_eq_natCast, List.length_map, List.length_append, List.length_cons, List.length_nil, List.length_take, List.length_drop] at *) <;> omega) rfl (by kernel_rfl) ?_
        refine st hW 3 2 [] (.ops (List.drop 2 f34.r15)) [] [(1, (.d (.list (List.map Dm.encI ranks)))), (4, (.d (.list (List.map Dm.encI fr)))), (5, (.sl 1 (List.length (fd ++ [iLt 0 (Int.ofNat m)]) * 1) 0 (List.length (fd ++ [iLt 0 (Int.ofNat m)])) 1)), (6, (.d (.int .i64 0))), (8, (.d (.bool (fr == List.drop 0 (List.take m x))))), (32, (.d (.list (List.map encL args)))), (33, (.d (.int .i64 (.ofNat (List.length (List.map encL args)))))), (34, (.d (.int .i64 (wrapF IntKind.i64 (iAdd (Int.ofNat i) 1)))))] ([some (.cells [(.func 80 [] [])]), some (rowE encB (fd ++ [iLt 0 (Int.ofNat m)]))]) (by kernel_rfl) (by kernel_rfl) ?_
        refine CG.endL rfl ?_
        rw [wrapI (by omega)]
        rotate_left
        rw [q45]
        refine st hW 2 4 [] (.ops (List.drop 4 f34.r14)) [.block 1, .seq (.region f34.r15)] [(1, (.d (.list (List.map Dm.encI ranks)))), (4, (.d (.list (List.map Dm.encI fr)))), (5, (.sl 1 (List.length fd * 1) 0 (List.length fd) 1)), (6, (.d (.int .i64 0))), (8, (.d (.bool false))), (32, (.d (.list (List.map encL args)))), (33, (.d (.int .i64 (.ofNat (List.length (List.map encL args)))))), (34, (.d (.int .i64 (.ofNat i)))), (86, (.sl 1 (List.length fd * 1) 0 (List.length fd) 1)), (89, (.d (.list [[(.bool (iLt 0 (Int.ofNat m)))]])))] ([some (.cells [(.func 80 [] [])]), some (rowE encB fd)]) (by kernel_rfl) (by kernel_rfl) ?_
        refine CG.appE encB fd ((iLt 0 (Int.ofNat m)) :: []) (b := 1) (H' := [some (.cells [(.func 80 [] [])]), some (rowE encB (fd ++ ((iLt 0 (Int.ofNat m)) :: [])))]) (fun _ => rfl) rfl rfl (by kernel_rfl) (by kernel_rfl) (by kernel_rfl) (by kernel_rfl) (by (try simp only [Int.ofNat_eq_natCast, List.length_map, List.length_append, List.length_cons, List.length_nil, List.length_take, List.length_drop] at *) <;> omega) rfl (by kernel_rfl) ?_
        refine st hW 3 2 [] (.ops (List.drop 2 f34.r15)) [] [(1, (.d (.list (List.map Dm.encI ranks)))), (4, (.d (.list (List.map Dm.encI fr)))), (5, (.sl 1 (List.length (fd ++ [iLt 0 (Int.ofNat m)]) * 1) 0 (List.length (fd ++ [iLt 0 (Int.ofNat m)])) 1)), (6, (.d (.int .i64 0))), (8, (.d (.bool false))), (32, (.d (.list (List.map encL args)))), (33, (.d (.int .i64 (.ofNat (List.length (List.map encL args)))))), (34, (.d (.int .i64 (wrapF IntKind.i64 (iAdd (Int.ofNat i) 1)))))] ([some (.cells [(.func 80 [] [])]), some (rowE encB (fd ++ [iLt 0 (Int.ofNat m)]))]) (by kernel_rfl) (by kernel_rfl) ?_
        refine CG.endL rfl ?_
        rw [wrapI (by omega)]
        rotate_left
        refine CG.condT (b := (!iEq (Int.ofNat m) (Int.ofNat (List.length (List.map Dm.encI fr))))) (by rw [q43]; rfl) (by kernel_rfl) ?_
        refine st hW 3 0 [] (.code .ret) [.seq (.seq (.seq (.region f34.r11) (.cond (Opd.t 69) (.region f34.r12) .skip)) (.seq (.region f34.r13) (.region f34.r14))), .block 1, .seq (.region f34.r15)] [(1, (.d (.list (List.map Dm.encI ranks)))), (4, .nils), (5, .nils), (6, (.d (.int .i64 13))), (8, (.d (.bool eq))), (10, (.d (.list (List.map Dm.encI x)))), (11, (.d (.int .i64 (.ofNat m)))), (32, (.d (.list (List.map encL args)))), (33, (.d (.int .i64 (.ofNat (List.length (List.map encL args)))))), (34, (.d (.int .i64 (.ofNat i))))] ([some (.cells [(.func 80 [] [])]), some (rowE encB fd)]) (by kernel_rfl) (by kernel_rfl) ?_
        refine CG.retL (v' := (.tuple [(.d (.list [])), (.d (.list [])), (.d (.int .i64 13))])) (by kernel_rfl) ?_
        rotate_left
        rw [q41]
        refine st hW 7 3 [false] (.ops (List.drop 3 f34.r11)) [.seq (.cond (Opd.t 69) (.region f34.r12) .skip), .seq (.seq (.region f34.r13) (.region f34.r14)), .block 1, .seq (.region f34.r15)] [(1, (.d (.list (List.map Dm.encI ranks)))), (4, (.d (.list (List.map Dm.encI fr)))), (5, (.sl 1 (List.length fd * 1) 0 (List.length fd) 1)), (6, (.d (.int .i64 0))), (8, (.d (.bool eq))), (10, (.d (.list (List.map Dm.encI x)))), (11, (.d (.int .i64 (.ofNat m)))), (32, (.d (.list (List.map encL args)))), (33, (.d (.int .i64 (.ofNat (List.length (List.map encL args)))))), (34, (.d (.int .i64 (.ofNat i)))), (65, (.d (.bool (iLt 0 (Int.ofNat m)))))] ([some (.cells [(.func 80 [] [])]), some (rowE encB fd)]) (by kernel_rfl) (by kernel_rfl) ?_
        rw [q39]
        refine st hW 2 0 [] (.code (.cond (Opd.t 69) (.region f34.r12) .skip)) [.seq (.seq (.region f34.r13) (.region f34.r14)), .block 1, .seq (.region f34.r15)] [(1, (.d (.list (List.map Dm.encI ranks)))), (4, (.d (.list (List.map Dm.encI fr)))), (5, (.sl 1 (List.length fd * 1) 0 (List.length fd) 1)), (6, (.d (.int .i64 0))), (8, (.d (.bool eq))), (10, (.d (.list (List.map Dm.encI x)))), (11, (.d (.int .i64 (.ofNat m)))), (32, (.d (.list (List.map encL args)))), (33, (.d (.int .i64 (.ofNat (List.length (List.map encL args)))))), (34, (.d (.int .i64 (.ofNat i)))), (69, (.d (.bool (iEq (Int.ofNat (List.length (List.map Dm.encI fr))) 0))))] ([some (.cells [(.func 80 [] [])]), some (rowE encB fd)]) (by kernel_rfl) (by kernel_rfl) ?_
        have q47 : (iEq (Int.ofNat (List.length (List.map Dm.encI fr))) 0) = true := t_eq (by (try simp only [Int.ofNat_eq_natCast, List.length_map, List.length_append, List.length_cons, List.length_nil, List.length_take, List.length_drop] at *) <;> omega)
        refine CG.condT (b := (iEq (Int.ofNat (List.length (List.map Dm.encI fr))) 0)) q47 (by kernel_rfl) ?_
        refine st hW 0 2 [] (.ops (List.drop 2 f34.r12)) [.seq (.seq (.region f34.r13) (.region f34.r14)), .block 1, .seq (.region f34.r15)] [(1, (.d (.list (List.map Dm.encI ranks)))), (4, (.d (.list (List.map Dm.encI fr)))), (5, (.sl 1 (List.length fd * 1) 0 (List.length fd) 1)), (6, (.d (.int .i64 0))), (8, (.d (.bool eq))), (10, (.d (.list (List.map Dm.encI x)))), (11, (.d (.int .i64 (.ofNat m)))), (32, (.d (.list (List.map encL args)))), (33, (.d (.int .i64 (.ofNat (List.length (List.map encL args)))))), (34, (.d (.int .i64 (.ofNat i)))), (70, (.d (.list (List.map Dm.encI x)))), (71, (.d (.int .i64 (.ofNat m))))] ([some (.cells [(.func 80 [] [])]), some (rowE encB fd)]) (by kernel_rfl) (by kernel_rfl) ?_
        refine CG.lsl Dm.encI x 0 m (fun _ => rfl) rfl (by kernel_rfl) (by kernel_rfl) (by kernel_rfl) (by kernel_rfl) (by (try simp only [Int.ofNat_eq_natCast, List.length_map, List.length_append, List.length_cons, List.length_nil, List.length_take, List.length_drop] at *) <;> omega) rfl ?_
        refine CG.pc ((pc_clone hW (List.drop 0 (List.take m x))) (by first | assumption | exact (by (try simp only [Int.ofNat_eq_natCast, List.length_map, List.length_append, List.length_cons, List.length_nil, List.length_take, List.length_drop] at *) <;> omega)) (by first | assumption | exact (by (try simp only [Int.ofNat_eq_natCast, List.length_map, List.length_append, List.length_cons, List.length_nil, List.length_take, List.length_drop] at *) <;> omega))) rfl (by kernel_rfl) rfl ?_
        refine st hW 3 2 [] (.ops (List.drop 2 f34.r13)) [.seq (.region f34.r14), .block 1, .seq (.region f34.r15)] [(1, (.d (.list (List.map Dm.encI ranks)))), (4, (.d (.list (List.map Dm.encI (List.drop 0 (List.take m x)))))), (5, (.sl 1 (List.length fd * 1) 0 (List.length fd) 1)), (6, (.d (.int .i64 0))), (8, (.d (.bool eq))), (10, (.d (.list (List.map Dm.encI x)))), (11, (.d (.int .i64 (.ofNat m)))), (32, (.d (.list (List.map encL args)))), (33, (.d (.int .i64 (.ofNat (List.length (List.map encL args)))))), (34, (.d (.int .i64 (.ofNat i)))), (75, (.d (.bool eq)))] ([some (.cells [(.func 80 [] [])]), some (rowE encB fd)]) (by kernel_rfl) (by kernel_rfl) ?_
        refine (Bool.eq_false_or_eq_true eq).elim (fun q48 => ?_) (fun q48 => ?_)
        rw [q48]
        refine st hW 0 3 [] (.ops (List.drop 3 (List.drop 2 f34.r13))) [.seq (.region f34.r14), .block 1, .seq (.region f34.r15)] [(1, (.d (.list (List.map Dm.encI ranks)))), (4, (.d (.list (List.map Dm.encI (List.drop 0 (List.take m x)))))), (5, (.sl 1 (List.length fd * 1) 0 (List.length fd) 1)), (6, (.d (.int .i64 0))), (8, (.d (.bool true))), (10, (.d (.list (List.map Dm.encI x)))), (11, (.d (.int .i64 (.ofNat m)))), (32, (.d (.list (List.map encL args)))), (33, (.d (.int .i64 (.ofNat (List.length (List.map encL args)))))), (34, (.d (.int .i64 (.ofNat i)))), (75, (.d (.bool true))), (78, (.d (.bool (iEq (Int.ofNat m) 0))))] ([some (.cells [(.func 80 [] [])]), some (rowE encB fd)]) (by kernel_rfl) (by kernel_rfl) ?_
        have q49 : (iEq (Int.ofNat m) 0) = false := f_eq (by (try simp only [Int.ofNat_eq_natCast, List.length_map, List.length_append, List.length_cons, List.length_nil, List.length_take, List.length_drop] at *) <;> omega)
        rw [q49]
        refine st hW 0 3 [] (.ops (List.drop 3 (List.drop 3 (List.drop 2 f34.r13)))) [.seq (.region f34.r14), .block 1, .seq (.region f34.r15)] [(1, (.d (.list (List.map Dm.encI ranks)))), (4, (.d (.list (List.map Dm.encI (List.drop 0 (List.take m x)))))), (5, (.sl 1 (List.length fd * 1) 0 (List.length fd) 1)), (6, (.d (.int .i64 0))), (8, (.d (.bool true))), (11, (.d (.int .i64 (.ofNat m)))), (32, (.d (.list (List.map encL args)))), (33, (.d (.int .i64 (.ofNat (List.length (List.map encL args)))))), (34, (.d (.int .i64 (.ofNat i)))), (75, (.d (.bool true))), (78, (.d (.bool false))), (79, (.d (.list (List.map Dm.encI (List.drop 0 (List.take m x)))))), (80, (.d (.list (List.map Dm.encI x)))), (81, (.d (.int .i64 (.ofNat m))))] ([some (.cells [(.func 80 [] [])]), some (rowE encB fd)]) (by kernel_rfl) (by kernel_rfl) ?_
        refine CG.lsl Dm.encI x 0 m (fun _ => rfl) rfl (by kernel_rfl) (by kernel_rfl) (by kernel_rfl) (by kernel_rfl) (by (try simp only [Int.ofNat_eq_natCast, List.length_map, List.length_append, List.length_cons, List.length_nil, List.length_take, List.length_drop] at *) <;> omega) rfl ?_
        refine CG.pcG ((pc_eqInts hW (List.drop 0 (List.take m x)) (List.drop 0 (List.take m x))) (by first | assumption | exact (by (try simp only [Int.ofNat_eq_natCast, List.length_map, List.length_append, List.length_cons, List.length_nil, List.length_take, List.length_drop] at *) <;> omega))) rfl (by kernel_rfl) (by kernel_rfl) rfl ?_
        refine st hW 2 4 [] (.ops (List.drop 4 f34.r14)) [.block 1, .seq (.region f34.r15)] [(1, (.d (.list (List.map Dm.encI ranks)))), (4, (.d (.list (List.map Dm.encI (List.drop 0 (List.take m x)))))), (5, (.sl 1 (List.length fd * 1) 0 (List.length fd) 1)), (6, (.d (.int .i64 0))), (8, (.d (.bool (List.drop 0 (List.take m x) == List.drop 0 (List.take m x))))), (32, (.d (.list (List.map encL args)))), (33, (.d (.int .i64 (.ofNat (List.length (List.map encL args)))))), (34, (.d (.int .i64 (.ofNat i)))), (86, (.sl 1 (List.length fd * 1) 0 (List.length fd) 1)), (89, (.d (.list [[(.bool (iLt 0 (Int.ofNat m)))]])))] ([some (.cells [(.func 80 [] [])]), some (rowE encB fd)]) (by kernel_rfl) (by kernel_rfl) ?_
        refine CG.appE encB fd ((iLt 0 (Int.ofNat m)) :: []) (b := 1) (H' := [some (.cells [(.func 80 [] [])]), some (rowE encB (fd ++ ((iLt 0 (Int.ofNat m)) :: [])))]) (fun _ => rfl) rfl rfl (by kernel_rfl) (by kernel_rfl) (by kernel_rfl) (by kernel_rfl) (by (try simp only [Int.ofNat_eq_natCast, List.length_map, List.length_append, List.length_cons, List.length_nil, List.length_take, List.length_drop] at *) <;> omega) rfl (by kernel_rfl) ?_
        refine st hW 3 2 [] (.ops (List.drop 2 f34.r15)) [] [(1, (.d (.list (List.map Dm.encI ranks)))), (4, (.d (.list (List.map Dm.encI (List.drop 0 (List.take m x)))))), (5, (.sl 1 (List.length (fd ++ [iLt 0 (Int.ofNat m)]) * 1) 0 (List.length (fd ++ [iLt 0 (Int.ofNat m)])) 1)), (6, (.d (.int .i64 0))), (8, (.d (.bool (List.drop 0 (List.take m x) == List.drop 0 (List.take m x))))), (32, (.d (.list (List.map encL args)))), (33, (.d (.int .i64 (.ofNat (List.length (List.map encL args)))))), (34, (.d (.int .i64 (wrapF IntKind.i64 (iAdd (Int.ofNat i) 1)))))] ([some (.cells [(.func 80 [] [])]), some (rowE encB (fd ++ [iLt 0 (Int.ofNat m)]))]) (by kernel_rfl) (by kernel_rfl) ?_
        refine CG.endL rfl ?_
        rw [wrapI (by omega)]
        rotate_left
        rw [q48]
        refine st hW 2 4 [] (.ops (List.drop 4 f34.r14)) [.block 1, .seq (.region f34.r15)] [(1, (.d (.list (List.map Dm.encI ranks)))), (4, (.d (.list (List.map Dm.encI (List.drop 0 (List.take m x)))))), (5, (.sl 1 (List.length fd * 1) 0 (List.length fd) 1)), (6, (.d (.int .i64 0))), (8, (.d (.bool false))), (32, (.d (.list (List.map encL args)))), (33, (.d (.int .i64 (.ofNat (List.length (List.map encL args)))))), (34, (.d (.int .i64 (.ofNat i)))), (86, (.sl 1 (List.length fd * 1) 0 (List.length fd) 1)), (89, (.d (.list [[(.bool (iLt 0 (Int.ofNat m)))]])))] ([some (.cells [(.func 80 [] [])]), some (rowE encB fd)]) (by kernel_rfl) (by kernel_rfl) ?_
        refine CG.appE encB fd ((iLt 0 (Int.ofNat m)) :: []) (b := 1) (H' := [some (.cells [(.func 80 [] [])]), some (rowE encB (fd ++ ((iLt 0 (Int.ofNat m)) :: [])))]) (fun _ => rfl) rfl rfl (by kernel_rfl) (by kernel_rfl) (by kernel_rfl) (by kernel_rfl) (by (try simp only [Int.ofNat_eq_natCast, List.length_map, List.length_append, List.length_cons, List.length_nil, List.length_take, List.length_drop] at *) <;> omega) rfl (by kernel_rfl) ?_
        refine st hW 3 2 [] (.ops (List.drop 2 f34.r15)) [] [(1, (.d (.list (List.map Dm.encI ranks)))), (4, (.d (.list (List.map Dm.encI (List.drop 0 (List.take m x)))))), (5, (.sl 1 (List.length (fd ++ [iLt 0 (Int.ofNat m)]) * 1) 0 (List.length (fd ++ [iLt 0 (Int.ofNat m)])) 1)), (6, (.d (.int .i64 0))), (8, (.d (.bool false))), (32, (.d (.list (List.map encL args)))), (33, (.d (.int .i64 (.ofNat (List.length (List.map encL args)))))), (34, (.d (.int .i64 (wrapF IntKind.i64 (iAdd (Int.ofNat i) 1)))))] ([some (.cells [(.func 80 [] [])]), some (rowE encB (fd ++ [iLt 0 (Int.ofNat m)]))]) (by kernel_rfl) (by kernel_rfl) ?_
        refine CG.endL rfl ?_
        rw [wrapI (by omega)]
        rotate_left
        rw [q39]
        refine st hW 7 3 [false] (.ops (List.drop 3 f34.r11)) [.seq (.cond (Opd.t 69) (.region f34.r12) .skip), .seq (.seq (.region f34.r13) (.region f34.r14)), .block 1, .seq (.region f34.r15)] [(1, (.d (.list (List.map Dm.encI ranks)))), (4, (.d (.list (List.map Dm.encI fr)))), (5, (.sl 1 (List.length fd * 1) 0 (List.length fd) 1)), (6, (.d (.int .i64 0))), (8, (.d (.bool eq))), (10, (.d (.list (List.map Dm.encI x)))), (11, (.d (.int .i64 (.ofNat m)))), (32, (.d (.list (List.map encL args)))), (33, (.d (.int .i64 (.ofNat (List.length (List.map encL args)))))), (34, (.d (.int .i64 (.ofNat i)))), (65, (.d (.bool (iLt 0 (Int.ofNat m)))))] ([some (.cells [(.func 80 [] [])]), some (rowE encB fd)]) (by kernel_rfl) (by kernel_rfl) ?_
        rw [q39]
        refine st hW 6 2 [false] (.ops (List.drop 2 f34.r13)) [.seq (.region f34.r14), .block 1, .seq (.region f34.r15)] [(1, (.d (.list (List.map Dm.encI ranks)))), (4, (.d (.list (List.map Dm.encI fr)))), (5, (.sl 1 (List.length fd * 1) 0 (List.length fd) 1)), (6, (.d (.int .i64 0))), (8, (.d (.bool eq))), (10, (.d (.list (List.map Dm.encI x)))), (11, (.d (.int .i64 (.ofNat m)))), (32, (.d (.list (List.map encL args)))), (33, (.d (.int .i64 (.ofNat (List.length (List.map encL args)))))), (34, (.d (.int .i64 (.ofNat i)))), (75, (.d (.bool eq)))] ([some (.cells [(.func 80 [] [])]), some (rowE encB fd)]) (by kernel_rfl) (by kernel_rfl) ?_
        refine (Bool.eq_false_or_eq_true eq).elim (fun q50 => ?_) (fun q50 => ?_)
        rw [q50]
        refine st hW 0 3 [] (.ops (List.drop 3 (List.drop 2 f34.r13))) [.seq (.region f34.r14), .block 1, .seq (.region f34.r15)] [(1, (.d (.list (List.map Dm.encI ranks)))), (4, (.d (.list (List.map Dm.encI fr)))), (5, (.sl 1 (List.length fd * 1) 0 (List.length fd) 1)), (6, (.d (.int .i64 0))), (8, (.d (.bool true))), (10, (.d (.list (List.map Dm.encI x)))), (11, (.d (.int .i64 (.ofNat m)))), (32, (.d (.list (List.map encL args)))), (33, (.d (.int .i64 (.ofNat (List.length (List.map encL args)))))), (34, (.d (.int .i64 (.ofNat i)))), (75, (.d (.bool true))), (78, (.d (.bool (iEq (Int.ofNat m) 0))))] ([some (.cells [(.func 80 [] [])]), some (rowE encB fd)]) (by kernel_rfl) (by kernel_rfl) ?_
        have q51 : (iEq (Int.ofNat m) 0) = true := t_eq (by (try simp only [Int.ofNat_eq_natCast, List.length_map, List.length_append, List.length_cons, List.length_nil, List.length_take, List.length_drop] at *) <;> omega)
        rw [q51]
        refine st hW 2 4 [] (.ops (List.drop 4 f34.r14)) [.block 1, .seq (.region f34.r15)] [(1, (.d (.list (List.map Dm.encI ranks)))), (4, (.d (.list (List.map Dm.encI fr)))), (5, (.sl 1 (List.length fd * 1) 0 (List.length fd) 1)), (6, (.d (.int .i64 0))), (8, (.d (.bool true))), (32, (.d (.list (List.map encL args)))), (33, (.d (.int .i64 (.ofNat (List.length (List.map encL args)))))), (34, (.d (.int .i64 (.ofNat i)))), (86, (.sl 1 (List.length fd * 1) 0 (List.length fd) 1)), (89, (.d (.list [[(.bool (iLt 0 (Int.ofNat m)))]])))] ([some (.cells [(.func 80 [] [])]), some (rowE encB fd)]) (by kernel_rfl) (by kernel_rfl) ?_
        refine CG.appE encB fd ((iLt 0 (Int.ofNat m)) :: []) (b := 1) (H' := [some (.cells [(.func 80 [] [])]), some (rowE encB (fd ++ ((iLt 0 (Int.ofNat m)) :: [])))]) (fun _ => rfl) rfl rfl (by kernel_rfl) (by kernel_rfl) (by kernel_rfl) (by kernel_rfl) (by (try simp only [Int.ofNat_eq_natCast, List.length_map, List.length_append, List.length_cons, List.length_nil, List.length_take, List.length_drop] at *) <;> omega) rfl (by kernel_rfl) ?_
        refine st hW 3 2 [] (.ops (List.drop 2 f34.r15)) [] [(1, (.d (.list (List.map Dm.encI ranks)))), (4, (.d (.list (List.map Dm.encI fr)))), (5, (.sl 1 (List.length (fd ++ [iLt 0 (Int.ofNat m)]) * 1) 0 (List.length (fd ++ [iLt 0 (Int.ofNat m)])) 1)), (6, (.d (.int .i64 0))), (8, (.d (.bool true))), (32, (.d (.list (List.map encL args)))), (33, (.d (.int .i64 (.ofNat (List.length (List.map encL args)))))), (34, (.d (.int .i64 (wrapF IntKind.i64 (iAdd (Int.ofNat i) 1)))))] ([some (.cells [(.func 80 [] [])]), some (rowE encB (fd ++ [iLt 0 (Int.ofNat m)]))]) (by kernel_rfl) (by kernel_rfl) ?_
        refine CG.endL rfl ?_
        rw [wrapI (by omega)]
        rotate_left
        rw [q50]
        refine st hW 2 4 [] (.ops (List.drop 4 f34.r14)) [.block 1, .seq (.region f34.r15)] [(1, (.d (.list (List.map Dm.encI ranks)))), (4, (.d (.list (List.map Dm.encI fr)))), (5, (.sl 1 (List.length fd * 1) 0 (List.length fd) 1)), (6, (.d (.int .i64 0))), (8, (.d (.bool false))), (32, (.d (.list (List.map encL args)))), (33, (.d (.int .i64 (.ofNat (List.length (List.map encL args)))))), (34, (.d (.int .i64 (.ofNat i)))), (86, (.sl 1 (List.length fd * 1) 0 (List.length fd) 1)), (89, (.d (.list [[(.bool (iLt 0 (Int.ofNat m)))]])))] ([some (.cells [(.func 80 [] [])]), some (rowE encB fd)]) (by kernel_rfl) (by kernel_rfl) ?_
        refine CG.appE encB fd ((iLt 0 (Int.ofNat m)) :: []) (b := 1) (H' := [some (.cells [(.func 80 [] [])]), some (rowE encB (fd ++ ((iLt 0 (Int.ofNat m)) :: [])))]) (fun _ => rfl) rfl rfl (by kernel_rfl) (by kernel_rfl) (by kernel_rfl) (by kernel_rfl) (by (try simp only [Int.ofNat_eq_natCast, List.length_map, List.length_append, List.length_cons, List.length_nil, List.length_take, List.length_drop] at *) <;> omega) rfl (by kernel_rfl) ?_
        refine st hW 3 2 [] (.ops (List.drop 2 f34.r15)) [] [(1, (.d (.list (List.map Dm.encI ranks)))), (4, (.d (.list (List.map Dm.encI fr)))), (5, (.sl 1 (List.length (fd ++ [iLt 0 (Int.ofNat m)]) * 1) 0 (List.length (fd ++ [iLt 0 (Int.ofNat m)])) 1)), (6, (.d (.int .i64 0))), (8, (.d (.bool false))), (32, (.d (.list (List.map encL args)))), (33, (.d (.int .i64 (.ofNat (List.length (List.map encL args)))))), (34, (.d (.int .i64 (wrapF IntKind.i64 (iAdd (Int.ofNat i) 1)))))] ([some (.cells [(.func 80 [] [])]), some (rowE encB (fd ++ [iLt 0 (Int.ofNat m)]))]) (by kernel_rfl) (by kernel_rfl) ?_
        refine CG.endL rfl ?_
        rw [wrapI (by omega)]
        rotate_left
        all_goals first
          | (rw [dimsF, hb, cond_false, hinv, if_pos (by omega)]; rfl)
          | (refine ⟨(_, _, _), ⟨?_, by simp [hfd]⟩, Tidy.refl _ _⟩
             rw [hinv, if_neg (by omega), if_neg (by omega)]
             first
               | (rw [show eq = false by assumption]; rfl)
               | (rw [show eq = true by assumption, show decide (m = 0) = true from decide_eq_true (by omega)]; rfl)
               | (rw [show eq = true by assumption, show decide (m = 0) = false from decide_eq_false (by omega)]; rfl))
          | (refine ⟨(_, _, _), ⟨?_, by simp [hfd]⟩, Tidy.refl _ _⟩
             rw [hinv, if_neg (by omega), if_pos (by omega)]
             first
               | (rw [show eq = false by assumption]; rfl)
               | (rw [show eq = true by assumption, show decide (m = 0) = true from decide_eq_true (by omega)]; rfl)
               | (rw [show eq = true by assumption, show decide (m = 0) = false from decide_eq_false (by omega)]; rfl))
  · have : badD args ranks = true := by
      simp only [badD, Bool.or_eq_true, decide_eq_true_eq]
      exact .inl (.inl (.inl (by omega)))
    rw [dimsF, this]; rfl
end Fw.Tz.Da
