/-
  Walks over the program's functions: pieces of code run by the quicker run.
-/
import Derived.Test.YtlgnmcfckgokdaaGreatDoorTc
import Derived.Test.YtlgnmcfckgokdaaGreatDoorFf

set_option linter.unusedSimpArgs false
set_option maxRecDepth 1000000
set_option maxHeartbeats 4000000
namespace Fw.Tz
open Go Go.Proofs Fw.X
variable {W : World}
noncomputable def rd (W : World) (ov : List (Nat × Bool)) (sp : List (Nat × V)) (n : Nat) (l : List IOper) (ks : List Nat) (tm : List (Nat × V)) (H : Heap) : Option (List V × Heap × List (Bool × Bool) × CallL) :=
  runDX [] (gl W) (dcallOf (pcallX kt0 .e (rawX W kt0 .e 40)) (callX W kt0 .e (rawX W kt0 .e 40))) ov sp n l ks tm H
noncomputable def rg (W : World) (n : Nat) (N j : Nat) (bs : List Bool) (cur : Cur) (K : List Fr) (ks : List Nat) (tm : List (Nat × V)) (H : Heap) : Option XR :=
  runG [] (gl W) (callX W kt0 .e (rawX W kt0 .e 40)) (pcallX kt0 .e (rawX W kt0 .e 40)) n N j bs cur K ks tm H
theorem st (hW : W0 W) (N j : Nat) (bs : List Bool) {cur : Cur} {K : List Fr} {n : Nat} {tm : List (Nat × V)} {H : Heap} {Q : Ex → St → Prop} (c' : Cur) (K' : List Fr) (tm' : List (Nat × V)) (H' : Heap)
    (h1 : ctlJ N j bs cur K = some (c', K')) (h2 : rg W n N j bs cur K (tm'.map Prod.fst) tm H = some (.tuple (tm'.map Prod.snd), H')) (hq : CG P (gl W) c' K' n tm' H' Q) : CG P (gl W) cur K n tm H Q :=
  CG.st orders (callX_ok hW (ex0) _ (rawX_ok hW (ex0) 40)) (pcallX_ok hW (ex0) _ (rawX_ok hW (ex0) 40)) N j bs h1 h2 hq
theorem dg (hW : W0 W) (ov : List (Nat × Bool)) (sp : List (Nat × V)) {n : Nat} {l : List IOper} {K : List Fr} {tm tm' : List (Nat × V)} {H H' : Heap} {cs : List (Bool × Bool)} {calls : CallL} {Q : Ex → St → Prop}
    (h : rd W ov sp n l (tm'.map Prod.fst) tm H = some (tm'.map Prod.snd, H', cs, calls)) (hcs : allEq cs) (hcl : allPC P (gl W) calls) (hq : CG P (gl W) (.out .normal) K n tm' H' Q) : CG P (gl W) (.code (.draw l)) K n tm H Q :=
  CG.drawX orders (dcallOf_ok (pcallX_ok hW (ex0) _ (rawX_ok hW (ex0) 40)) (callX_ok hW (ex0) _ (rawX_ok hW (ex0) 40))) ov sp h hcs hcl hq
end Fw.Tz

/-
  The value of an expression over k, m and n.
-/
set_option linter.unusedSimpArgs false
set_option maxRecDepth 1000000
set_option maxHeartbeats 4000000
namespace Fw.Tz
open Go Go.Proofs Fw.X
variable {W : World}
def env (k m n : Nat) : D := .list [[.str [107], .int .i64 (.ofNat k)], [.str [109], .int .i64 (.ofNat m)], [.str [110], .int .i64 (.ofNat n)]]
theorem gtNo {a : Int} {k : Nat} (hk : (k : Int) ≤ a) (h : iLt a (Int.ofNat k) = true) : False := by
  rw [iLt_eq] at h; simp at h; omega
theorem ltNo {a : Int} {k : Nat} (hk : (k : Int) ≤ a) : iLt a (Int.ofNat k) = false := by
  rw [iLt_eq]; simp; omega
theorem vl_j (hW : W0 W) {j : Nat} (h0 : 0 < j) (hj : j < 65) : PC P (gl W) 54 [.agg [.d (.int .i64 (.ofNat j)), .d (.list [])]] (.d (.bool true)) := by
  refine CG.start is54 ca54 rfl ?_
  have hs : iLt 1000000 (Int.ofNat j) = false := ltNo (by omega)
  refine st hW 5 5 [] (.ops (List.drop 5 f54.r1)) [.seq (.cond (Opd.t 14) (.seq (.region f54.r2) .ret) .skip), .seq (.seq (.seq (.region f54.r3) (.block 0 (.loop f54.l9))) (.seq (.region f54.r10) .ret))] [(1, (.ptr 0 2 0)), (2, (.d (.bool false))), (9, (.d (.bool (!!iLt 1000000 (Int.ofNat j)))))] ([some (.cells [(.d (.int .i64 (.ofNat j))), (.d (.list []))])]) (by kernel_rfl) (by kernel_rfl) ?_
  rw [hs]
  refine st hW 24 0 [false, false] (.code .ret) [] [(2, (.d (.bool true)))] ([some (.cells [(.d (.int .i64 (.ofNat j))), (.d (.list []))])]) (by kernel_rfl) (by kernel_rfl) ?_
  refine CG.ret (v' := (.d (.bool true))) (by kernel_rfl) ?_
  rfl
theorem vl_jn (hW : W0 W) {j : Nat} (h0 : 0 < j) (hj : j < 65) : PC P (gl W) 54 [.agg [.d (.int .i64 0), .d (.list [[.str [110], .int .i64 (.ofNat j)]])]] (.d (.bool true)) := by
  refine CG.start is54 ca54 rfl ?_
  have hs : iLt 1000000 (Int.ofNat j) = false := ltNo (by omega)
  have hz : (Int.ofNat j == (0 : Int)) = false := by simp; omega
  refine st hW 29 0 [false, true] (.code (.draw f54.r6)) [.seq (.cond (Opd.t 57) (.seq (.region f54.r7) .ret) .skip), .block 1, .seq (.region f54.r8), .loop 40 f54.l9, .block 0, .seq (.seq (.region f54.r10) .ret)] [(1, (.ptr 0 2 0)), (2, (.d (.bool false))), (3, (.d (.int .i64 0))), (4, (.ptr 1 2 0))] ([some (.cells [(.d (.int .i64 0)), (.d (.list [[(.str [110]), (.int .i64 (.ofNat j))]]))]), some (.cells [(.d (.str [110])), (.d (.int .i64 (.ofNat j)))])]) (by kernel_rfl) (by kernel_rfl) ?_
  refine dg hW [(7, false), (12, true)] [] (tm' := [(1, (.ptr 0 2 0)), (2, (.d (.bool false))), (3, (.d (.int .i64 0))), (57, (.d (.bool false)))]) (H' := [some (.cells [(.d (.int .i64 0)), (.d (.list [[(.str [110]), (.int .i64 (.ofNat j))]]))]), some (.cells [(.d (.str [110])), (.d (.int .i64 (.ofNat j)))])] ++ nn 31 ([])) (cs := [((Int.ofNat j == 0), false), ((!iLt 1000000 (Int.ofNat j)), true)]) (calls := []) (by kernel_rfl) ⟨hz, ⟨(by rw [hs]; rfl), trivial⟩⟩ trivial ?_
  refine st hW 20 0 [false, false] (.code .ret) [] [(2, (.d (.bool true)))] ([some (.cells [(.d (.int .i64 0)), (.d (.list [[(.str [110]), (.int .i64 (.ofNat j))]]))]), some (.cells [(.d (.str [110])), (.d (.int .i64 (.ofNat j)))])] ++ nn 31 ([])) (by kernel_rfl) (by kernel_rfl) ?_
  refine CG.ret (v' := (.d (.bool true))) (by kernel_rfl) ?_
  rfl
theorem ev_k (hW : W0 W) (k m n : Nat) (hk : k < 61) : PC P (gl W) 24 [.agg [.d (.int .i64 0), .d (.list [[.str [107], .int .i64 1]])], .d (env k m n)] (.tuple [.d (.int .i64 (.ofNat k)), .d (.int .i64 0)]) := by
  refine CG.start is24 ca24 rfl ?_
  refine st hW 58 0 [false, true, false, false] (.code (.cond (Opd.t 56) (.seq (.region f24.r14) .ret) .skip)) [.seq (.region f24.r15), .block 1, .seq (.region f24.r16), .loop 40 f24.l17, .block 0, .seq (.seq (.region f24.r18) .ret)] [(1, (.d (.list [[(.str [107]), (.int .i64 (.ofNat k))], [(.str [109]), (.int .i64 (.ofNat m))], [(.str [110]), (.int .i64 (.ofNat n))]]))), (2, (.ptr 0 2 0)), (4, (.d (.int .i64 0))), (5, (.d (.int .i64 0))), (6, (.d (.int .i64 0))), (7, (.d (.int .i64 0))), (9, (.d (.int .i64 (.ofNat k)))), (56, (.d (.bool (iLt 1000000000 (Int.ofNat k)))))] ([some (.cells [(.d (.int .i64 0)), (.d (.list [[(.str [107]), (.int .i64 1)]]))])] ++ nn 18 ([])) (by kernel_rfl) (by kernel_rfl) ?_
  refine CG.condB (b := (iLt 1000000000 (Int.ofNat k))) (by kernel_rfl) (fun h => ?_) (fun h => ?_)
  · exact (gtNo (by omega) h).elim
  refine st hW 20 0 [false] (.code .ret) [] [(4, (.d (.int .i64 (wrapF IntKind.i64 (iAdd 0 (IntKind.wrap IntKind.i64 (1 * Int.ofNat k))))))), (5, (.d (.int .i64 0)))] ([some (.cells [(.d (.int .i64 0)), (.d (.list [[(.str [107]), (.int .i64 1)]]))])] ++ nn 18 ([])) (by kernel_rfl) (by kernel_rfl) ?_
  refine CG.ret (v' := (.tuple [(.d (.int .i64 (wrapF IntKind.i64 (iAdd 0 (IntKind.wrap IntKind.i64 (1 * Int.ofNat k)))))), (.d (.int .i64 0))])) (by kernel_rfl) ?_
  simp only [wrapF_eq, iAdd_eq, IntKind.wrap_i64, V.tuple.injEq, List.cons.injEq, V.d.injEq, D.int.injEq, and_true, true_and, Int.ofNat_eq_natCast]
  omega
theorem ev_n (hW : W0 W) (k m n : Nat) (hn : n < 61) : PC P (gl W) 24 [.agg [.d (.int .i64 0), .d (.list [[.str [110], .int .i64 1]])], .d (env k m n)] (.tuple [.d (.int .i64 (.ofNat n)), .d (.int .i64 0)]) := by
  refine CG.start is24 ca24 rfl ?_
  refine st hW 80 0 [false, true, true, true, false, false] (.code (.cond (Opd.t 56) (.seq (.region f24.r14) .ret) .skip)) [.seq (.region f24.r15), .block 1, .seq (.region f24.r16), .loop 40 f24.l17, .block 0, .seq (.seq (.region f24.r18) .ret)] [(1, (.d (.list [[(.str [107]), (.int .i64 (.ofNat k))], [(.str [109]), (.int .i64 (.ofNat m))], [(.str [110]), (.int .i64 (.ofNat n))]]))), (2, (.ptr 0 2 0)), (4, (.d (.int .i64 0))), (5, (.d (.int .i64 0))), (6, (.d (.int .i64 0))), (7, (.d (.int .i64 0))), (9, (.d (.int .i64 (.ofNat n)))), (56, (.d (.bool (iLt 1000000000 (Int.ofNat n)))))] ([some (.cells [(.d (.int .i64 0)), (.d (.list [[(.str [110]), (.int .i64 1)]]))])] ++ nn 54 ([])) (by kernel_rfl) (by kernel_rfl) ?_
  refine CG.condB (b := (iLt 1000000000 (Int.ofNat n))) (by kernel_rfl) (fun h => ?_) (fun h => ?_)
  · exact (gtNo (by omega) h).elim
  refine st hW 20 0 [false] (.code .ret) [] [(4, (.d (.int .i64 (wrapF IntKind.i64 (iAdd 0 (IntKind.wrap IntKind.i64 (1 * Int.ofNat n))))))), (5, (.d (.int .i64 0)))] ([some (.cells [(.d (.int .i64 0)), (.d (.list [[(.str [110]), (.int .i64 1)]]))])] ++ nn 54 ([])) (by kernel_rfl) (by kernel_rfl) ?_
  refine CG.ret (v' := (.tuple [(.d (.int .i64 (wrapF IntKind.i64 (iAdd 0 (IntKind.wrap IntKind.i64 (1 * Int.ofNat n)))))), (.d (.int .i64 0))])) (by kernel_rfl) ?_
  simp only [wrapF_eq, iAdd_eq, IntKind.wrap_i64, V.tuple.injEq, List.cons.injEq, V.d.injEq, D.int.injEq, and_true, true_and, Int.ofNat_eq_natCast]
  omega
theorem ev_m (hW : W0 W) (k m n : Nat) (hm : m < 61) : PC P (gl W) 24 [.agg [.d (.int .i64 0), .d (.list [[.str [109], .int .i64 1]])], .d (env k m n)] (.tuple [.d (.int .i64 (.ofNat m)), .d (.int .i64 0)]) := by
  refine CG.start is24 ca24 rfl ?_
  refine st hW 69 0 [false, true, true, false, false] (.code (.cond (Opd.t 56) (.seq (.region f24.r14) .ret) .skip)) [.seq (.region f24.r15), .block 1, .seq (.region f24.r16), .loop 40 f24.l17, .block 0, .seq (.seq (.region f24.r18) .ret)] [(1, (.d (.list [[(.str [107]), (.int .i64 (.ofNat k))], [(.str [109]), (.int .i64 (.ofNat m))], [(.str [110]), (.int .i64 (.ofNat n))]]))), (2, (.ptr 0 2 0)), (4, (.d (.int .i64 0))), (5, (.d (.int .i64 0))), (6, (.d (.int .i64 0))), (7, (.d (.int .i64 0))), (9, (.d (.int .i64 (.ofNat m)))), (56, (.d (.bool (iLt 1000000000 (Int.ofNat m)))))] ([some (.cells [(.d (.int .i64 0)), (.d (.list [[(.str [109]), (.int .i64 1)]]))])] ++ nn 36 ([])) (by kernel_rfl) (by kernel_rfl) ?_
  refine CG.condB (b := (iLt 1000000000 (Int.ofNat m))) (by kernel_rfl) (fun h => ?_) (fun h => ?_)
  · exact (gtNo (by omega) h).elim
  refine st hW 20 0 [false] (.code .ret) [] [(4, (.d (.int .i64 (wrapF IntKind.i64 (iAdd 0 (IntKind.wrap IntKind.i64 (1 * Int.ofNat m))))))), (5, (.d (.int .i64 0)))] ([some (.cells [(.d (.int .i64 0)), (.d (.list [[(.str [109]), (.int .i64 1)]]))])] ++ nn 36 ([])) (by kernel_rfl) (by kernel_rfl) ?_
  refine CG.ret (v' := (.tuple [(.d (.int .i64 (wrapF IntKind.i64 (iAdd 0 (IntKind.wrap IntKind.i64 (1 * Int.ofNat m)))))), (.d (.int .i64 0))])) (by kernel_rfl) ?_
  simp only [wrapF_eq, iAdd_eq, IntKind.wrap_i64, V.tuple.injEq, List.cons.injEq, V.d.injEq, D.int.injEq, and_true, true_and, Int.ofNat_eq_natCast]
  omega
theorem ev_kn (hW : W0 W) (k m n : Nat) (hk : k < 61) (hn : n < 61) : PC P (gl W) 24 [.agg [.d (.int .i64 0), .d (.list [[.str [107], .int .i64 (-1)], [.str [110], .int .i64 1]])], .d (env k m n)] (.tuple [.d (.int .i64 ((n : Int) - k)), .d (.int .i64 0)]) := by
  refine CG.start is24 ca24 rfl ?_
  refine st hW 58 0 [false, true, false, false] (.code (.cond (Opd.t 56) (.seq (.region f24.r14) .ret) .skip)) [.seq (.region f24.r15), .block 1, .seq (.region f24.r16), .loop 40 f24.l17, .block 0, .seq (.seq (.region f24.r18) .ret)] [(1, (.d (.list [[(.str [107]), (.int .i64 (.ofNat k))], [(.str [109]), (.int .i64 (.ofNat m))], [(.str [110]), (.int .i64 (.ofNat n))]]))), (2, (.ptr 0 2 0)), (4, (.d (.int .i64 0))), (5, (.d (.int .i64 0))), (6, (.d (.int .i64 0))), (7, (.d (.int .i64 0))), (9, (.d (.int .i64 (.ofNat k)))), (56, (.d (.bool (iLt 1000000000 (Int.ofNat k)))))] ([some (.cells [(.d (.int .i64 0)), (.d (.list [[(.str [107]), (.int .i64 (-1))], [(.str [110]), (.int .i64 1)]]))])] ++ nn 18 ([])) (by kernel_rfl) (by kernel_rfl) ?_
  refine CG.condB (b := (iLt 1000000000 (Int.ofNat k))) (by kernel_rfl) (fun h => ?_) (fun h => ?_)
  · exact (gtNo (by omega) h).elim
  refine st hW 68 0 [true, true, true, false, false] (.code (.cond (Opd.t 56) (.seq (.region f24.r14) .ret) .skip)) [.seq (.region f24.r15), .block 1, .seq (.region f24.r16), .loop 39 f24.l17, .block 0, .seq (.seq (.region f24.r18) .ret)] [(1, (.d (.list [[(.str [107]), (.int .i64 (.ofNat k))], [(.str [109]), (.int .i64 (.ofNat m))], [(.str [110]), (.int .i64 (.ofNat n))]]))), (2, (.ptr 0 2 0)), (4, (.d (.int .i64 0))), (5, (.d (.int .i64 0))), (6, (.d (.int .i64 (wrapF IntKind.i64 (iAdd 0 (IntKind.wrap IntKind.i64 (-1 * Int.ofNat k))))))), (7, (.d (.int .i64 1))), (9, (.d (.int .i64 (.ofNat n)))), (56, (.d (.bool (iLt 1000000000 (Int.ofNat n)))))] ([some (.cells [(.d (.int .i64 0)), (.d (.list [[(.str [107]), (.int .i64 (-1))], [(.str [110]), (.int .i64 1)]]))])] ++ nn 72 ([])) (by kernel_rfl) (by kernel_rfl) ?_
  refine CG.condB (b := (iLt 1000000000 (Int.ofNat n))) (by kernel_rfl) (fun h => ?_) (fun h => ?_)
  · exact (gtNo (by omega) h).elim
  refine st hW 20 0 [false] (.code .ret) [] [(4, (.d (.int .i64 (wrapF IntKind.i64 (iAdd (wrapF IntKind.i64 (iAdd 0 (IntKind.wrap IntKind.i64 (-1 * Int.ofNat k)))) (IntKind.wrap IntKind.i64 (1 * Int.ofNat n))))))), (5, (.d (.int .i64 0)))] ([some (.cells [(.d (.int .i64 0)), (.d (.list [[(.str [107]), (.int .i64 (-1))], [(.str [110]), (.int .i64 1)]]))])] ++ nn 72 ([])) (by kernel_rfl) (by kernel_rfl) ?_
  refine CG.ret (v' := (.tuple [(.d (.int .i64 (wrapF IntKind.i64 (iAdd (wrapF IntKind.i64 (iAdd 0 (IntKind.wrap IntKind.i64 (-1 * Int.ofNat k)))) (IntKind.wrap IntKind.i64 (1 * Int.ofNat n)))))), (.d (.int .i64 0))])) (by kernel_rfl) ?_
  simp only [wrapF_eq, iAdd_eq, IntKind.wrap_i64, V.tuple.injEq, List.cons.injEq, V.d.injEq, D.int.injEq, and_true, true_and, Int.ofNat_eq_natCast]
  omega
theorem ev_kn1 (hW : W0 W) (k m n : Nat) (hk : k < 61) (hn : n < 61) : PC P (gl W) 24 [.agg [.d (.int .i64 1), .d (.list [[.str [107], .int .i64 (-1)], [.str [110], .int .i64 1]])], .d (env k m n)] (.tuple [.d (.int .i64 ((n : Int) - k + 1)), .d (.int .i64 0)]) := by
  refine CG.start is24 ca24 rfl ?_
  refine st hW 58 0 [false, true, false, false] (.code (.cond (Opd.t 56) (.seq (.region f24.r14) .ret) .skip)) [.seq (.region f24.r15), .block 1, .seq (.region f24.r16), .loop 40 f24.l17, .block 0, .seq (.seq (.region f24.r18) .ret)] [(1, (.d (.list [[(.str [107]), (.int .i64 (.ofNat k))], [(.str [109]), (.int .i64 (.ofNat m))], [(.str [110]), (.int .i64 (.ofNat n))]]))), (2, (.ptr 0 2 0)), (4, (.d (.int .i64 0))), (5, (.d (.int .i64 0))), (6, (.d (.int .i64 1))), (7, (.d (.int .i64 0))), (9, (.d (.int .i64 (.ofNat k)))), (56, (.d (.bool (iLt 1000000000 (Int.ofNat k)))))] ([some (.cells [(.d (.int .i64 1)), (.d (.list [[(.str [107]), (.int .i64 (-1))], [(.str [110]), (.int .i64 1)]]))])] ++ nn 18 ([])) (by kernel_rfl) (by kernel_rfl) ?_
  refine CG.condB (b := (iLt 1000000000 (Int.ofNat k))) (by kernel_rfl) (fun h => ?_) (fun h => ?_)
  · exact (gtNo (by omega) h).elim
  refine st hW 68 0 [true, true, true, false, false] (.code (.cond (Opd.t 56) (.seq (.region f24.r14) .ret) .skip)) [.seq (.region f24.r15), .block 1, .seq (.region f24.r16), .loop 39 f24.l17, .block 0, .seq (.seq (.region f24.r18) .ret)] [(1, (.d (.list [[(.str [107]), (.int .i64 (.ofNat k))], [(.str [109]), (.int .i64 (.ofNat m))], [(.str [110]), (.int .i64 (.ofNat n))]]))), (2, (.ptr 0 2 0)), (4, (.d (.int .i64 0))), (5, (.d (.int .i64 0))), (6, (.d (.int .i64 (wrapF IntKind.i64 (iAdd 1 (IntKind.wrap IntKind.i64 (-1 * Int.ofNat k))))))), (7, (.d (.int .i64 1))), (9, (.d (.int .i64 (.ofNat n)))), (56, (.d (.bool (iLt 1000000000 (Int.ofNat n)))))] ([some (.cells [(.d (.int .i64 1)), (.d (.list [[(.str [107]), (.int .i64 (-1))], [(.str [110]), (.int .i64 1)]]))])] ++ nn 72 ([])) (by kernel_rfl) (by kernel_rfl) ?_
  refine CG.condB (b := (iLt 1000000000 (Int.ofNat n))) (by kernel_rfl) (fun h => ?_) (fun h => ?_)
  · exact (gtNo (by omega) h).elim
  refine st hW 20 0 [false] (.code .ret) [] [(4, (.d (.int .i64 (wrapF IntKind.i64 (iAdd (wrapF IntKind.i64 (iAdd 1 (IntKind.wrap IntKind.i64 (-1 * Int.ofNat k)))) (IntKind.wrap IntKind.i64 (1 * Int.ofNat n))))))), (5, (.d (.int .i64 0)))] ([some (.cells [(.d (.int .i64 1)), (.d (.list [[(.str [107]), (.int .i64 (-1))], [(.str [110]), (.int .i64 1)]]))])] ++ nn 72 ([])) (by kernel_rfl) (by kernel_rfl) ?_
  refine CG.ret (v' := (.tuple [(.d (.int .i64 (wrapF IntKind.i64 (iAdd (wrapF IntKind.i64 (iAdd 1 (IntKind.wrap IntKind.i64 (-1 * Int.ofNat k)))) (IntKind.wrap IntKind.i64 (1 * Int.ofNat n)))))), (.d (.int .i64 0))])) (by kernel_rfl) ?_
  simp only [wrapF_eq, iAdd_eq, IntKind.wrap_i64, V.tuple.injEq, List.cons.injEq, V.d.injEq, D.int.injEq, and_true, true_and, Int.ofNat_eq_natCast]
  omega
theorem ev_mn (hW : W0 W) (k m n : Nat) (hm : m < 61) (hn : n < 61) : PC P (gl W) 24 [.agg [.d (.int .i64 0), .d (.list [[.str [109], .int .i64 1], [.str [110], .int .i64 1]])], .d (env k m n)] (.tuple [.d (.int .i64 (.ofNat (m + n))), .d (.int .i64 0)]) := by
  refine CG.start is24 ca24 rfl ?_
  refine st hW 69 0 [false, true, true, false, false] (.code (.cond (Opd.t 56) (.seq (.region f24.r14) .ret) .skip)) [.seq (.region f24.r15), .block 1, .seq (.region f24.r16), .loop 40 f24.l17, .block 0, .seq (.seq (.region f24.r18) .ret)] [(1, (.d (.list [[(.str [107]), (.int .i64 (.ofNat k))], [(.str [109]), (.int .i64 (.ofNat m))], [(.str [110]), (.int .i64 (.ofNat n))]]))), (2, (.ptr 0 2 0)), (4, (.d (.int .i64 0))), (5, (.d (.int .i64 0))), (6, (.d (.int .i64 0))), (7, (.d (.int .i64 0))), (9, (.d (.int .i64 (.ofNat m)))), (56, (.d (.bool (iLt 1000000000 (Int.ofNat m)))))] ([some (.cells [(.d (.int .i64 0)), (.d (.list [[(.str [109]), (.int .i64 1)], [(.str [110]), (.int .i64 1)]]))])] ++ nn 36 ([])) (by kernel_rfl) (by kernel_rfl) ?_
  refine CG.condB (b := (iLt 1000000000 (Int.ofNat m))) (by kernel_rfl) (fun h => ?_) (fun h => ?_)
  · exact (gtNo (by omega) h).elim
  refine st hW 68 0 [true, true, true, false, false] (.code (.cond (Opd.t 56) (.seq (.region f24.r14) .ret) .skip)) [.seq (.region f24.r15), .block 1, .seq (.region f24.r16), .loop 39 f24.l17, .block 0, .seq (.seq (.region f24.r18) .ret)] [(1, (.d (.list [[(.str [107]), (.int .i64 (.ofNat k))], [(.str [109]), (.int .i64 (.ofNat m))], [(.str [110]), (.int .i64 (.ofNat n))]]))), (2, (.ptr 0 2 0)), (4, (.d (.int .i64 0))), (5, (.d (.int .i64 0))), (6, (.d (.int .i64 (wrapF IntKind.i64 (iAdd 0 (IntKind.wrap IntKind.i64 (1 * Int.ofNat m))))))), (7, (.d (.int .i64 1))), (9, (.d (.int .i64 (.ofNat n)))), (56, (.d (.bool (iLt 1000000000 (Int.ofNat n)))))] ([some (.cells [(.d (.int .i64 0)), (.d (.list [[(.str [109]), (.int .i64 1)], [(.str [110]), (.int .i64 1)]]))])] ++ nn 90 ([])) (by kernel_rfl) (by kernel_rfl) ?_
  refine CG.condB (b := (iLt 1000000000 (Int.ofNat n))) (by kernel_rfl) (fun h => ?_) (fun h => ?_)
  · exact (gtNo (by omega) h).elim
  refine st hW 20 0 [false] (.code .ret) [] [(4, (.d (.int .i64 (wrapF IntKind.i64 (iAdd (wrapF IntKind.i64 (iAdd 0 (IntKind.wrap IntKind.i64 (1 * Int.ofNat m)))) (IntKind.wrap IntKind.i64 (1 * Int.ofNat n))))))), (5, (.d (.int .i64 0)))] ([some (.cells [(.d (.int .i64 0)), (.d (.list [[(.str [109]), (.int .i64 1)], [(.str [110]), (.int .i64 1)]]))])] ++ nn 90 ([])) (by kernel_rfl) (by kernel_rfl) ?_
  refine CG.ret (v' := (.tuple [(.d (.int .i64 (wrapF IntKind.i64 (iAdd (wrapF IntKind.i64 (iAdd 0 (IntKind.wrap IntKind.i64 (1 * Int.ofNat m)))) (IntKind.wrap IntKind.i64 (1 * Int.ofNat n)))))), (.d (.int .i64 0))])) (by kernel_rfl) ?_
  simp only [wrapF_eq, iAdd_eq, IntKind.wrap_i64, V.tuple.injEq, List.cons.injEq, V.d.injEq, D.int.injEq, and_true, true_and, Int.ofNat_eq_natCast]
  omega
theorem ev_j (hW : W0 W) (k m n j : Nat)  (h0 : 0 < j) (hj : j < 65) : PC P (gl W) 24 [.agg [.d (.int .i64 (.ofNat j)), .d (.list [])], .d (env k m n)] (.tuple [.d (.int .i64 (.ofNat j)), .d (.int .i64 0)]) := by
  refine CG.start is24 ca24 rfl ?_
  refine st hW 5 1 [] (.ops (List.drop 1 f24.r1)) [.seq (.cond (Opd.t 12) (.seq (.region f24.r2) .ret) .skip), .seq (.seq (.region f24.r3) (.seq (.seq (.region f24.r4) (.block 0 (.loop f24.l17))) (.seq (.region f24.r18) .ret)))] [(1, (.d (.list [[(.str [107]), (.int .i64 (.ofNat k))], [(.str [109]), (.int .i64 (.ofNat m))], [(.str [110]), (.int .i64 (.ofNat n))]]))), (2, (.ptr 0 2 0)), (4, (.d (.int .i64 0))), (5, (.d (.int .i64 0))), (10, (.agg [(.d (.int .i64 (.ofNat j))), (.d (.list []))]))] ([some (.cells [(.d (.int .i64 (.ofNat j))), (.d (.list []))])]) (by kernel_rfl) (by kernel_rfl) ?_
  refine CG.pc (vl_j hW h0 hj) rfl (by kernel_rfl) rfl ?_
  refine st hW 27 0 [false, false] (.code .ret) [] [(4, (.d (.int .i64 (.ofNat j)))), (5, (.d (.int .i64 0)))] ([some (.cells [(.d (.int .i64 (.ofNat j))), (.d (.list []))])]) (by kernel_rfl) (by kernel_rfl) ?_
  refine CG.ret (v' := (.tuple [(.d (.int .i64 (.ofNat j))), (.d (.int .i64 0))])) (by kernel_rfl) ?_
  rfl
theorem ev_jn (hW : W0 W) (k m n j : Nat) (hn : n < 61) (h0 : 0 < j) (hj : j < 65) : PC P (gl W) 24 [.agg [.d (.int .i64 0), .d (.list [[.str [110], .int .i64 (.ofNat j)]])], .d (env k m n)] (.tuple [.d (.int .i64 (.ofNat (j * n))), .d (.int .i64 0)]) := by
  refine CG.start is24 ca24 rfl ?_
  refine st hW 5 1 [] (.ops (List.drop 1 f24.r1)) [.seq (.cond (Opd.t 12) (.seq (.region f24.r2) .ret) .skip), .seq (.seq (.region f24.r3) (.seq (.seq (.region f24.r4) (.block 0 (.loop f24.l17))) (.seq (.region f24.r18) .ret)))] [(1, (.d (.list [[(.str [107]), (.int .i64 (.ofNat k))], [(.str [109]), (.int .i64 (.ofNat m))], [(.str [110]), (.int .i64 (.ofNat n))]]))), (2, (.ptr 0 2 0)), (4, (.d (.int .i64 0))), (5, (.d (.int .i64 0))), (10, (.agg [(.d (.int .i64 0)), (.d (.list [[(.str [110]), (.int .i64 (.ofNat j))]]))]))] ([some (.cells [(.d (.int .i64 0)), (.d (.list [[(.str [110]), (.int .i64 (.ofNat j))]]))])]) (by kernel_rfl) (by kernel_rfl) ?_
  refine CG.pc (vl_jn hW h0 hj) rfl (by kernel_rfl) rfl ?_
  refine st hW 75 0 [false, true, true, true, false, false] (.code (.cond (Opd.t 56) (.seq (.region f24.r14) .ret) .skip)) [.seq (.region f24.r15), .block 1, .seq (.region f24.r16), .loop 40 f24.l17, .block 0, .seq (.seq (.region f24.r18) .ret)] [(1, (.d (.list [[(.str [107]), (.int .i64 (.ofNat k))], [(.str [109]), (.int .i64 (.ofNat m))], [(.str [110]), (.int .i64 (.ofNat n))]]))), (2, (.ptr 0 2 0)), (4, (.d (.int .i64 0))), (5, (.d (.int .i64 0))), (6, (.d (.int .i64 0))), (7, (.d (.int .i64 0))), (9, (.d (.int .i64 (.ofNat n)))), (56, (.d (.bool (iLt 1000000000 (Int.ofNat n)))))] ([some (.cells [(.d (.int .i64 0)), (.d (.list [[(.str [110]), (.int .i64 (.ofNat j))]]))])] ++ nn 54 ([])) (by kernel_rfl) (by kernel_rfl) ?_
  refine CG.condB (b := (iLt 1000000000 (Int.ofNat n))) (by kernel_rfl) (fun h => ?_) (fun h => ?_)
  · exact (gtNo (by omega) h).elim
  refine st hW 20 0 [false] (.code .ret) [] [(4, (.d (.int .i64 (wrapF IntKind.i64 (iAdd 0 (IntKind.wrap IntKind.i64 (Int.ofNat j * Int.ofNat n))))))), (5, (.d (.int .i64 0)))] ([some (.cells [(.d (.int .i64 0)), (.d (.list [[(.str [110]), (.int .i64 (.ofNat j))]]))])] ++ nn 54 ([])) (by kernel_rfl) (by kernel_rfl) ?_
  refine CG.ret (v' := (.tuple [(.d (.int .i64 (wrapF IntKind.i64 (iAdd 0 (IntKind.wrap IntKind.i64 (Int.ofNat j * Int.ofNat n)))))), (.d (.int .i64 0))])) (by kernel_rfl) ?_
  have e : j * n ≤ 64 * 60 := Nat.mul_le_mul (by omega) (by omega)
  have e2 : (j : Int) * (n : Int) = ((j * n : Nat) : Int) := by simp
  simp only [wrapF_eq, iAdd_eq, IntKind.wrap_i64, V.tuple.injEq, List.cons.injEq, V.d.injEq, D.int.injEq, and_true, true_and, Int.ofNat_eq_natCast]
  rw [e2]
  generalize j * n = q at e
  omega
end Fw.Tz
