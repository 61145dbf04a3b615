/-
  Pairs, by the reference.
-/
import Derived.Test.YtgfgckimecpmlaaGreatDoorTl
import Derived.Test.YtgfgckimecpmlaaGreatDoorTd
import Derived.Test.YtgfgckimecpmlaaGreatDoorFg
import Derived.Test.YtgfgckimecpmlaaGreatDoorTe

set_option linter.unusedSimpArgs false
set_option maxRecDepth 1000000
set_option maxHeartbeats 4000000
namespace Fw.Tz.Pe
open Go Go.Proofs Fw.X Fw.Tz Fw.Nu Fw.Tz.Na Fw.Tz.El Fw.Tz.Va Fw.Tz.Vb Fw.Tz.Vc Fw.Tz.Vd Fw.Tz.Vf Fw.Tz.Vh Fw.Tz.Eq Fw.Tz.Ew Fw.Tz.Fg Fw.Tz.Pp Fw.Tz.Pa Fw.Tz.Pb Fw.Tz.Pc Fw.Tz.Pd
variable {W : World}
noncomputable def rk (W : World) (n : Nat) (c : IR) (ks : List Nat) (tm : List (Nat × V)) (H : Heap) : Option XR :=
  runP [16] (gl W) (callX W kt0 .e (rawX W kt0 .e 40)) (pcallX kt0 .e (rawX W kt0 .e 40)) n c ks tm H
noncomputable def rd (W : World) (ov : List (Nat × Bool)) (sp : List (Nat × V)) (n : Nat) (l : List IOper) (ks : List Nat) (tm : List (Nat × V)) (H : Heap) : Option (List V × Heap × List (Bool × Bool) × CallL) :=
  runDX [16] (gl W) (dcallOf (pcallX kt0 .e (rawX W kt0 .e 40)) (callX W kt0 .e (rawX W kt0 .e 40))) ov sp n l ks tm H
theorem dg (hW : W0 W) (ov : List (Nat × Bool)) (sp : List (Nat × V)) {n : Nat} {l : List IOper} {K : List Fr} {tm tm' : List (Nat × V)} {H H' : Heap} {cs : List (Bool × Bool)} {calls : CallL} {Q : Ex → St → Prop}
    (h : rd W ov sp n l (tm'.map Prod.fst) tm H = some (tm'.map Prod.snd, H', cs, calls)) (hcs : allEq cs) (hcl : allPC P (gl W) calls) (hq : CG P (gl W) (.out .normal) K n tm' H' Q) : CG P (gl W) (.code (.draw l)) K n tm H Q :=
  CG.drawX orders (dcallOf_ok (pcallX_ok hW (ex0) _ (rawX_ok hW (ex0) 40)) (callX_ok hW (ex0) _ (rawX_ok hW (ex0) 40))) ov sp h hcs hcl hq
noncomputable def rg (W : World) (n : Nat) (N j : Nat) (bs : List Bool) (cur : Cur) (K : List Fr) (ks : List Nat) (tm : List (Nat × V)) (H : Heap) : Option XR :=
  runG [16] (gl W) (callX W kt0 .e (rawX W kt0 .e 40)) (pcallX kt0 .e (rawX W kt0 .e 40)) n N j bs cur K ks tm H
theorem s2 (hW : W0 W) (N j : Nat) (bs : List Bool) (m : Nat) (nw : List (Nat × V)) (H' : Heap) {cur c' : Cur} {K K' : List Fr} {n : Nat} {tm : List (Nat × V)} {H : Heap} {Q : Ex → St → Prop} (hq : CG P (gl W) c' K' n (upd m nw tm) H' Q) (h1 : ctlJ N j bs cur K = some (c', K') := by rfl) (h2 : rg W n N j bs cur K ((upd m nw tm).map Prod.fst) tm H = some (.tuple ((upd m nw tm).map Prod.snd), H') := by kernel_rfl) : CG P (gl W) cur K n tm H Q :=
  CG.st orders (callX_ok hW (ex0) _ (rawX_ok hW (ex0) 40)) (pcallX_ok hW (ex0) _ (rawX_ok hW (ex0) 40)) N j bs h1 h2 hq
theorem s1 (hW : W0 W) (N j : Nat) (bs : List Bool) (m : Nat) (nw : List (Nat × V)) {cur c' : Cur} {K K' : List Fr} {n : Nat} {tm : List (Nat × V)} {H : Heap} {Q : Ex → St → Prop} (hq : CG P (gl W) c' K' n (upd m nw tm) H Q) (h1 : ctlJ N j bs cur K = some (c', K') := by rfl) (h2 : rg W n N j bs cur K ((upd m nw tm).map Prod.fst) tm H = some (.tuple ((upd m nw tm).map Prod.snd), H) := by kernel_rfl) : CG P (gl W) cur K n tm H Q := s2 hW N j bs m nw H hq h1 h2
theorem s4 (hW : W0 W) (N j : Nat) (bs : List Bool) (m : Nat) (nw : List (Nat × V)) (hd : List (Nat × Box)) {cur c' : Cur} {K K' : List Fr} {n : Nat} {tm : List (Nat × V)} {H : Heap} {Q : Ex → St → Prop} (hq : CG P (gl W) c' K' n (upd m nw tm) (hpu hd H) Q) (h1 : ctlJ N j bs cur K = some (c', K') := by rfl) (h2 : rg W n N j bs cur K ((upd m nw tm).map Prod.fst) tm H = some (.tuple ((upd m nw tm).map Prod.snd), hpu hd H) := by kernel_rfl) : CG P (gl W) cur K n tm H Q := s2 hW N j bs m nw (hpu hd H) hq h1 h2
theorem s3 (hW : W0 W) (N j : Nat) (bs : List Bool) (tm' : List (Nat × V)) (H' : Heap) {cur c' : Cur} {K K' : List Fr} {n : Nat} {tm : List (Nat × V)} {H : Heap} {Q : Ex → St → Prop} (hq : CG P (gl W) c' K' n tm' H' Q) (h1 : ctlJ N j bs cur K = some (c', K') := by rfl) (h2 : rg W n N j bs cur K (tm'.map Prod.fst) tm H = some (.tuple (tm'.map Prod.snd), H') := by kernel_rfl) : CG P (gl W) cur K n tm H Q :=
  CG.st orders (callX_ok hW (ex0) _ (rawX_ok hW (ex0) 40)) (pcallX_ok hW (ex0) _ (rawX_ok hW (ex0) 40)) N j bs h1 h2 hq
theorem pc_join (hW : W0 W) (row : List UInt8) (d1 d2 : List Lin) (h1 : d1.length < 1048576) (h2 : d2.length < 1048576) : PC P (gl W) 78 [.d (.str row), .d (.list (d1.map Lin.enc)), .d (.list (d2.map Lin.enc))] (if d1.length + d2.length ≤ 6 then outS row (d1 ++ d2) 0 else outS [] [] 3) := by
  refine CG.start is78 ca78 rfl ?_
  by_cases h6 : d1.length + d2.length ≤ 6
  · rw [if_pos h6]
    refine s4 hW 7 0 [] 7 [(6, (.ptr 0 2 0)), (7, (io 0)), (13, (bo (iLt 6 (wrapF IntKind.i64 (iAdd (Int.ofNat (List.length (List.map Lin.enc d1))) (Int.ofNat (List.length (List.map Lin.enc d2))))))))] [(0, (.cells [(so []), .nils]))] ?_
    rw [show wrapF .i64 (iAdd (Int.ofNat (List.length (List.map Lin.enc d1))) (Int.ofNat (List.length (List.map Lin.enc d2)))) = Int.ofNat (d1.length + d2.length) from by rw [wrapF_eq, iAdd_eq, IntKind.wrap_i64, List.length_map, List.length_map]; simp only [Int.ofNat_eq_natCast]; omega]
    refine CG.condF (show (iLt 6 (Int.ofNat (List.length d1 + List.length d2))) = false from f_lt (by (try simp only [zz] at *) <;> omega)) (by kernel_rfl) ?_
    refine s4 hW 3 3 [] 28 [(15, (so row)), (16, (.sl 1 0 0 0 2)), (17, (lo Lin.enc d1))] [(1, (.cells []))] ?_
    rotate_left
    refine CG.is [(2, (lo Lin.enc d2)), (6, (.ptr 0 2 0)), (7, (io 0)), (15, (so row)), (16, .sl 1 (List.length ([] : List Lin) * 2) 0 (List.length ([] : List Lin)) 2), (17, (lo Lin.enc d1))] ([some (.cells [(so []), .nils]), some (cellE Lin.enc ([] : List Lin))]) (by kernel_rfl) ?_
    refine CG.apC Lin.enc [] d1 1 (fun _ => rfl) rfl (by kernel_rfl) (sliceC_map (enc := Lin.enc) (fun _ => rfl) _ d1) (by (try simp only [zz] at *) <;> omega) ?_
    refine s1 hW 0 1 [] 78 [(19, (lo Lin.enc d2))] ?_
    refine CG.apC Lin.enc ([] ++ d1) d2 1 (fun _ => rfl) rfl (by kernel_rfl) (sliceC_map (enc := Lin.enc) (fun _ => rfl) _ d2) (by (try simp only [zz] at *) <;> omega) ?_
    refine CG.tidyO (Tidy.frzC (sz := 2) Lin.enc ([] ++ d1 ++ d2) 1 20 (tm' := [(6, (.ptr 0 2 0)), (7, (io 0)), (15, (so row)), (18, .any), (19, (lo Lin.enc d2)), (20, (.d (.list (List.map Lin.enc ([] ++ d1 ++ d2)))))]) (H' := [some (.cells [(so []), .nils]), none]) (fun _ => rfl) (by kernel_rfl) (by kernel_rfl) ⟨.inr rfl, ⟨.inl rfl, trivial⟩⟩ (by kernel_rfl) (by kernel_rfl)) ?_
    refine s4 hW 2 0 [] 3 [] [(0, (.cells [(so row), (lo Lin.enc ([] ++ d1 ++ d2))]))] ?_
    refine CG.ret (v' := (.tuple [(.agg [(so row), (lo Lin.enc ([] ++ d1 ++ d2))]), (io 0)])) (by kernel_rfl) ?_
    rfl
  · rw [if_neg h6]
    refine s4 hW 7 0 [] 7 [(6, (.ptr 0 2 0)), (7, (io 0)), (13, (bo (iLt 6 (wrapF IntKind.i64 (iAdd (Int.ofNat (List.length (List.map Lin.enc d1))) (Int.ofNat (List.length (List.map Lin.enc d2))))))))] [(0, (.cells [(so []), .nils]))] ?_
    rw [show wrapF .i64 (iAdd (Int.ofNat (List.length (List.map Lin.enc d1))) (Int.ofNat (List.length (List.map Lin.enc d2)))) = Int.ofNat (d1.length + d2.length) from by rw [wrapF_eq, iAdd_eq, IntKind.wrap_i64, List.length_map, List.length_map]; simp only [Int.ofNat_eq_natCast]; omega]
    refine CG.condT (show (iLt 6 (Int.ofNat (List.length d1 + List.length d2))) = true from t_lt (by (try simp only [zz] at *) <;> omega)) (by kernel_rfl) ?_
    refine s1 hW 3 0 [] 15 [(7, (io 3))] ?_
    refine CG.ret (v' := (.tuple [(.agg [(so []), (.d (.list []))]), (io 3)])) (by kernel_rfl) ?_
    rfl
theorem pc_catR (hW : W0 W) (r1 : List UInt8) (d1 d2 : List Lin) (h1 : okD d1) (h2 : okD d2) (v1 : shpB r1 d1 = true) (v2 : shpB [] d2 = true) : PC P (gl W) 121 [vS r1 d1, vS [] d2] (if d1.length + d2.length ≤ 6 then outS r1 (d1 ++ d2) 0 else outS [] [] 3) := by
  refine CG.start is121 ca121 rfl ?_
  have k1 := pc_shpR hW r1 d1 (by have := h1.1; omega) (fun x hx => (h1.2 x hx).1)
  have k2 := pc_shpR hW [] d2 (by have := h2.1; omega) (fun x hx => (h2.2 x hx).1)
  rw [v1] at k1
  rw [v2] at k2
  have k3 := pc_join hW r1 d1 d2 h1.1 h2.1
  by_cases h6 : d1.length + d2.length ≤ 6
  · rw [if_pos h6] at k3 ⊢
    unfold outS at k3
    refine s4 hW 6 1 [] 0 [(2, (.ptr 0 2 0)), (3, (.ptr 1 2 0)), (4, (.ptr 2 2 0)), (5, (io 0)), (7, (.agg [(so r1), (lo Lin.enc d1)]))] [(0, (.cells [(so r1), (lo Lin.enc d1)])), (1, (.cells [(so []), (lo Lin.enc d2)])), (2, (.cells [(so []), .nils]))] ?_
    refine CG.pg (k1) rfl (by kernel_rfl) ?_
    refine s1 hW 0 3 [] 15 [(10, (bo false)), (11, (.agg [(so []), (lo Lin.enc d2)]))] ?_
    refine CG.pg (k2) rfl (by kernel_rfl) ?_
    refine s1 hW 11 6 [false, false] 12 [(22, (so r1)), (24, (lo Lin.enc d1)), (26, (lo Lin.enc d2))] ?_
    refine CG.pg (k3) rfl (by kernel_rfl) ?_
    refine s4 hW 2 0 [] 3 [] [(2, (.cells [(so r1), (lo Lin.enc (d1 ++ d2))]))] ?_
    refine CG.ret (v' := (.tuple [(.agg [(so r1), (lo Lin.enc (d1 ++ d2))]), (io 0)])) (by kernel_rfl) ?_
    rfl
  · rw [if_neg h6] at k3 ⊢
    unfold outS at k3
    refine s4 hW 6 1 [] 0 [(2, (.ptr 0 2 0)), (3, (.ptr 1 2 0)), (4, (.ptr 2 2 0)), (5, (io 0)), (7, (.agg [(so r1), (lo Lin.enc d1)]))] [(0, (.cells [(so r1), (lo Lin.enc d1)])), (1, (.cells [(so []), (lo Lin.enc d2)])), (2, (.cells [(so []), .nils]))] ?_
    refine CG.pg (k1) rfl (by kernel_rfl) ?_
    refine s1 hW 0 3 [] 15 [(10, (bo false)), (11, (.agg [(so []), (lo Lin.enc d2)]))] ?_
    refine CG.pg (k2) rfl (by kernel_rfl) ?_
    refine s1 hW 11 6 [false, false] 12 [(22, (so r1)), (24, (lo Lin.enc d1)), (26, (lo Lin.enc d2))] ?_
    refine CG.pg (k3) rfl (by kernel_rfl) ?_
    refine s4 hW 2 0 [] 1 [(5, (io 3))] [(2, (.cells [(so []), (.d (.list []))]))] ?_
    refine CG.ret (v' := (.tuple [(.agg [(so []), (.d (.list []))]), (io 3)])) (by kernel_rfl) ?_
    rfl
def lfV (row : List UInt8) (dims : List Lin) (t : Ty) (b : Bool) : V := match liftB row dims t b with
  | none => outT ⟨[], [], []⟩ 3
  | some u => outT u 0
theorem pc_liftR (hW : W0 W) (row : List UInt8) (dims : List Lin) (t : Ty) (b : Bool) (h1 : okD dims) (h2 : okD t.dims) (v1 : shpB row dims = true) (v2 : shpB [] t.dims = true) (hw : t.row = []) : PC P (gl W) 64 [vT t, vS row dims, .d (.bool b)] (lfV row dims t b) := by
  refine CG.start is64 ca64 rfl ?_
  have k := pc_catR hW row dims t.dims h1 h2 v1 v2
  obtain ⟨te, tr, td⟩ := t
  simp only at hw
  subst hw
  cases b with
  | false => refine s4 hW 11 0 [true] 0 [(3, (.ptr 0 3 0)), (4, (.ptr 1 2 0)), (6, (.ptr 2 3 0)), (7, (io 0))] [(0, (.cells [(so (Ty.elem { elem := te, row := [], dims := td })), (so []), (lo Lin.enc (Ty.dims { elem := te, row := [], dims := td }))])), (1, (.cells [(so row), (lo Lin.enc dims)])), (2, (.cells [(so (Ty.elem { elem := te, row := [], dims := td })), (so []), (lo Lin.enc (Ty.dims { elem := te, row := [], dims := td }))]))] ?_
             refine CG.ret (v' := (.tuple [(.agg [(so (Ty.elem { elem := te, row := [], dims := td })), (so []), (lo Lin.enc (Ty.dims { elem := te, row := [], dims := td }))]), (io 0)])) (by kernel_rfl) ?_
             rfl
  | true =>
    by_cases h6 : dims.length + td.length ≤ 6
    · rw [if_pos h6] at k
      rw [show lfV row dims ⟨te, [], td⟩ true = outT ⟨te, row, dims ++ td⟩ 0 from by simp [lfV, liftB, h6]]
      unfold outS at k
      refine s4 hW 11 3 [false] 0 [(3, (.ptr 0 3 0)), (6, (.ptr 2 3 0)), (7, (io 0)), (14, (.agg [(so row), (lo Lin.enc dims)])), (16, (.agg [(so []), (lo Lin.enc (Ty.dims { elem := te, row := [], dims := td }))]))] [(0, (.cells [(so (Ty.elem { elem := te, row := [], dims := td })), (so []), (lo Lin.enc (Ty.dims { elem := te, row := [], dims := td }))])), (1, (.cells [(so row), (lo Lin.enc dims)])), (2, (.cells [(so []), (so []), .nils]))] ?_
      refine CG.pg (k) rfl (by kernel_rfl) ?_
      refine s4 hW 12 0 [false] 6 [] [(2, (.cells [(so (Ty.elem { elem := te, row := [], dims := td })), (so row), (lo Lin.enc (dims ++ Ty.dims { elem := te, row := [], dims := td }))])), (3, (.cells [(so row), (lo Lin.enc (dims ++ Ty.dims { elem := te, row := [], dims := td }))]))] ?_
      refine CG.ret (v' := (.tuple [(.agg [(so (Ty.elem { elem := te, row := [], dims := td })), (so row), (lo Lin.enc (dims ++ Ty.dims { elem := te, row := [], dims := td }))]), (io 0)])) (by kernel_rfl) ?_
      rfl
    · rw [if_neg h6] at k
      rw [show lfV row dims ⟨te, [], td⟩ true = outT ⟨[], [], []⟩ 3 from by simp [lfV, liftB, h6]]
      unfold outS at k
      refine s4 hW 11 3 [false] 0 [(3, (.ptr 0 3 0)), (6, (.ptr 2 3 0)), (7, (io 0)), (14, (.agg [(so row), (lo Lin.enc dims)])), (16, (.agg [(so []), (lo Lin.enc (Ty.dims { elem := te, row := [], dims := td }))]))] [(0, (.cells [(so (Ty.elem { elem := te, row := [], dims := td })), (so []), (lo Lin.enc (Ty.dims { elem := te, row := [], dims := td }))])), (1, (.cells [(so row), (lo Lin.enc dims)])), (2, (.cells [(so []), (so []), .nils]))] ?_
      refine CG.pg (k) rfl (by kernel_rfl) ?_
      refine s4 hW 10 0 [true] 3 [(7, (io 3)), (8, (.ptr 3 2 0))] [(3, (.cells [(so []), (.d (.list []))]))] ?_
      refine CG.ret (v' := (.tuple [(.agg [(so []), (so []), (.d (.list []))]), (io 3)])) (by kernel_rfl) ?_
      rfl
end Fw.Tz.Pe

/-
  Pairs, by the reference.
-/
set_option linter.unusedSimpArgs false
set_option maxRecDepth 1000000
set_option maxHeartbeats 4000000
namespace Fw.Tz.Pg
open Go Go.Proofs Fw.X Fw.Tz Fw.Nu Fw.Tz.Sd Fw.Tz.Na Fw.Tz.El Fw.Tz.Va Fw.Tz.Vb Fw.Tz.Vc Fw.Tz.Vd Fw.Tz.Vf Fw.Tz.Vh Fw.Tz.Eq Fw.Tz.Ew Fw.Tz.Fg Fw.Tz.Pp Fw.Tz.Pa Fw.Tz.Pb Fw.Tz.Pc Fw.Tz.Pd
variable {W : World}
open Fw.Tz.Pe (lfV pc_liftR)
theorem pr_loopR (hW : W0 W) (c : Con) (row : List UInt8) (dims : List Lin) (bs : List Bool) (hs : Okc c row dims bs) (hp : Okp c row dims bs) : CG P (gl W) (.code (.loop f24.l12)) [.block 0, .seq (.seq (.region f24.r13) (.seq (.seq (.region f24.r14) (.cond (.t 86) (.seq (.region f24.r15) .ret) .skip)) (.seq (.region f24.r16) .ret)))] f24.ntmps
    [(2, lo encB bs), (3, .ptr 0 18 0), (4, .ptr 1 2 0), (6, .nils), (7, io 0), (8, bo (bs.any id)), (9, .nils), (10, io 0)] [some (.cells (Con.cells c)), some (.cells [so row, lo Lin.enc dims])] (RetQ f24.res (prV (pairsO c row dims bs))) := by
  have hlen := hp.len
  have hle := hp.le
  have hbl := hp.bsl
  have hE : pairsO c row dims bs = (prs row dims [] c.gs c.ws bs).bind fun l => (liftB row dims c.x (bs.any id)).map fun t => l ++ [(c.r, t)] := prs_snoc row dims c.r c.x _ c.gs c.ws bs [] hlen hbl
  refine CG.tidy (Tidy.nilS 9 6 (tm' := [(2, (lo encB bs)), (3, (.ptr 0 18 0)), (4, (.ptr 1 2 0)), (6, .nils), (7, (io 0)), (8, (bo (List.any bs id))), (9, .sl 2 0 0 0 6), (10, (io 0))]) (Nat.le_refl _) (by kernel_rfl) (by kernel_rfl)) ?_
  refine CG.isH ([some (.cells (Con.cells c)), some (.cells [(so row), (lo Lin.enc dims)]), some .nil]) (by kernel_rfl) ?_
  refine CG.is [(2, (lo encB bs)), (3, (.ptr 0 18 0)), (4, (.ptr 1 2 0)), (6, .nils), (7, (io 0)), (8, (bo (List.any bs id))), (9, .sl 2 (List.length ([] : List (Ty × Ty)) * 6) 0 (List.length ([] : List (Ty × Ty))) 6), (10, (io 0))] ([some (.cells (Con.cells c)), some (.cells [(so row), (lo Lin.enc dims)]), some (rowE encP ([] : List (Ty × Ty)))]) (by kernel_rfl) ?_
  refine CG.loopL c.gs (fun i a => [(2, (lo encB bs)), (3, (.ptr 0 18 0)), (4, (.ptr 1 2 0)), (6, .nils), (7, (io 0)), (8, (bo (List.any bs id))), (9, .sl 2 (a.length * 6) 0 a.length 6), (10, .d (.int .i64 (.ofNat i)))]) (fun i a => [some (.cells (Con.cells c)), some (.cells [(so row), (lo Lin.enc dims)]), some (rowE encP a)]) (fun i a r => (prs row dims [] c.gs c.ws bs = prs row dims a r (c.ws.drop i) (bs.drop i) ∧ a.length = i)) ([] : List (Ty × Ty)) ?_ (Tidy.refl _ _) ?_ ?_
  · exact ⟨rfl, rfl⟩
  · rintro i a hi hd ⟨hinv, ha⟩
    rw [show prs row dims a [] (c.ws.drop i) (bs.drop i) = some a from rfl] at hinv
    rw [hinv, Option.bind_some] at hE
    rw [hE]
    have hl := pc_liftR hW row dims c.x (bs.any id) hs.dims hs.x hp.shp hp.xshp hp.xrow
    cases hx : liftB row dims c.x (bs.any id) with
    | none =>
      rw [show lfV row dims c.x (bs.any id) = outT ⟨[], [], []⟩ 3 from by unfold lfV; rw [hx]] at hl
      unfold outT at hl
      refine s1 hW 4 0 [] 255 [(47, (bo (iLt (Int.ofNat i) (Int.ofNat (List.length (List.map Ty.enc (Con.gs c)))))))] ?_
      refine CG.condF (show (iLt (Int.ofNat i) (Int.ofNat (List.length (List.map Ty.enc (Con.gs c))))) = false from f_lt (by (try simp only [zz] at *) <;> omega)) (by kernel_rfl) ?_
      refine CG.exitL (by decide) ?_
      refine s1 hW 3 4 [] 90 [(79, (.agg [(so (Ty.elem (Con.x c))), (so (Ty.row (Con.x c))), (lo Lin.enc (Ty.dims (Con.x c)))])), (80, (.agg [(so row), (lo Lin.enc dims)])), (81, (bo (List.any bs id)))] ?_
      refine CG.pg (hl) rfl (by kernel_rfl) ?_
      refine s4 hW 10 0 [true] 11 [(7, (io 3)), (13, (.ptr 3 3 0))] [(3, (.cells [(so []), (so []), (.d (.list []))]))] ?_
      refine CG.ret (v' := (.tuple [(.d (.list [])), (io 3)])) (by kernel_rfl) ?_
      rfl
    | some u =>
      rw [show lfV row dims c.x (bs.any id) = outT u 0 from by unfold lfV; rw [hx]] at hl
      unfold outT at hl
      refine s1 hW 4 0 [] 255 [(47, (bo (iLt (Int.ofNat i) (Int.ofNat (List.length (List.map Ty.enc (Con.gs c)))))))] ?_
      refine CG.condF (show (iLt (Int.ofNat i) (Int.ofNat (List.length (List.map Ty.enc (Con.gs c))))) = false from f_lt (by (try simp only [zz] at *) <;> omega)) (by kernel_rfl) ?_
      refine CG.exitL (by decide) ?_
      refine s1 hW 3 4 [] 90 [(79, (.agg [(so (Ty.elem (Con.x c))), (so (Ty.row (Con.x c))), (lo Lin.enc (Ty.dims (Con.x c)))])), (80, (.agg [(so row), (lo Lin.enc dims)])), (81, (bo (List.any bs id)))] ?_
      refine CG.pg (hl) rfl (by kernel_rfl) ?_
      refine s4 hW 10 6 [false] 6 [(88, (.sl 2 (List.length a * 6) 0 (List.length a) 6)), (93, (.d (.list [[(.str (Ty.elem (Con.r c))), (.str (Ty.row (Con.r c))), (.list (List.map Lin.enc (Ty.dims (Con.r c)))), (.str (Ty.elem u)), (.str (Ty.row u)), (.list (List.map Lin.enc (Ty.dims u)))]])))] [(3, (.cells [(so (Ty.elem u)), (so (Ty.row u)), (lo Lin.enc (Ty.dims u))]))] ?_
      refine CG.apE encP a (((c.7, u)) :: []) 2 (fun _ => rfl) rfl (by kernel_rfl) (by kernel_rfl) (by (try simp only [zz] at *) <;> omega) ?_
      refine s1 hW 2 0 [] 2 [(6, (.sl 2 (List.length (a ++ [(Con.r c, u)]) * 6) 0 (List.length (a ++ [(Con.r c, u)])) 6))] ?_
      rotate_left
      refine CG.tidy (Tidy.frzE (sz := 6) encP (a ++ [(Con.r c, u)]) 2 6 (tm' := [(6, (.d (.list (List.map encP (a ++ [(Con.r c, u)]))))), (7, (io 0))]) (H' := [some (.cells (Con.cells c)), some (.cells [(so row), (lo Lin.enc dims)]), none, some (.cells [(so (Ty.elem u)), (so (Ty.row u)), (lo Lin.enc (Ty.dims u))])]) (fun _ => rfl) (by kernel_rfl) (by kernel_rfl) ⟨.inr rfl, ⟨.inr rfl, ⟨.inl rfl, ⟨.inr rfl, trivial⟩⟩⟩⟩ (by kernel_rfl) (by kernel_rfl)) ?_
      refine CG.ret (v' := (.tuple [(lo encP (a ++ [(Con.r c, u)])), (io 0)])) (by kernel_rfl) ?_
      rfl
  · rintro i a x r hd hx hlt ⟨hinv, ha⟩
    obtain ⟨w, hw⟩ : ∃ w, c.ws[i]? = some w := ⟨_, List.getElem?_eq_getElem (by omega)⟩
    obtain ⟨b, hb⟩ : ∃ b, bs[i]? = some b := ⟨_, List.getElem?_eq_getElem (by omega)⟩
    have hwm := List.mem_of_getElem? hw
    have hwd := hs.ws w hwm
    rw [drop_at hw, drop_at hb, prs] at hinv
    have hl := pc_liftR hW row dims w b hs.dims hwd hp.shp (hp.wshp w hwm) (hp.wrow w hwm)
    cases hlf : liftB row dims w b with
    | none =>
      rw [show lfV row dims w b = outT ⟨[], [], []⟩ 3 from by unfold lfV; rw [hlf]] at hl
      rw [hlf] at hinv
      unfold outT at hl
      refine s1 hW 4 0 [] 255 [(47, (bo (iLt (Int.ofNat i) (Int.ofNat (List.length (List.map Ty.enc (Con.gs c)))))))] ?_
      refine CG.condT (show (iLt (Int.ofNat i) (Int.ofNat (List.length (List.map Ty.enc (Con.gs c))))) = true from t_lt (by (try simp only [zz] at *) <;> omega)) (by kernel_rfl) ?_
      refine s1 hW 5 0 [] 255 [] ?_
      refine CG.drawW orders (by kernel_rfl) ?_
      refine AW.rk 3 [(51, (.ptr 0 18 9)), (52, (lo Ty.enc (Con.ws c))), (53, (no i))] [] (by kernel_rfl) ?_
      refine AW.idx (idx_map (enc := Ty.enc) hw) rfl (by kernel_rfl) (by kernel_rfl) (by kernel_rfl) rfl ?_
      refine AW.rk 4 [(55, (.agg [(so (Ty.elem w)), (so (Ty.row w)), (lo Lin.enc (Ty.dims w))])), (56, (.agg [(so row), (lo Lin.enc dims)])), (57, (lo encB bs)), (58, (no i))] [] (by kernel_rfl) ?_
      refine AW.idx (idx_map (enc := encB) hb) rfl (by kernel_rfl) (by kernel_rfl) (by kernel_rfl) rfl ?_
      refine AW.rk 1 [(60, (bo b))] [] (by kernel_rfl) ?_
      refine AW.pcG hl rfl (by kernel_rfl) (by kernel_rfl) ?_
      refine AW.rk 6 [(11, (.ptr 17 3 0)), (12, (io 3)), (50, (.tuple [(.agg [(so []), (so []), (.d (.list []))]), (io 3)])), (62, (.agg [(so []), (so []), (.d (.list []))])), (63, (io 3))] [(17, (.cells [(so []), (so []), (.d (.list []))]))] (by kernel_rfl) ?_
      refine AW.nil rfl ⟨by kernel_rfl, AW.fin (H2 := [some (.cells (Con.cells c)), some (.cells [(so row), (lo Lin.enc dims)]), some (rowE encP a)] ++ nn 14 ([some (.cells [(so []), (so []), (.d (.list []))])])) 18 [2, 3, 4, 6, 7, 8, 9, 10, 11, 12] (by kernel_rfl) rfl (by kernel_rfl) (by kernel_rfl) (by simp [nn, heapLt, boxLt_row, boxLt_cell, boxLt_cs, boxLt_nil, refsLtL, refsLt, Con.cells]) ?_⟩
      refine s1 hW 9 0 [true] 495 [(7, (io 3))] ?_
      refine CG.retL (v' := (.tuple [(.d (.list [])), (io 3)])) (by kernel_rfl) ?_
      rotate_left
      rw [hE, hinv]; rfl
    | some u =>
      rw [show lfV row dims w b = outT u 0 from by unfold lfV; rw [hlf]] at hl
      rw [hlf] at hinv
      unfold outT at hl
      refine s1 hW 4 0 [] 255 [(47, (bo (iLt (Int.ofNat i) (Int.ofNat (List.length (List.map Ty.enc (Con.gs c)))))))] ?_
      refine CG.condT (show (iLt (Int.ofNat i) (Int.ofNat (List.length (List.map Ty.enc (Con.gs c))))) = true from t_lt (by (try simp only [zz] at *) <;> omega)) (by kernel_rfl) ?_
      refine s1 hW 5 0 [] 255 [] ?_
      refine CG.drawW orders (by kernel_rfl) ?_
      refine AW.rk 3 [(51, (.ptr 0 18 9)), (52, (lo Ty.enc (Con.ws c))), (53, (no i))] [] (by kernel_rfl) ?_
      refine AW.idx (idx_map (enc := Ty.enc) hw) rfl (by kernel_rfl) (by kernel_rfl) (by kernel_rfl) rfl ?_
      refine AW.rk 4 [(55, (.agg [(so (Ty.elem w)), (so (Ty.row w)), (lo Lin.enc (Ty.dims w))])), (56, (.agg [(so row), (lo Lin.enc dims)])), (57, (lo encB bs)), (58, (no i))] [] (by kernel_rfl) ?_
      refine AW.idx (idx_map (enc := encB) hb) rfl (by kernel_rfl) (by kernel_rfl) (by kernel_rfl) rfl ?_
      refine AW.rk 1 [(60, (bo b))] [] (by kernel_rfl) ?_
      refine AW.pcG hl rfl (by kernel_rfl) (by kernel_rfl) ?_
      refine AW.rk 6 [(11, (.ptr 17 3 0)), (12, (io 0)), (50, (.tuple [(.agg [(so (Ty.elem u)), (so (Ty.row u)), (lo Lin.enc (Ty.dims u))]), (io 0)])), (62, (.agg [(so (Ty.elem u)), (so (Ty.row u)), (lo Lin.enc (Ty.dims u))])), (63, (io 0))] [(17, (.cells [(so (Ty.elem u)), (so (Ty.row u)), (lo Lin.enc (Ty.dims u))]))] (by kernel_rfl) ?_
      refine AW.nil rfl ⟨by kernel_rfl, AW.fin (H2 := [some (.cells (Con.cells c)), some (.cells [(so row), (lo Lin.enc dims)]), some (rowE encP a)] ++ nn 14 ([some (.cells [(so (Ty.elem u)), (so (Ty.row u)), (lo Lin.enc (Ty.dims u))])])) 18 [2, 3, 4, 6, 7, 8, 9, 10, 11, 12] (by kernel_rfl) rfl (by kernel_rfl) (by kernel_rfl) (by simp [nn, heapLt, boxLt_row, boxLt_cell, boxLt_cs, boxLt_nil, refsLtL, refsLt, Con.cells]) ?_⟩
      refine s1 hW 8 0 [false] 511 [] ?_
      refine CG.drawW orders (by kernel_rfl) ?_
      refine AW.rk 4 [(67, (.sl 2 (List.length a * 6) 0 (List.length a) 6)), (68, (.ptr 0 18 8)), (69, (lo Ty.enc (Con.gs c))), (70, (no i))] [] (by kernel_rfl) ?_
      refine AW.idx (idx_map (enc := Ty.enc) hx) rfl (by kernel_rfl) (by kernel_rfl) (by kernel_rfl) rfl ?_
      refine AW.rk 4 [(72, (.agg [(so (Ty.elem x)), (so (Ty.row x)), (lo Lin.enc (Ty.dims x))])), (73, (.agg [(so (Ty.elem u)), (so (Ty.row u)), (lo Lin.enc (Ty.dims u))])), (74, (.agg [(so (Ty.elem x)), (so (Ty.row x)), (lo Lin.enc (Ty.dims x)), (so (Ty.elem u)), (so (Ty.row u)), (lo Lin.enc (Ty.dims u))])), (75, (.sl 26 6 0 1 6))] [(26, (.cells [(so (Ty.elem x)), (so (Ty.row x)), (lo Lin.enc (Ty.dims x)), (so (Ty.elem u)), (so (Ty.row u)), (lo Lin.enc (Ty.dims u))]))] (by kernel_rfl) ?_
      rotate_left
      refine AW.appE1 encP a (x, u) (b := 2) (fun _ => rfl) rfl rfl (by kernel_rfl) (by kernel_rfl) (by kernel_rfl) (by kernel_rfl) (by omega) rfl ?_
      refine AW.rk 1 [(9, (.sl 2 (List.length (a ++ [(x, u)]) * 6) 0 (List.length (a ++ [(x, u)])) 6))] [] (by kernel_rfl) ?_
      refine AW.nil rfl ⟨by kernel_rfl, AW.fin (H2 := [some (.cells (Con.cells c)), some (.cells [(so row), (lo Lin.enc dims)]), some (rowE encP (a ++ [(x, u)]))] ++ nn 14 ([some (.cells [(so (Ty.elem u)), (so (Ty.row u)), (lo Lin.enc (Ty.dims u))])] ++ nn 8 ([some (.cells [(so (Ty.elem x)), (so (Ty.row x)), (lo Lin.enc (Ty.dims x)), (so (Ty.elem u)), (so (Ty.row u)), (lo Lin.enc (Ty.dims u))])]))) 27 [2, 3, 4, 6, 7, 8, 9, 10] (by kernel_rfl) rfl (by kernel_rfl) (by kernel_rfl) (by simp [nn, heapLt, boxLt_row, boxLt_cell, boxLt_cs, boxLt_nil, refsLtL, refsLt, Con.cells]) ?_⟩
      refine s3 hW 2 3 [] [(2, (lo encB bs)), (3, (.ptr 0 18 0)), (4, (.ptr 1 2 0)), (6, .nils), (7, (io 0)), (8, (bo (List.any bs id))), (9, (.sl 2 (List.length (a ++ [(x, u)]) * 6) 0 (List.length (a ++ [(x, u)])) 6)), (10, (io (wrapF IntKind.i64 (iAdd (Int.ofNat i) 1))))] ([some (.cells (Con.cells c)), some (.cells [(so row), (lo Lin.enc dims)]), some (rowE encP (a ++ [(x, u)]))] ++ nn 14 ([some (.cells [(so (Ty.elem u)), (so (Ty.row u)), (lo Lin.enc (Ty.dims u))])] ++ nn 8 ([some (.cells [(so (Ty.elem x)), (so (Ty.row x)), (lo Lin.enc (Ty.dims x)), (so (Ty.elem u)), (so (Ty.row u)), (lo Lin.enc (Ty.dims u))])]))) ?_
      refine CG.endL rfl ?_
      rw [wrapI (by omega)]
      rotate_left
      exact ⟨a ++ [(x, u)], ⟨hinv, by simp [ha]⟩, Tidy.trim 3 [2, 3, 4, 6, 7, 8, 9, 10] rfl rfl rfl rfl (by simp only [List.take_succ_cons, List.take_zero, heapLt, boxLt_row]; rfl)⟩
theorem pc_pairsR (hW : W0 W) (c : Con) (row : List UInt8) (dims : List Lin) (bs : List Bool) (hs : Okc c row dims bs) : PC P (gl W) 24 [.agg (Con.cells c), vS row dims, .d (.list (bs.map encB))] (pairsV c row dims bs) := by
  refine CG.start is24 ca24 rfl ?_
  have hbl := hs.bs
  have hgl := hs.sm.gl
  have hdl := hs.dims.1
  have k1 := pc_shpR hW row dims (by omega) (fun x hx => (hs.dims.2 x hx).1)
  have k2 := pc_shR hW row [] dims [] ⟨by omega, fun x hx => (hs.dims.2 x hx).1.1⟩ ⟨by simp, by simp⟩
  refine s4 hW 4 1 [] 4 [(3, (.ptr 0 18 0)), (4, (.ptr 1 2 0)), (6, .nils), (7, (io 0)), (15, (lo encB bs))] [(0, (.cells (Con.cells c))), (1, (.cells [(so row), (lo Lin.enc dims)]))] ?_
  refine CG.pg (pc_any1 hW bs hbl) rfl (by kernel_rfl) ?_
  refine s1 hW 4 1 [] 31 [(8, (bo (List.any bs id))), (17, (.agg (Con.cells c)))] ?_
  refine CG.pg (pc_conR hW c hs.sm) rfl (by kernel_rfl) ?_
  refine s1 hW 0 2 [] 63 [(20, (bo (!conB c)))] ?_
  refine sp (conB c) (fun q13 => ?_) (fun q13 => ?_)
  rw [q13]
  refine s1 hW 0 1 [] 127 [(21, (.agg [(so row), (lo Lin.enc dims)]))] ?_
  refine CG.pg (k1) rfl (by kernel_rfl) ?_
  refine s1 hW 0 3 [] 63 [(25, (bo (!shpB row dims)))] ?_
  refine sp (shpB row dims) (fun q14 => ?_) (fun q14 => ?_)
  rw [q14]
  refine s1 hW 0 8 [] 63 [(33, (bo (!iEq (Int.ofNat (List.length (List.map encB bs))) (Int.ofNat (List.length (List.map Ty.enc (Con.gs c)))))))] ?_
  refine spEqN (List.length (List.map encB bs)) (List.length (List.map Ty.enc (Con.gs c))) (fun q16 p16 => ?_) (fun q16 p16 => ?_) <;> simp only [zz] at p16
  rw [q16]
  refine s1 hW 0 3 [] 127 [(36, (bo (!List.any bs id)))] ?_
  refine sp (List.any bs id) (fun q17 => ?_) (fun q17 => ?_)
  rw [q17]
  refine s1 hW 13 0 [false] 63 [(9, .nils), (10, (io 0))] ?_
  rotate_left
  rw [q17]
  refine s1 hW 0 2 [] 255 [(37, (.agg [(so row), (lo Lin.enc dims)])), (38, (.agg [(so []), .nils]))] ?_
  refine CG.bG k2 rfl (by kernel_rfl) ?_
  refine s1 hW 2 0 [] 63 [(42, (bo (!shEq row dims [] [])))] ?_
  refine sp (shEq row dims [] []) (fun q18 => ?_) (fun q18 => ?_)
  refine CG.condF (b := (!shEq row dims [] [])) (by rw [q18]; rfl) (by kernel_rfl) ?_
  refine s1 hW 10 0 [] 63 [(9, .nils), (10, (io 0))] ?_
  rotate_left
  refine CG.condT (b := (!shEq row dims [] [])) (by rw [q18]; rfl) (by kernel_rfl) ?_
  refine s1 hW 3 0 [] 47 [(7, (io 1))] ?_
  refine CG.ret (v' := (.tuple [(.d (.list [])), (io 1)])) (by kernel_rfl) ?_
  rotate_left
  rw [q16]
  refine s1 hW 6 0 [true] 47 [(7, (io 1))] ?_
  refine CG.ret (v' := (.tuple [(.d (.list [])), (io 1)])) (by kernel_rfl) ?_
  rotate_left
  rw [q14]
  refine s1 hW 6 0 [true] 47 [(7, (io 1))] ?_
  refine CG.ret (v' := (.tuple [(.d (.list [])), (io 1)])) (by kernel_rfl) ?_
  rotate_left
  rw [q13]
  refine s1 hW 6 0 [true] 47 [(7, (io 1))] ?_
  refine CG.ret (v' := (.tuple [(.d (.list [])), (io 1)])) (by kernel_rfl) ?_
  rotate_left
  · have hp : Okp c row dims bs := okp_of (by assumption) (by assumption) (by omega)
    have hnb : badP c row dims bs = false := by
      have hl : bs.length = c.gs.length := hp.bsl
      simp [badP, *]
    rw [pairsV, hnb, cond_false]
    refine CG.keep rfl [2, 3, 4, 6, 7, 8, 9, 10] ?_
    refine CG.is [(2, (lo encB bs)), (3, (.ptr 0 18 0)), (4, (.ptr 1 2 0)), (6, .nils), (7, (io 0)), (8, (bo true)), (9, .nils), (10, (io 0))] ([some (.cells (Con.cells c)), some (.cells [(so row), (lo Lin.enc dims)])]) (by kernel_rfl) ?_
    have h4 := pr_loopR hW c row dims bs hs hp
    rw [show bs.any id = true by assumption] at h4
    exact h4
  · have hp : Okp c row dims bs := okp_of (by assumption) (by assumption) (by omega)
    have hnb : badP c row dims bs = false := by
      have hl : bs.length = c.gs.length := hp.bsl
      simp [badP, *]
    rw [pairsV, hnb, cond_false]
    refine CG.keep rfl [2, 3, 4, 6, 7, 8, 9, 10] ?_
    refine CG.is [(2, (lo encB bs)), (3, (.ptr 0 18 0)), (4, (.ptr 1 2 0)), (6, .nils), (7, (io 0)), (8, (bo false)), (9, .nils), (10, (io 0))] ([some (.cells (Con.cells c)), some (.cells [(so row), (lo Lin.enc dims)])]) (by kernel_rfl) ?_
    have h4 := pr_loopR hW c row dims bs hs hp
    rw [show bs.any id = false by assumption] at h4
    exact h4
  all_goals
    have hb : badP c row dims bs = true := by
      first
        | (simp [badP, *]; done)
        | (have hl2 : ¬ bs.length = c.gs.length := by omega
           simp [badP, *]; done)
    rw [pairsV, hb]; rfl
end Fw.Tz.Pg

/-
  What holds, by both sides.
-/
set_option linter.unusedSimpArgs false
set_option maxRecDepth 1000000
set_option maxHeartbeats 4000000
namespace Fw.Tz.Ph
open Go Go.Proofs Fw.X Fw.Tz Fw.Nu Fw.Tz.Sd Fw.Tz.Na Fw.Tz.El Fw.Tz.Va Fw.Tz.Vb Fw.Tz.Vc Fw.Tz.Vd Fw.Tz.Vf Fw.Tz.Vh Fw.Tz.Eq Fw.Tz.Ew Fw.Tz.Fg Fw.Tz.Pp Fw.Tz.Pa Fw.Tz.Pb Fw.Tz.Pc Fw.Tz.Pd Fw.Tz.Pg
variable {W : World}
def okP (p : Ty × Ty) : Prop := okL p.1.dims ∧ okL p.2.dims
def okPs (l : List (Ty × Ty)) : Prop := l.length < 1048576 ∧ ∀ p ∈ l, okP p
theorem okL_of {l : List Lin} (h : okD l) : okL l := ⟨by have := h.1; omega, fun x hx => (h.2 x hx).1.1⟩
theorem okL_app {a b : List Lin} (h1 : okD a) (h2 : okD b) : okL (a ++ b) := ⟨by have := h1.1; have := h2.1; simp; omega, fun x hx => by
  rcases List.mem_append.1 hx with hx | hx
  · exact (h1.2 x hx).1.1
  · exact (h2.2 x hx).1.1⟩
theorem prs_ok (row : List UInt8) (dims : List Lin) (hd : okD dims) : ∀ (gs ws : List Ty) (bs : List Bool) (acc l : List (Ty × Ty)), prs row dims acc gs ws bs = some l → (∀ p ∈ acc, okP p) → (∀ g ∈ gs, okL g.dims) → (∀ w ∈ ws, okD w.dims) → l.length ≤ acc.length + gs.length ∧ ∀ p ∈ l, okP p
  | [], _, _, acc, l, h, ha, _, _ => by
    simp only [prs, Option.some.injEq] at h
    subst h
    exact ⟨by simp, ha⟩
  | _ :: _, [], _, acc, l, h, ha, _, _ => by
    simp only [prs, Option.some.injEq] at h
    subst h
    exact ⟨by simp, ha⟩
  | _ :: _, _ :: _, [], acc, l, h, ha, _, _ => by
    simp only [prs, Option.some.injEq] at h
    subst h
    exact ⟨by simp, ha⟩
  | g :: gs, w :: ws, b :: bs, acc, l, h, ha, hg, hw => by
    rw [prs] at h
    cases hl : liftB row dims w b with
    | none => rw [hl] at h; cases h
    | some t =>
      rw [hl] at h
      have ht : okP (g, t) := by
        refine ⟨hg g List.mem_cons_self, ?_⟩
        rcases lift_some hl with ⟨_, _, rfl⟩ | ⟨_, rfl⟩
        · exact okL_app hd (hw w List.mem_cons_self)
        · exact okL_of (hw t List.mem_cons_self)
      obtain ⟨h1, h2⟩ := prs_ok row dims hd gs ws bs _ l h (fun p hp => by
        rcases List.mem_append.1 hp with hp | hp
        · exact ha p hp
        · rw [List.mem_singleton.1 hp]; exact ht) (fun g hg' => hg g (List.mem_cons_of_mem _ hg')) (fun w hw' => hw w (List.mem_cons_of_mem _ hw'))
      exact ⟨by simp at h1 ⊢; omega, h2⟩
theorem pairs_ok {c : Con} {row : List UInt8} {dims : List Lin} {bs : List Bool} (hs : Okc c row dims bs) (hle : c.gs.length ≤ 16) {l : List (Ty × Ty)} (h : pairsO c row dims bs = some l) : okPs l := by
  obtain ⟨h1, h2⟩ := prs_ok row dims hs.dims _ _ _ [] l h (by simp) (fun g hg => by
    rcases List.mem_append.1 hg with hg | hg
    · have := hs.sm.g g hg
      exact ⟨this.2.2.1, fun x hx => (this.2.2.2 x hx).1⟩
    · rw [List.mem_singleton.1 hg]
      have := hs.sm.r
      exact ⟨this.2.2.1, fun x hx => (this.2.2.2 x hx).1⟩) (fun w hw => by
    rcases List.mem_append.1 hw with hw | hw
    · exact hs.ws w hw
    · rw [List.mem_singleton.1 hw]; exact hs.x)
  exact ⟨by simp at h1; omega, h2⟩
def neP (p : Ty × Ty) : Bool := !eqP p
theorem any_neP (l : List (Ty × Ty)) : (!l.any neP) = l.all eqP := by
  induction l with
  | nil => rfl
  | cons a l ih => simp only [List.any_cons, List.all_cons, neP, Bool.not_or, Bool.not_not, ← ih]
abbrev vP (p : Ty × Ty) : V := .agg [.d (.str p.1.elem), .d (.str p.1.row), .d (.list (p.1.dims.map Lin.enc)), .d (.str p.2.elem), .d (.str p.2.row), .d (.list (p.2.dims.map Lin.enc))]
theorem pc_neP (hW : W0 W) (p : Ty × Ty) (hp : okP p) : PC P (gl W) 67 [vP p] (.d (.bool (neP p))) := by
  refine CG.start is67 ca67 rfl ?_
  refine s4 hW 4 4 [] 0 [(2, (bo false)), (4, (.agg [(so (Ty.elem (Prod.fst p))), (so (Ty.row (Prod.fst p))), (lo Lin.enc (Ty.dims (Prod.fst p)))])), (6, (.agg [(so (Ty.elem (Prod.snd p))), (so (Ty.row (Prod.snd p))), (lo Lin.enc (Ty.dims (Prod.snd p)))]))] [(0, (.cells [(so (Ty.elem (Prod.fst p))), (so (Ty.row (Prod.fst p))), (lo Lin.enc (Ty.dims (Prod.fst p))), (so (Ty.elem (Prod.snd p))), (so (Ty.row (Prod.snd p))), (lo Lin.enc (Ty.dims (Prod.snd p)))]))] ?_
  refine CG.pg (pc_tyE hW p.1 p.2 hp.1) rfl (by kernel_rfl) ?_
  refine s1 hW 2 0 [] 0 [(2, (bo (!tyEq (Prod.fst p) (Prod.snd p))))] ?_
  refine CG.ret (v' := (bo (!tyEq (Prod.fst p) (Prod.snd p)))) (by kernel_rfl) ?_
  rfl
theorem pc_neIdx (hW : W0 W) (l : List (Ty × Ty)) (hl : okPs l) : PC P (gl W) 122 [.d (.list (l.map encP)), .func 67 [] []] (fiV (l.findIdx? neP)) := by
  refine CG.start is122 ca122 rfl ?_
  have hll := hl.1
  refine s1 hW 8 0 [] 3 [(4, (io 0)), (7, (no (List.length (List.map encP l)))), (8, (io 0))] ?_
  rotate_left
  refine CG.loopL l (fun i u => [(0, (lo encP l)), (1, (.func 67 [] [])), (4, (io 0)), (7, (no (List.length (List.map encP l)))), (8, .d (.int .i64 (.ofNat i)))]) (fun i u => []) (fun i u r => (fiV (l.findIdx? neP) = fiV ((r.findIdx? neP).map (· + i)))) () ?_ (Tidy.refl _ _) ?_ ?_
  · cases l.findIdx? neP <;> rfl
  · intro i u hi hd hinv
    refine s1 hW 4 0 [] 23 [(9, (bo (iLt (Int.ofNat i) (Int.ofNat (List.length (List.map encP l))))))] ?_
    refine CG.condF (show (iLt (Int.ofNat i) (Int.ofNat (List.length (List.map encP l)))) = false from f_lt (by (try simp only [zz] at *) <;> omega)) (by kernel_rfl) ?_
    refine CG.exitL (by decide) ?_
    refine s1 hW 5 0 [] 0 [(4, (io (-1)))] ?_
    refine CG.ret (v' := (io (-1))) (by kernel_rfl) ?_
    rotate_left
    rw [hinv]; rfl
  · intro i u x r hdr hx hlt hinv
    have hxp := hl.2 x (List.mem_of_getElem? hx)
    refine s1 hW 4 0 [] 31 [(9, (bo (iLt (Int.ofNat i) (Int.ofNat (List.length (List.map encP l))))))] ?_
    refine CG.condT (show (iLt (Int.ofNat i) (Int.ofNat (List.length (List.map encP l)))) = true from t_lt (by (try simp only [zz] at *) <;> omega)) (by kernel_rfl) ?_
    refine s1 hW 8 3 [] 31 [(5, (no i)), (11, (.func 67 [] [])), (12, (lo encP l)), (13, (no i))] ?_
    refine CG.ix (idx_map (enc := encP) hx) rfl (by kernel_rfl) ?_
    refine s1 hW 0 1 [] 127 [(15, (.agg [(so (Ty.elem (Prod.fst x))), (so (Ty.row (Prod.fst x))), (lo Lin.enc (Ty.dims (Prod.fst x))), (so (Ty.elem (Prod.snd x))), (so (Ty.row (Prod.snd x))), (lo Lin.enc (Ty.dims (Prod.snd x)))]))] ?_
    refine CG.pcv (first := []) (cap := []) (pc_neP hW x hxp) rfl (by kernel_rfl) (by kernel_rfl) (by kernel_rfl) rfl ?_
    refine s1 hW 2 0 [] 319 [] ?_
    refine sp (neP x) (fun q15 => ?_) (fun q15 => ?_)
    refine CG.condT q15 (by kernel_rfl) ?_
    refine s1 hW 3 0 [] 51 [(4, (no i))] ?_
    refine CG.retL (v' := (no i)) (by kernel_rfl) ?_
    rotate_left
    refine CG.condF q15 (by kernel_rfl) ?_
    refine s3 hW 3 2 [] [(0, (lo encP l)), (1, (.func 67 [] [])), (4, (io 0)), (7, (no (List.length (List.map encP l)))), (8, (io (wrapF IntKind.i64 (iAdd (Int.ofNat i) 1))))] ([]) ?_
    refine CG.endL rfl ?_
    rw [wrapI (by omega)]
    rotate_left
    · rw [hinv, List.findIdx?_cons, show neP x = true by assumption]; simp [fiV]
    · refine ⟨(), ?_, Tidy.refl _ _⟩
      rw [hinv, List.findIdx?_cons, show neP x = false by assumption]
      cases r.findIdx? neP with
      | none => rfl
      | some j => simp only [cond_false, Option.map_some, fiV, if_false, Bool.false_eq_true]; rw [show j + 1 + i = j + (i + 1) by omega]
theorem pc_neAny (hW : W0 W) (l : List (Ty × Ty)) (hl : okPs l) : PC P (gl W) 66 [.d (.list (l.map encP)), .func 67 [] []] (.d (.bool (l.any neP))) := by
  refine CG.start is66 ca66 rfl ?_
  refine s1 hW 4 2 [] 0 [(4, (bo false)), (5, (lo encP l)), (6, (.func 67 [] []))] ?_
  refine CG.pg (pc_neIdx hW _ hl) rfl (by kernel_rfl) ?_
  rotate_left
  have : l.any neP = (l.findIdx? neP).isSome := by rw [List.findIdx?_isSome]
  rw [this]
  cases l.findIdx? neP with
  | none => refine s1 hW 2 0 [] 1 [] ?_
            refine CG.ret (v' := (bo false)) (by kernel_rfl) ?_
            rfl
  | some i => refine s1 hW 2 0 [] 0 [(4, (bo true))] ?_
              refine CG.ret (v' := (bo true)) (by kernel_rfl) ?_
              rfl
theorem pc_holds (hW : W0 W) (c : Con) (row : List UInt8) (dims : List Lin) (bs : List Bool) (hs : Okc c row dims bs) : PC P (gl W) 27 [.agg (Con.cells c), vS row dims, .d (.list (bs.map encB))] (.d (.bool (holdsB c row dims bs))) := by
  refine CG.start is27 ca27 rfl ?_
  have k := pc_pairs hW c row dims bs hs
  rw [pairsV] at k
  cases hb : badP c row dims bs with
  | true =>
    rw [hb, cond_true] at k
    unfold outP at k
    have hh : holdsB c row dims bs = false := by rw [holdsB, hb]; rfl
    rw [hh]
    refine s4 hW 4 3 [] 0 [(6, (bo false)), (10, (.agg (Con.cells c))), (11, (.agg [(so row), (lo Lin.enc dims)])), (12, (lo encB bs))] [(0, (.cells (Con.cells c))), (1, (.cells [(so row), (lo Lin.enc dims)]))] ?_
    refine CG.pg (k) rfl (by kernel_rfl) ?_
    refine s1 hW 5 0 [] 1 [] ?_
    refine CG.ret (v' := (bo false)) (by kernel_rfl) ?_
    with_reducible rfl
  | false =>
    have hle : c.gs.length ≤ 16 := by
      simp only [badP, Bool.or_eq_false_iff, Bool.not_eq_false', conB, Bool.and_eq_true, decide_eq_true_eq] at hb
      exact hb.1.1.1.1.1.1.1.1.2
    rw [hb, cond_false] at k
    cases hp : pairsO c row dims bs with
    | none =>
      rw [hp] at k
      unfold prV outP at k
      have hh : holdsB c row dims bs = false := by rw [holdsB, hb, hp]; rfl
      rw [hh]
      refine s4 hW 4 3 [] 0 [(6, (bo false)), (10, (.agg (Con.cells c))), (11, (.agg [(so row), (lo Lin.enc dims)])), (12, (lo encB bs))] [(0, (.cells (Con.cells c))), (1, (.cells [(so row), (lo Lin.enc dims)]))] ?_
      refine CG.pg (k) rfl (by kernel_rfl) ?_
      refine s1 hW 5 0 [] 1 [] ?_
      refine CG.ret (v' := (bo false)) (by kernel_rfl) ?_
      with_reducible rfl
    | some l =>
      rw [hp] at k
      unfold prV outP at k
      have hh : holdsB c row dims bs = !l.any neP := by rw [holdsB, hb, hp, any_neP]; rfl
      rw [hh]
      have h2 := pc_neAny hW l (pairs_ok hs hle hp)
      refine s4 hW 4 3 [] 0 [(6, (bo false)), (10, (.agg (Con.cells c))), (11, (.agg [(so row), (lo Lin.enc dims)])), (12, (lo encB bs))] [(0, (.cells (Con.cells c))), (1, (.cells [(so row), (lo Lin.enc dims)]))] ?_
      refine CG.pg (k) rfl (by kernel_rfl) ?_
      refine s1 hW 3 4 [] 1 [(18, (bo true)), (19, (lo encP l))] ?_
      refine CG.pg (h2) rfl (by kernel_rfl) ?_
      refine s1 hW 2 0 [] 0 [(6, (bo (!List.any l neP)))] ?_
      refine CG.ret (v' := (bo (!List.any l neP))) (by kernel_rfl) ?_
      with_reducible rfl
theorem pc_holdsR (hW : W0 W) (c : Con) (row : List UInt8) (dims : List Lin) (bs : List Bool) (hs : Okc c row dims bs) : PC P (gl W) 28 [.agg (Con.cells c), vS row dims, .d (.list (bs.map encB))] (.d (.bool (holdsB c row dims bs))) := by
  refine CG.start is28 ca28 rfl ?_
  have k := pc_pairsR hW c row dims bs hs
  rw [pairsV] at k
  cases hb : badP c row dims bs with
  | true =>
    rw [hb, cond_true] at k
    unfold outP at k
    have hh : holdsB c row dims bs = false := by rw [holdsB, hb]; rfl
    rw [hh]
    refine s4 hW 4 3 [] 0 [(6, (bo false)), (11, (.agg (Con.cells c))), (12, (.agg [(so row), (lo Lin.enc dims)])), (13, (lo encB bs))] [(0, (.cells (Con.cells c))), (1, (.cells [(so row), (lo Lin.enc dims)]))] ?_
    refine CG.pg (k) rfl (by kernel_rfl) ?_
    refine s1 hW 21 0 [false] 1 [] ?_
    refine CG.ret (v' := (bo false)) (by kernel_rfl) ?_
    with_reducible rfl
  | false =>
    have hle : c.gs.length ≤ 16 := by
      simp only [badP, Bool.or_eq_false_iff, Bool.not_eq_false', conB, Bool.and_eq_true, decide_eq_true_eq] at hb
      exact hb.1.1.1.1.1.1.1.1.2
    rw [hb, cond_false] at k
    cases hp : pairsO c row dims bs with
    | none =>
      rw [hp] at k
      unfold prV outP at k
      have hh : holdsB c row dims bs = false := by rw [holdsB, hb, hp]; rfl
      rw [hh]
      refine s4 hW 4 3 [] 0 [(6, (bo false)), (11, (.agg (Con.cells c))), (12, (.agg [(so row), (lo Lin.enc dims)])), (13, (lo encB bs))] [(0, (.cells (Con.cells c))), (1, (.cells [(so row), (lo Lin.enc dims)]))] ?_
      refine CG.pg (k) rfl (by kernel_rfl) ?_
      refine s1 hW 21 0 [false] 1 [] ?_
      refine CG.ret (v' := (bo false)) (by kernel_rfl) ?_
      with_reducible rfl
    | some l =>
      rw [hp] at k
      unfold prV outP at k
      have hh : holdsB c row dims bs = l.all eqP := by rw [holdsB, hb, hp]; rfl
      rw [hh]
      have hok := pairs_ok hs hle hp
      have hll := hok.1
      refine s4 hW 4 3 [] 0 [(6, (bo false)), (11, (.agg (Con.cells c))), (12, (.agg [(so row), (lo Lin.enc dims)])), (13, (lo encB bs))] [(0, (.cells (Con.cells c))), (1, (.cells [(so row), (lo Lin.enc dims)]))] ?_
      refine CG.pg (k) rfl (by kernel_rfl) ?_
      refine s1 hW 7 0 [] 1 [(7, (lo encP l)), (8, (io 0)), (9, (io 0))] ?_
      rotate_left
      refine CG.loopL l (fun i u => [(6, (bo false)), (7, (lo encP l)), (8, (io 0)), (9, .d (.int .i64 (.ofNat i)))]) (fun i u => [some (.cells (Con.cells c)), some (.cells [(so row), (lo Lin.enc dims)])]) (fun i u r => (l.all eqP = r.all eqP)) () ?_ (Tidy.refl _ _) ?_ ?_
      · rfl
      · intro i u hi hd hinv
        refine s1 hW 4 0 [] 15 [(20, (bo (iLt (Int.ofNat i) (Int.ofNat (List.length (List.map encP l))))))] ?_
        refine CG.condF (show (iLt (Int.ofNat i) (Int.ofNat (List.length (List.map encP l)))) = false from f_lt (by (try simp only [zz] at *) <;> omega)) (by kernel_rfl) ?_
        refine CG.exitL (by decide) ?_
        refine s1 hW 5 0 [] 0 [(6, (bo true))] ?_
        refine CG.ret (v' := (bo true)) (by kernel_rfl) ?_
        rotate_left
        rw [hinv]; rfl
      · intro i u x r hdr hx hlt hinv
        have hxp := hok.2 x (List.mem_of_getElem? hx)
        rw [List.all_cons] at hinv
        have h2 := pc_tyR hW x.1 x.2 hxp.1 hxp.2
        refine s1 hW 4 0 [] 15 [(20, (bo (iLt (Int.ofNat i) (Int.ofNat (List.length (List.map encP l))))))] ?_
        refine CG.condT (show (iLt (Int.ofNat i) (Int.ofNat (List.length (List.map encP l)))) = true from t_lt (by (try simp only [zz] at *) <;> omega)) (by kernel_rfl) ?_
        refine s1 hW 5 0 [] 15 [] ?_
        refine CG.drawA orders (by kernel_rfl) (by kernel_rfl) ?_
        refine AO.rd 2 [(23, (lo encP l)), (24, (no i))] (by kernel_rfl) ?_
        refine AO.idx (idx_map (enc := encP) hx) rfl (by kernel_rfl) (by kernel_rfl) (by kernel_rfl) rfl ?_
        refine AO.rd 4 [(26, (.cptr [(.str (Ty.elem (Prod.fst x))), (.str (Ty.row (Prod.fst x))), (.list (List.map Lin.enc (Ty.dims (Prod.fst x))))])), (27, (.agg [(so (Ty.elem (Prod.fst x))), (so (Ty.row (Prod.fst x))), (lo Lin.enc (Ty.dims (Prod.fst x)))])), (28, (lo encP l)), (29, (no i))] (by kernel_rfl) ?_
        refine AO.idx (idx_map (enc := encP) hx) rfl (by kernel_rfl) (by kernel_rfl) (by kernel_rfl) rfl ?_
        refine AO.rd 2 [(31, (.cptr [(.str (Ty.elem (Prod.snd x))), (.str (Ty.row (Prod.snd x))), (.list (List.map Lin.enc (Ty.dims (Prod.snd x))))])), (32, (.agg [(so (Ty.elem (Prod.snd x))), (so (Ty.row (Prod.snd x))), (lo Lin.enc (Ty.dims (Prod.snd x)))]))] (by kernel_rfl) ?_
        refine AO.pcG h2 rfl (by kernel_rfl) (by kernel_rfl) ?_
        refine AO.rd 1 [(34, (bo (!tyEq (Prod.fst x) (Prod.snd x))))] (by kernel_rfl) ?_
        refine AO.done [6, 7, 8, 9, 34] rfl rfl (by kernel_rfl) ?_
        refine s1 hW 1 0 [] 31 [] ?_
        refine sp (tyEq (Prod.fst x) (Prod.snd x)) (fun q26 => ?_) (fun q26 => ?_)
        refine CG.condF (b := (!tyEq (Prod.fst x) (Prod.snd x))) (by rw [q26]; rfl) (by kernel_rfl) ?_
        refine s3 hW 3 3 [] [(6, (bo false)), (7, (lo encP l)), (8, (io 0)), (9, (io (wrapF IntKind.i64 (iAdd (Int.ofNat i) 1))))] ([some (.cells (Con.cells c)), some (.cells [(so row), (lo Lin.enc dims)])]) ?_
        refine CG.endL rfl ?_
        rw [wrapI (by omega)]
        rotate_left
        refine CG.condT (b := (!tyEq (Prod.fst x) (Prod.snd x))) (by rw [q26]; rfl) (by kernel_rfl) ?_
        refine s1 hW 3 0 [] 15 [] ?_
        refine CG.retL (v' := (bo false)) (by kernel_rfl) ?_
        rotate_left
        · exact ⟨(), by rw [hinv, show eqP x = true by assumption]; rfl, Tidy.refl _ _⟩
        · rw [hinv, show eqP x = false by assumption]; rfl
end Fw.Tz.Ph

/-
  AgreePairs: the call returns true.
-/
set_option linter.unusedSimpArgs false
set_option maxRecDepth 1000000
set_option maxHeartbeats 4000000
namespace Fw.Tz.Lp
open Go Go.Proofs Fw.X Fw.Tz Fw.Nu Fw.Tz.Sd Fw.Tz.Na Fw.Tz.El Fw.Tz.Va Fw.Tz.Vb Fw.Tz.Vc Fw.Tz.Vd Fw.Tz.Vf Fw.Tz.Vh Fw.Tz.Eq Fw.Tz.Ew Fw.Tz.Fg Fw.Tz.Pp Fw.Tz.Pa Fw.Tz.Pb Fw.Tz.Pc Fw.Tz.Pd Fw.Tz.Pg Fw.Tz.Ph Fw.Tz.Ve
variable {W : World}
theorem fewS_okD {row : List UInt8} {dims : List Lin} (h : fewS row dims = true) : okD dims ∧ row.length < 1099511627776 := by
  have h1 := (fewS_sm h).1
  have h2 := (fewS_sm h).2.2
  simp only [fewS, Bool.and_eq_true, decide_eq_true_eq] at h
  exact ⟨⟨by omega, fun x hx => ⟨h1.2.2 x hx, h2 x hx⟩⟩, h1.1⟩
theorem fewT_okD {t : Ty} (h : fewT t = true) : okD t.dims := by
  simp only [fewT, Bool.and_eq_true] at h
  exact (fewS_okD h.2).1
theorem okc_of {c : Con} {row : List UInt8} {dims : List Lin} {bs : List Bool} (h : fewC c = true) (h2 : fewS row dims = true) (h3 : bs.length ≤ 18) : Okc c row dims bs := by
  obtain ⟨k1, k2, k3, k4, k5, k6, k7, k8, k9⟩ := fewC_all h
  exact ⟨(fewC_sm h).1, fun t ht => fewT_okD (k2 t ht), fewT_okD k6, (fewS_okD h2).2, (fewS_okD h2).1, by omega⟩
theorem pc_theirs (hW : W0 W) (l : List (Ty × Ty)) (hl : l.length < 1048576) : PC P (gl W) 26 [.d (.list (l.map encP))] (.d (.list (l.map encP))) := by
  refine CG.start is26 ca26 rfl ?_
  refine s1 hW 11 0 [] 0 [(2, .nils), (3, .nils), (6, (lo encP l)), (7, (no (List.length (List.map encP l)))), (8, (io 0))] ?_
  rotate_left
  refine CG.tidy (Tidy.nilS 3 6 (tm' := [(2, .nils), (3, .sl 0 0 0 0 6), (6, (lo encP l)), (7, (no (List.length (List.map encP l)))), (8, (io 0))]) (Nat.le_refl _) (by kernel_rfl) (by kernel_rfl)) ?_
  refine CG.isH ([some .nil]) (by kernel_rfl) ?_
  refine CG.is [(2, .nils), (3, .sl 0 (List.length ([] : List (Ty × Ty)) * 6) 0 (List.length ([] : List (Ty × Ty))) 6), (6, (lo encP l)), (7, (no (List.length (List.map encP l)))), (8, (io 0))] ([some (rowE encP ([] : List (Ty × Ty)))]) (by kernel_rfl) ?_
  refine CG.loopL l (fun i a => [(2, .nils), (3, .sl 0 (a.length * 6) 0 a.length 6), (6, (lo encP l)), (7, (no (List.length (List.map encP l)))), (8, .d (.int .i64 (.ofNat i)))]) (fun i a => [some (rowE encP a)]) (fun i a r => (a = l.take i)) ([] : List (Ty × Ty)) ?_ (Tidy.refl _ _) ?_ ?_
  · rfl
  · rintro i a hi hd rfl
    rw [show l.take i = l by rw [hi, List.take_length]]
    refine s1 hW 4 0 [] 23 [(9, (bo (iLt (Int.ofNat i) (Int.ofNat (List.length (List.map encP l))))))] ?_
    refine CG.condF (show (iLt (Int.ofNat i) (Int.ofNat (List.length (List.map encP l)))) = false from f_lt (by (try simp only [zz] at *) <;> omega)) (by kernel_rfl) ?_
    refine CG.exitL (by decide) ?_
    refine s1 hW 5 0 [] 0 [(2, (.sl 0 (List.length l * 6) 0 (List.length l) 6))] ?_
    rotate_left
    refine CG.tidy (Tidy.frzE (sz := 6) encP l 0 2 (tm' := [(2, (.d (.list (List.map encP l))))]) (H' := [none]) (fun _ => rfl) (by kernel_rfl) (by kernel_rfl) ⟨.inl rfl, trivial⟩ (by kernel_rfl) (by kernel_rfl)) ?_
    refine CG.ret (v' := (lo encP l)) (by kernel_rfl) ?_
    with_reducible rfl
  · rintro i a x r hdr hx hlt ha
    have hti : a.length = i := by rw [ha, List.length_take]; omega
    have htk : l.take (i + 1) = a ++ [x] := by rw [List.take_add_one, hx, ha]; rfl
    refine s1 hW 4 0 [] 31 [(9, (bo (iLt (Int.ofNat i) (Int.ofNat (List.length (List.map encP l))))))] ?_
    refine CG.condT (show (iLt (Int.ofNat i) (Int.ofNat (List.length (List.map encP l)))) = true from t_lt (by (try simp only [zz] at *) <;> omega)) (by kernel_rfl) ?_
    refine s1 hW 5 0 [] 31 [] ?_
    refine CG.reg ?_
    refine CG.ix (idx_map (enc := encP) hx) rfl (by kernel_rfl) ?_
    refine s4 hW 2 3 [] 31 [(12, (.sl 0 (List.length a * 6) 0 (List.length a) 6)), (14, (.d (.list [[(.str (Ty.elem (Prod.fst x))), (.str (Ty.row (Prod.fst x))), (.list (List.map Lin.enc (Ty.dims (Prod.fst x)))), (.str (Ty.elem (Prod.snd x))), (.str (Ty.row (Prod.snd x))), (.list (List.map Lin.enc (Ty.dims (Prod.snd x))))]])))] [(1, (.cells [(so (Ty.elem (Prod.fst x))), (so (Ty.row (Prod.fst x))), (lo Lin.enc (Ty.dims (Prod.fst x))), (so (Ty.elem (Prod.snd x))), (so (Ty.row (Prod.snd x))), (lo Lin.enc (Ty.dims (Prod.snd x)))]))] ?_
    refine CG.apE encP a (((Prod.fst x, Prod.snd x)) :: []) 0 (fun _ => rfl) rfl (by kernel_rfl) (by kernel_rfl) (by (try simp only [zz] at *) <;> omega) ?_
    refine s3 hW 3 2 [] [(2, .nils), (3, (.sl 0 (List.length (a ++ [(Prod.fst x, Prod.snd x)]) * 6) 0 (List.length (a ++ [(Prod.fst x, Prod.snd x)])) 6)), (6, (lo encP l)), (7, (no (List.length (List.map encP l)))), (8, (io (wrapF IntKind.i64 (iAdd (Int.ofNat i) 1))))] ([some (rowE encP (a ++ [(Prod.fst x, Prod.snd x)])), some (.cells [(so (Ty.elem (Prod.fst x))), (so (Ty.row (Prod.fst x))), (lo Lin.enc (Ty.dims (Prod.fst x))), (so (Ty.elem (Prod.snd x))), (so (Ty.row (Prod.snd x))), (lo Lin.enc (Ty.dims (Prod.snd x)))])]) ?_
    refine CG.endL rfl ?_
    rw [wrapI (by omega)]
    rotate_left
    exact ⟨a ++ [x], htk.symm, Tidy.trim 1 [2, 3, 6, 7, 8] rfl rfl rfl rfl (by simp only [List.take_succ_cons, List.take_zero, heapLt, boxLt_row]; rfl)⟩
theorem pc_samePairs (hW : W0 W) (l : List (Ty × Ty)) (hl : okPs l) : PC P (gl W) 25 [.d (.list (l.map encP)), .d (.list (l.map encP))] (.d (.bool true)) := by
  refine CG.start is25 ca25 rfl ?_
  have hll := hl.1
  refine s1 hW 7 0 [] 3 [(4, (bo false)), (10, (bo (!iEq (Int.ofNat (List.length (List.map encP l))) (Int.ofNat (List.length (List.map encP l))))))] ?_
  have q6 : (iEq (Int.ofNat (List.length (List.map encP l))) (Int.ofNat (List.length (List.map encP l)))) = true := t_eq (by (try simp only [zz] at *) <;> omega)
  refine CG.condF (b := (!iEq (Int.ofNat (List.length (List.map encP l))) (Int.ofNat (List.length (List.map encP l))))) (by rw [q6]; rfl) (by kernel_rfl) ?_
  refine s1 hW 7 0 [] 7 [(5, (io 0))] ?_
  rotate_left
  refine CG.loopL l (fun i u => [(0, (lo encP l)), (1, (lo encP l)), (4, (bo false)), (5, .d (.int .i64 (.ofNat i)))]) (fun i u => []) (fun i u r => (True)) () ?_ (Tidy.refl _ _) ?_ ?_
  · trivial
  · intro i u hi hd hinv
    refine s1 hW 4 0 [] 15 [(14, (bo (iLt (Int.ofNat i) (Int.ofNat (List.length (List.map encP l))))))] ?_
    refine CG.condF (show (iLt (Int.ofNat i) (Int.ofNat (List.length (List.map encP l)))) = false from f_lt (by (try simp only [zz] at *) <;> omega)) (by kernel_rfl) ?_
    refine CG.exitL (by decide) ?_
    refine s1 hW 5 0 [] 0 [(4, (bo true))] ?_
    refine CG.ret (v' := (bo true)) (by kernel_rfl) ?_
    with_reducible rfl
  · intro i u x r hdr hx hlt hinv
    have hxp := hl.2 x (List.mem_of_getElem? hx)
    have h1 := pc_tyR hW x.1 x.1 hxp.1 hxp.1
    have h2 := pc_tyR hW x.2 x.2 hxp.2 hxp.2
    rw [tyEq_self] at h1 h2
    refine s1 hW 4 0 [] 15 [(14, (bo (iLt (Int.ofNat i) (Int.ofNat (List.length (List.map encP l))))))] ?_
    refine CG.condT (show (iLt (Int.ofNat i) (Int.ofNat (List.length (List.map encP l)))) = true from t_lt (by (try simp only [zz] at *) <;> omega)) (by kernel_rfl) ?_
    refine s1 hW 5 0 [] 15 [] ?_
    refine CG.drawA orders (by kernel_rfl) (by kernel_rfl) ?_
    refine AO.rd 2 [(17, (lo encP l)), (18, (no i))] (by kernel_rfl) ?_
    refine AO.idx (idx_map (enc := encP) hx) rfl (by kernel_rfl) (by kernel_rfl) (by kernel_rfl) rfl ?_
    refine AO.rd 4 [(20, (.cptr [(.str (Ty.elem (Prod.fst x))), (.str (Ty.row (Prod.fst x))), (.list (List.map Lin.enc (Ty.dims (Prod.fst x))))])), (21, (.agg [(so (Ty.elem (Prod.fst x))), (so (Ty.row (Prod.fst x))), (lo Lin.enc (Ty.dims (Prod.fst x)))])), (22, (lo encP l)), (23, (no i))] (by kernel_rfl) ?_
    refine AO.idx (idx_map (enc := encP) hx) rfl (by kernel_rfl) (by kernel_rfl) (by kernel_rfl) rfl ?_
    refine AO.rd 2 [(25, (.cptr [(.str (Ty.elem (Prod.fst x))), (.str (Ty.row (Prod.fst x))), (.list (List.map Lin.enc (Ty.dims (Prod.fst x))))])), (26, (.agg [(so (Ty.elem (Prod.fst x))), (so (Ty.row (Prod.fst x))), (lo Lin.enc (Ty.dims (Prod.fst x)))]))] (by kernel_rfl) ?_
    refine AO.pcG h1 rfl (by kernel_rfl) (by kernel_rfl) ?_
    refine AO.rd 4 [(28, (bo false)), (29, (bo false)), (30, (lo encP l)), (31, (no i))] (by kernel_rfl) ?_
    refine AO.idx (idx_map (enc := encP) hx) rfl (by kernel_rfl) (by kernel_rfl) (by kernel_rfl) rfl ?_
    refine AO.rd 4 [(33, (.cptr [(.str (Ty.elem (Prod.snd x))), (.str (Ty.row (Prod.snd x))), (.list (List.map Lin.enc (Ty.dims (Prod.snd x))))])), (34, (.agg [(so (Ty.elem (Prod.snd x))), (so (Ty.row (Prod.snd x))), (lo Lin.enc (Ty.dims (Prod.snd x)))])), (35, (lo encP l)), (36, (no i))] (by kernel_rfl) ?_
    refine AO.idx (idx_map (enc := encP) hx) rfl (by kernel_rfl) (by kernel_rfl) (by kernel_rfl) rfl ?_
    refine AO.rd 2 [(38, (.cptr [(.str (Ty.elem (Prod.snd x))), (.str (Ty.row (Prod.snd x))), (.list (List.map Lin.enc (Ty.dims (Prod.snd x))))])), (39, (.agg [(so (Ty.elem (Prod.snd x))), (so (Ty.row (Prod.snd x))), (lo Lin.enc (Ty.dims (Prod.snd x)))]))] (by kernel_rfl) ?_
    refine AO.pcG h2 rfl (by kernel_rfl) (by kernel_rfl) ?_
    refine AO.rd 2 [(41, (bo false)), (42, (bo false))] (by kernel_rfl) ?_
    refine AO.done [0, 1, 4, 5, 42] rfl rfl (by kernel_rfl) ?_
    refine s3 hW 5 3 [false] [(0, (lo encP l)), (1, (lo encP l)), (4, (bo false)), (5, (io (wrapF IntKind.i64 (iAdd (Int.ofNat i) 1))))] ([]) ?_
    refine CG.endL rfl ?_
    rw [wrapI (by omega)]
    rotate_left
    exact ⟨(), trivial, Tidy.refl _ _⟩
theorem pairsV_cases {c : Con} {row : List UInt8} {dims : List Lin} {bs : List Bool} (hs : Okc c row dims bs) : ∃ l e, pairsV c row dims bs = outP l e ∧ okPs l := by
  unfold pairsV
  cases hb : badP c row dims bs with
  | true => exact ⟨[], 1, rfl, by simp [okPs]⟩
  | false =>
    have hle : c.gs.length ≤ 16 := by
      simp only [badP, Bool.or_eq_false_iff, Bool.not_eq_false', conB, Bool.and_eq_true, decide_eq_true_eq] at hb
      exact hb.1.1.1.1.1.1.1.1.2
    rw [cond_false]
    cases hp : pairsO c row dims bs with
    | none => exact ⟨[], 3, rfl, by simp [okPs]⟩
    | some l => exact ⟨l, 0, rfl, pairs_ok hs hle hp⟩
theorem law_pairs (hW : W0 W) (c : Con) (hs : Con.wd c) (row : List UInt8) (dims : List Lin) (hd : dims.length < 9223372036854775808 ∧ ∀ x ∈ dims, Lin.wd x) (bs : List Bool) (hb : bs.length < 9223372036854775808) : PC P (gl W) 4 [.agg (Con.cells c), vS row dims, .d (.list (bs.map encB))] (.d (.bool true)) := by
  refine CG.start is4 ca4 rfl ?_
  refine s4 hW 5 4 [] 4 [(3, (.ptr 0 18 0)), (4, (.ptr 1 2 0)), (6, (bo false)), (13, (bo false)), (14, (.agg (Con.cells c)))] [(0, (.cells (Con.cells c))), (1, (.cells [(so row), (lo Lin.enc dims)]))] ?_
  refine CG.pg (pc_few hW c hs) rfl (by kernel_rfl) ?_
  refine s1 hW 0 3 [] 15 [(18, (bo (!fewC c)))] ?_
  refine sp (fewC c) (fun q10 => ?_) (fun q10 => ?_)
  rw [q10]
  refine s1 hW 0 1 [] 31 [(19, (.agg [(so row), (lo Lin.enc dims)]))] ?_
  refine CG.pg (pc_fewS hW row dims hd.1 hd.2) rfl (by kernel_rfl) ?_
  refine s1 hW 0 3 [] 15 [(23, (bo (!fewS row dims)))] ?_
  refine sp (fewS row dims) (fun q11 => ?_) (fun q11 => ?_)
  rw [q11]
  refine s1 hW 2 0 [] 15 [(27, (bo (iLt 18 (Int.ofNat (List.length (List.map encB bs))))))] ?_
  refine spLtN 18 (List.length (List.map encB bs)) (fun q12 p12 => ?_) (fun q12 p12 => ?_) <;> simp only [zz] at p12
  refine CG.condT (show (iLt 18 (Int.ofNat (List.length (List.map encB bs)))) = true from t_lt (by (try simp only [zz] at *) <;> omega)) (by kernel_rfl) ?_
  refine s1 hW 3 0 [] 7 [(6, (bo true))] ?_
  refine CG.ret (v' := (bo true)) (by kernel_rfl) ?_
  with_reducible rfl
  refine CG.condF (show (iLt 18 (Int.ofNat (List.length (List.map encB bs)))) = false from f_lt (by (try simp only [zz] at *) <;> omega)) (by kernel_rfl) ?_
  refine s1 hW 3 3 [] 15 [(30, (.agg (Con.cells c))), (31, (.agg [(so row), (lo Lin.enc dims)])), (32, (lo encB bs))] ?_
  rotate_left
  rw [q11]
  refine s1 hW 6 0 [true] 7 [(6, (bo true))] ?_
  refine CG.ret (v' := (bo true)) (by kernel_rfl) ?_
  with_reducible rfl
  rw [q10]
  refine s1 hW 6 0 [true] 7 [(6, (bo true))] ?_
  refine CG.ret (v' := (bo true)) (by kernel_rfl) ?_
  with_reducible rfl
  have hok : Okc c row dims bs := okc_of (by assumption) (by assumption) (by omega)
  obtain ⟨l, e, hF, hl⟩ := pairsV_cases hok
  have h1 := pc_pairs hW c row dims bs hok
  have h2 := pc_pairsR hW c row dims bs hok
  have h3 := pc_holds hW c row dims bs hok
  have h4 := pc_holdsR hW c row dims bs hok
  have h5 := pc_theirs hW l hl.1
  have h6 := pc_samePairs hW l hl
  rw [hF] at h1 h2
  unfold outP at h1 h2
  have hq1 : (holdsB c row dims bs == holdsB c row dims bs) = true := beq_self_eq_true _
  have hq3 : (e == e) = true := beq_self_eq_true _
  have hq4 : iEq e e = true := t_eq rfl
  refine CG.pg (h1) rfl (by kernel_rfl) ?_
  refine s1 hW 3 3 [] 15 [(7, (lo encP l)), (8, (io e)), (37, (.agg (Con.cells c))), (38, (.agg [(so row), (lo Lin.enc dims)])), (39, (lo encB bs))] ?_
  refine CG.pg (h2) rfl (by kernel_rfl) ?_
  refine s1 hW 3 0 [] 63 [(9, (lo encP l)), (10, (io e))] ?_
  refine dg hW [(7, true), (18, true)] [(1, (lo encP l)), (3, (bo true)), (13, (bo (holdsB c row dims bs))), (17, (bo (holdsB c row dims bs)))] (tm' := [(6, (bo true))]) (H' := [some (.cells (Con.cells c)), some (.cells [(so row), (lo Lin.enc dims)])] ++ nn 21 ([])) (cs := [((e == e), true), ((holdsB c row dims bs == holdsB c row dims bs), true)]) (calls := [(26, [(lo encP l)], (lo encP l)), (25, [(lo encP l), (lo encP l)], (bo true)), (27, [(.agg (Con.cells c)), (.agg [(so row), (lo Lin.enc dims)]), (lo encB bs)], (bo (holdsB c row dims bs))), (28, [(.agg (Con.cells c)), (.agg [(so row), (lo Lin.enc dims)]), (lo encB bs)], (bo (holdsB c row dims bs)))]) (by kernel_rfl) ⟨hq3, ⟨hq1, trivial⟩⟩ ⟨h5, ⟨h6, ⟨h3, ⟨h4, trivial⟩⟩⟩⟩ ?_
  refine s1 hW 1 0 [] 1 [] ?_
  refine CG.ret (v' := (bo true)) (by kernel_rfl) ?_
  with_reducible rfl
end Fw.Tz.Lp
