/-
  Pairs, by the reference.
-/
import Derived.Test.YtgfgckimecpmlaaGreatDoorTl
import Derived.Test.YtgfgckimecpmlaaGreatDoorTd
import Derived.Test.YtgfgckimecpmlaaGreatDoorFg
import Derived.Test.YtgfgckimecpmlaaGreatDoorTe

set_option linter.unusedSimpArgs false
set_option maxRecDepth 1000000
set_option maxHeartbeats 4000000
namespace Fw.Tz.Pe
open Go Go.Proofs Fw.X Fw.Tz Fw.Nu Fw.Tz.Na Fw.Tz.El Fw.Tz.Va Fw.Tz.Vb Fw.Tz.Vc Fw.Tz.Vd Fw.Tz.Vf Fw.Tz.Vh Fw.Tz.Eq Fw.Tz.Ew Fw.Tz.Fg Fw.Tz.Pp Fw.Tz.Pa Fw.Tz.Pb Fw.Tz.Pc Fw.Tz.Pd
variable {W : World}
noncomputable def rk (W : World) (n : Nat) (c : IR) (ks : List Nat) (tm : List (Nat × V)) (H : Heap) : Option XR :=
  runP [16] (gl W) (callX W kt0 .e (rawX W kt0 .e 40)) (pcallX kt0 .e (rawX W kt0 .e 40)) n c ks tm H
noncomputable def rd (W : World) (ov : List (Nat × Bool)) (sp : List (Nat × V)) (n : Nat) (l : List IOper) (ks : List Nat) (tm : List (Nat × V)) (H : Heap) : Option (List V × Heap × List (Bool × Bool) × CallL) :=
  runDX [16] (gl W) (dcallOf (pcallX kt0 .e (rawX W kt0 .e 40)) (callX W kt0 .e (rawX W kt0 .e 40))) ov sp n l ks tm H
theorem dg (hW : W0 W) (ov : List (Nat × Bool)) (sp : List (Nat × V)) {n : Nat} {l : List IOper} {K : List Fr} {tm tm' : List (Nat × V)} {H H' : Heap} {cs : List (Bool × Bool)} {calls : CallL} {Q : Ex → St → Prop}
    (h : rd W ov sp n l (tm'.map Prod.fst) tm H = some (tm'.map Prod.snd, H', cs, calls)) (hcs : allEq cs) (hcl : allPC P (gl W) calls) (hq : CG P (gl W) (.out .normal) K n tm' H' Q) : CG P (gl W) (.code (.draw l)) K n tm H Q :=
  CG.drawX orders (dcallOf_ok (pcallX_ok hW (ex0) _ (rawX_ok hW (ex0) 40)) (callX_ok hW (ex0) _ (rawX_ok hW (ex0) 40))) ov sp h hcs hcl hq
noncomputable def rg (W : World) (n : Nat) (N j : Nat) (bs : List Bool) (cur : Cur) (K : List Fr) (ks : List Nat) (tm : List (Nat × V)) (H : Heap) : Option XR :=
  runG [16] (gl W) (callX W kt0 .e (rawX W kt0 .e 40)) (pcallX kt0 .e (rawX W kt0 .e 40)) n N j bs cur K ks tm H
theorem s2 (hW : W0 W) (N j : Nat) (bs : List Bool) (m : Nat) (nw : List (Nat × V)) (H' : Heap) {cur c' : Cur} {K K' : List Fr} {n : Nat} {tm : List (Nat × V)} {H : Heap} {Q : Ex → St → Prop} (hq : CG P (gl W) c' K' n (upd m nw tm) H' Q) (h1 : ctlJ N j bs cur K = some (c', K') := by rfl) (h2 : rg W n N j bs cur K ((upd m nw tm).map Prod.fst) tm H = some (.tuple ((upd m nw tm).map Prod.snd), H') := by kernel_rfl) : CG P (gl W) cur K n tm H Q :=
  CG.st orders (callX_ok hW (ex0) _ (rawX_ok hW (ex0) 40)) (pcallX_ok hW (ex0) _ (rawX_ok hW (ex0) 40)) N j bs h1 h2 hq
theorem s1 (hW : W0 W) (N j : Nat) (bs : List Bool) (m : Nat) (nw : List (Nat × V)) {cur c' : Cur} {K K' : List Fr} {n : Nat} {tm : List (Nat × V)} {H : Heap} {Q : Ex → St → Prop} (hq : CG P (gl W) c' K' n (upd m nw tm) H Q) (h1 : ctlJ N j bs cur K = some (c', K') := by rfl) (h2 : rg W n N j bs cur K ((upd m nw tm).map Prod.fst) tm H = some (.tuple ((upd m nw tm).map Prod.snd), H) := by kernel_rfl) : CG P (gl W) cur K n tm H Q := s2 hW N j bs m nw H hq h1 h2
theorem s4 (hW : W0 W) (N j : Nat) (bs : List Bool) (m : Nat) (nw : List (Nat × V)) (hd : List (Nat × Box)) {cur c' : Cur} {K K' : List Fr} {n : Nat} {tm : List (Nat × V)} {H : Heap} {Q : Ex → St → Prop} (hq : CG P (gl W) c' K' n (upd m nw tm) (hpu hd H) Q) (h1 : ctlJ N j bs cur K = some (c', K') := by rfl) (h2 : rg W n N j bs cur K ((upd m nw tm).map Prod.fst) tm H = some (.tuple ((upd m nw tm).map Prod.snd), hpu hd H) := by kernel_rfl) : CG P (gl W) cur K n tm H Q := s2 hW N j bs m nw (hpu hd H) hq h1 h2
theorem s3 (hW : W0 W) (N j : Nat) (bs : List Bool) (tm' : List (Nat × V)) (H' : Heap) {cur c' : Cur} {K K' : List Fr} {n : Nat} {tm : List (Nat × V)} {H : Heap} {Q : Ex → St → Prop} (hq : CG P (gl W) c' K' n tm' H' Q) (h1 : ctlJ N j bs cur K = some (c', K') := by rfl) (h2 : rg W n N j bs cur K (tm'.map Prod.fst) tm H = some (.tuple (tm'.map Prod.snd), H') := by kernel_rfl) : CG P (gl W) cur K n tm H Q :=
  CG.st orders (callX_ok hW (ex0) _ (rawX_ok hW (ex0) 40)) (pcallX_ok hW (ex0) _ (rawX_ok hW (ex0) 40)) N j bs h1 h2 hq
theorem pc_join (hW : W0 W) (row : List UInt8) (d1 d2 : List Lin) (h1 : d1.length < 1048576) (h2 : d2.length < 1048576) : PC P (gl W) 78 [.d (.str row), .d (.list (d1.map Lin.enc)), .d (.list (d2.map Lin.enc))] (if d1.length + d2.length ≤ 6 then outS row (d1 ++ d2) 0 else outS [] [] 3) := by
  refine CG.start is78 ca78 rfl ?_
  by_cases h6 : d1.length + d2.length ≤ 6
  · rw [if_pos h6]
    refine s4 hW 7 0 [] 7 [(6, (.ptr 0 2 0)), (7, (io 0)), (13, (bo (iLt 6 (wrapF IntKind.i64 (iAdd (Int.ofNat (List.length (List.map Lin.enc d1))) (Int.ofNat (List.length (List.map Lin.enc d2))))))))] [(0, (.cells [(so []), .nils]))] ?_
    rw [show wrapF .i64 (iAdd (Int.ofNat (List.length (List.map Lin.enc d1))) (Int.ofNat (List.length (List.map Lin.enc d2)))) = Int.ofNat (d1.length + d2.length) from by rw [wrapF_eq, iAdd_eq, IntKind.wrap_i64, List.length_map, List.length_map]; simp only [Int.ofNat_eq_natCast]; omega]
    refine CG.condF (show (iLt 6 (Int.ofNat (List.length d1 + List.length d2))) = false from f_lt (by (try simp only [zz] at *) <;> omega)) (by kernel_rfl) ?_
    refine s4 hW 3 3 [] 28 [(15, (so row)), (16, (.sl 1 0 0 0 2)), (17, (lo Lin.enc d1))] [(1, (.cells []))] ?_
    rotate_left
    refine CG.is [(2, (lo Lin.enc d2)), (6, (.ptr 0 2 0)), (7, (io 0)), (15, (so row)), (16, .sl 1 (List.length ([] : List Lin) * 2) 0 (List.length ([] : List Lin)) 2), (17, (lo Lin.enc d1))] ([some (.cells [(so []), .nils]), some (cellE Lin.enc ([] : List Lin))]) (by kernel_rfl) ?_
    refine CG.apC Lin.enc [] d1 1 (fun _ => rfl) rfl (by kernel_rfl) (sliceC_map (enc := Lin.enc) (fun _ => rfl) _ d1) (by (try simp only [zz] at *) <;> omega) ?_
    refine s1 hW 0 1 [] 78 [(19, (lo Lin.enc d2))] ?_
    refine CG.apC Lin.enc ([] ++ d1) d2 1 (fun _ => rfl) rfl (by kernel_rfl) (sliceC_map (enc := Lin.enc) (fun _ => rfl) _ d2) (by (try simp only [zz] at *) <;> omega) ?_
    refine CG.tidyO (Tidy.frzC (sz := 2) Lin.enc ([] ++ d1 ++ d2) 1 20 (tm' := [(6, (.ptr 0 2 0)), (7, (io 0)), (15, (so row)), (18, .any), (19, (lo Lin.enc d2)), (20, (.d (.list (List.map Lin.enc ([] ++ d1 ++ d2)))))]) (H' := [some (.cells [(so []), .nils]), none]) (fun _ => rfl) (by kernel_rfl) (by kernel_rfl) ⟨.inr rfl, ⟨.inl rfl, trivial⟩⟩ (by kernel_rfl) (by kernel_rfl)) ?_
    refine s4 hW 2 0 [] 3 [] [(0, (.cells [(so row), (lo Lin.enc ([] ++ d1 ++ d2))]))] ?_
    refine CG.ret (v' := (.tuple [(.agg [(so row), (lo Lin.enc ([] ++ d1 ++ d2))]), (io 0)])) (by kernel_rfl) ?_
    rfl
  · rw [if_neg h6]
    refine s4 hW 7 0 [] 7 [(6, (.ptr 0 2 0)), (7, (io 0)), (13, (bo (iLt 6 (wrapF IntKind.i64 (iAdd (Int.ofNat (List.length (List.map Lin.enc d1))) (Int.ofNat (List.length (List.map Lin.enc d2))))))))] [(0, (.cells [(so []), .nils]))] ?_
    rw [show wrapF .i64 (iAdd (Int.ofNat (List.length (List.map Lin.enc d1))) (Int.ofNat (List.length (List.map Lin.enc d2)))) = Int.ofNat (d1.length + d2.length) from by rw [wrapF_eq, iAdd_eq, IntKind.wrap_i64, List.length_map, List.length_map]; simp only [Int.ofNat_eq_natCast]; omega]
    refine CG.condT (show (iLt 6 (Int.ofNat (List.length d1 + List.length d2))) = true from t_lt (by (try simp only [zz] at *) <;> omega)) (by kernel_rfl) ?_
    refine s1 hW 3 0 [] 15 [(7, (io 3))] ?_
    refine CG.ret (v' := (.tuple [(.agg [(so []), (.d (.list []))]), (io 3)])) (by kernel_rfl) ?_
    rfl
theorem pc_catR (hW : W0 W) (r1 : List UInt8) (d1 d2 : List Lin) (h1 : okD d1) (h2 : okD d2) (v1 : shpB r1 d1 = true) (v2 : shpB [] d2 = true) : PC P (gl W) 121 [vS r1 d1, vS [] d2] (if d1.length + d2.length ≤ 6 then outS r1 (d1 ++ d2) 0 else outS [] [] 3) := by
  refine CG.start is121 ca121 rfl ?_
  have k1 := pc_shpR hW r1 d1 (by have := h1.1; omega) (fun x hx => (h1.2 x hx).1)
  have k2 := pc_shpR hW [] d2 (by have := h2.1; omega) (fun x hx => (h2.2 x hx).1)
  rw [v1] at k1
  rw [v2] at k2
  have k3 := pc_join hW r1 d1 d2 h1.1 h2.1
  by_cases h6 : d1.length + d2.length ≤ 6
  · rw [if_pos h6] at k3 ⊢
    unfold outS at k3
    refine s4 hW 6 1 [] 0 [(2, (.ptr 0 2 0)), (3, (.ptr 1 2 0)), (4, (.ptr 2 2 0)), (5, (io 0)), (7, (.agg [(so r1), (lo Lin.enc d1)]))] [(0, (.cells [(so r1), (lo Lin.enc d1)])), (1, (.cells [(so []), (lo Lin.enc d2)])), (2, (.cells [(so []), .nils]))] ?_
    refine CG.pg (k1) rfl (by kernel_rfl) ?_
    refine s1 hW 0 3 [] 15 [(10, (bo false)), (11, (.agg [(so []), (lo Lin.enc d2)]))] ?_
    refine CG.pg (k2) rfl (by kernel_rfl) ?_
    refine s1 hW 11 6 [false, false] 12 [(22, (so r1)), (24, (lo Lin.enc d1)), (26, (lo Lin.enc d2))] ?_
    refine CG.pg (k3) rfl (by kernel_rfl) ?_
    refine s4 hW 2 0 [] 3 [] [(2, (.cells [(so r1), (lo Lin.enc (d1 ++ d2))]))] ?_
    refine CG.ret (v' := (.tuple [(.agg [(so r1), (lo Lin.enc (d1 ++ d2))]), (io 0)])) (by kernel_rfl) ?_
    rfl
  · rw [if_neg h6] at k3 ⊢
    unfold outS at k3
    refine s4 hW 6 1 [] 0 [(2, (.ptr 0 2 0)), (3, (.ptr 1 2 0)), (4, (.ptr 2 2 0)), (5, (io 0)), (7, (.agg [(so r1), (lo Lin.enc d1)]))] [(0, (.cells [(so r1), (lo Lin.enc d1)])), (1, (.cells [(so []), (lo Lin.enc d2)])), (2, (.cells [(so []), .nils]))] ?_
    refine CG.pg (k1) rfl (by kernel_rfl) ?_
    refine s1 hW 0 3 [] 15 [(10, (bo false)), (11, (.agg [(so []), (lo Lin.enc d2)]))] ?_
    refine CG.pg (k2) rfl (by kernel_rfl) ?_
    refine s1 hW 11 6 [false, false] 12 [(22, (so r1)), (24, (lo Lin.enc d1)), (26, (lo Lin.enc d2))] ?_
    refine CG.pg (k3) rfl (by kernel_rfl) ?_
    refine s4 hW 2 0 [] 1 [(5, (io 3))] [(2, (.cells [(so []), (.d (.list []))]))] ?_
    refine CG.ret (v' := (.tuple [(.agg [(so []), (.d (.list []))]), (io 3)])) (by kernel_rfl) ?_
    rfl
def lfV (row : List UInt8) (dims : List Lin) (t : Ty) (b : Bool) : V := match liftB row dims t b with
  | none => outT ⟨[], [], []⟩ 3
  | some u => outT u 0
theorem pc_liftR (hW : W0 W) (row : List UInt8) (dims : List Lin) (t : Ty) (b : Bool) (h1 : okD dims) (h2 : okD t.dims) (v1 : shpB row dims = true) (v2 : shpB [] t.dims = true) (hw : t.row = []) : PC P (gl W) 64 [vT t, vS row dims, .d (.bool b)] (lfV row dims t b) := by
  refine CG.start is64 ca64 rfl ?_
  have k := pc_catR hW row dims t.dims h1 h2 v1 v2
  obtain ⟨te, tr, td⟩ := t
  simp only at hw
  subst hw
  cases b with
  | false => refine s4 hW 11 0 [true] 0 [(3, (.ptr 0 3 0)), (4, (.ptr 1 2 0)), (6, (.ptr 2 3 0)), (7, (io 0))] [(0, (.cells [(so (Ty.elem { elem := te, row := [], dims := td })), (so []), (lo Lin.enc (Ty.dims { elem := te, row := [], dims := td }))])), (1, (.cells [(so row), (lo Lin.enc dims)])), (2, (.cells [(so (Ty.elem { elem := te, row := [], dims := td })), (so []), (lo Lin.enc (Ty.dims { elem := te, row := [], dims := td }))]))] ?_
             refine CG.ret (v' := (.tuple [(.agg [(so (Ty.elem { elem := te, row := [], dims := td })), (so []), (lo Lin.enc (Ty.dims { elem := te, row := [], dims := td }))]), (io 0)])) (by kernel_rfl) ?_
             rfl
  | true =>
    by_cases h6 : dims.length + td.length ≤ 6
    · rw [if_pos h6] at k
      rw [show lfV row dims ⟨te, [], td⟩ true = outT ⟨te, row, dims ++ td⟩ 0 from by simp [lfV, liftB, h6]]
      unfold outS at k
      refine s4 hW 11 3 [false] 0 [(3, (.ptr 0 3 0)), (6, (.ptr 2 3 0)), (7, (io 0)), (14, (.agg [(so row), (lo Lin.enc dims)])), (16, (.agg [(so []), (lo Lin.enc (Ty.dims { elem := te, row := [], dims := td }))]))] [(0, (.cells [(so (Ty.elem { elem := te, row := [], dims := td })), (so []), (lo Lin.enc (Ty.dims { elem := te, row := [], dims := td }))])), (1, (.cells [(so row), (lo Lin.enc dims)])), (2, (.cells [(so []), (so []), .nils]))] ?_
      refine CG.pg (k) rfl (by kernel_rfl) ?_
      refine s4 hW 12 0 [false] 6 [] [(2, (.cells [(so (Ty.elem { elem := te, row := [], dims := td })), (so row), (lo Lin.enc (dims ++ Ty.dims { elem := te, row := [], dims := td }))])), (3, (.cells [(so row), (lo Lin.enc (dims ++ Ty.dims { elem := te, row := [], dims := td }))]))] ?_
      refine CG.ret (v' := (.tuple [(.agg [(so (Ty.elem { elem := te, row := [], dims := td })), (so row), (lo Lin.enc (dims ++ Ty.dims { elem := te, row := [], dims := td }))]), (io 0)])) (by kernel_rfl) ?_
      rfl
    · rw [if_neg h6] at k
      rw [show lfV row dims ⟨te, [], td⟩ true = outT ⟨[], [], []⟩ 3 from by simp [lfV, liftB, h6]]
      unfold outS at k
      refine s4 hW 11 3 [false] 0 [(3, (.ptr 0 3 0)), (6, (.ptr 2 3 0)), (7, (io 0)), (14, (.agg [(so row), (lo Lin.enc dims)])), (16, (.agg [(so []), (lo Lin.enc (Ty.dims { elem := te, row := [], dims := td }))]))] [(0, (.cells [(so (Ty.elem { elem := te, row := [], dims := td })), (so []), (lo Lin.enc (Ty.dims { elem := te, row := [], dims := td }))])), (1, (.cells [(so row), (lo Lin.enc dims)])), (2, (.cells [(so []), (so []), .nils]))] ?_
      refine CG.pg (k) rfl (by kernel_rfl) ?_
      refine s4 hW 10 0 [true] 3 [(7, (io 3)), (8, (.ptr 3 2 0))] [(3, (.cells [(so []), (.d (.list []))]))] ?_
      refine CG.ret (v' := (.tuple [(.agg [(so []), (so []), (.d (.list []))]), (io 3)])) (by kernel_rfl) ?_
      rfl
end Fw.Tz.Pe

/-
  Pairs, by the reference.
-/
namespace Fw.Tz.Pg
open Go Go.Proofs Fw.X Fw.Tz Fw.Nu Fw.Tz.Sd Fw.Tz.Na Fw.Tz.El Fw.Tz.Va Fw.Tz.Vb Fw.Tz.Vc Fw.Tz.Vd Fw.Tz.Vf Fw.Tz.Vh Fw.Tz.Eq Fw.Tz.Ew Fw.Tz.Fg Fw.Tz.Pp Fw.Tz.Pa Fw.Tz.Pb Fw.Tz.Pc Fw.Tz.Pd
variable {W : World}
open Fw.Tz.Pe (lfV pc_liftR)
end Fw.Tz.Pg

/-
  What holds, by both sides.
-/
namespace Fw.Tz.Ph
open Go Go.Proofs Fw.X Fw.Tz Fw.Nu Fw.Tz.Sd Fw.Tz.Na Fw.Tz.El Fw.Tz.Va Fw.Tz.Vb Fw.Tz.Vc Fw.Tz.Vd Fw.Tz.Vf Fw.Tz.Vh Fw.Tz.Eq Fw.Tz.Ew Fw.Tz.Fg Fw.Tz.Pp Fw.Tz.Pa Fw.Tz.Pb Fw.Tz.Pc Fw.Tz.Pd Fw.Tz.Pg
variable {W : World}
def okP (p : Ty × Ty) : Prop := okL p.1.dims ∧ okL p.2.dims
def okPs (l : List (Ty × Ty)) : Prop := l.length < 1048576 ∧ ∀ p ∈ l, okP p
theorem okL_of {l : List Lin} (h : okD l) : okL l := ⟨by have := h.1; omega, fun x hx => (h.2 x hx).1.1⟩
theorem okL_app {a b : List Lin} (h1 : okD a) (h2 : okD b) : okL (a ++ b) := ⟨by have := h1.1; have := h2.1; simp; omega, fun x hx => by
  rcases List.mem_append.1 hx with hx | hx
  · exact (h1.2 x hx).1.1
  · exact (h2.2 x hx).1.1⟩
theorem prs_ok (row : List UInt8) (dims : List Lin) (hd : okD dims) : ∀ (gs ws : List Ty) (bs : List Bool) (acc l : List (Ty × Ty)), prs row dims acc gs ws bs = some l → (∀ p ∈ acc, okP p) → (∀ g ∈ gs, okL g.dims) → (∀ w ∈ ws, okD w.dims) → l.length ≤ acc.length + gs.length ∧ ∀ p ∈ l, okP p
  | [], _, _, acc, l, h, ha, _, _ => by
    simp only [prs, Option.some.injEq] at h
    subst h
    exact ⟨by simp, ha⟩
  | _ :: _, [], _, acc, l, h, ha, _, _ => by
    simp only [prs, Option.some.injEq] at h
    subst h
    exact ⟨by simp, ha⟩
  | _ :: _, _ :: _, [], acc, l, h, ha, _, _ => by
    simp only [prs, Option.some.injEq] at h
    subst h
    exact ⟨by simp, ha⟩
  | g :: gs, w :: ws, b :: bs, acc, l, h, ha, hg, hw => by
    rw [prs] at h
    cases hl : liftB row dims w b with
    | none => rw [hl] at h; cases h
    | some t =>
      rw [hl] at h
      have ht : okP (g, t) := by
        refine ⟨hg g List.mem_cons_self, ?_⟩
        rcases lift_some hl with ⟨_, _, rfl⟩ | ⟨_, rfl⟩
        · exact okL_app hd (hw w List.mem_cons_self)
        · exact okL_of (hw t List.mem_cons_self)
      obtain ⟨h1, h2⟩ := prs_ok row dims hd gs ws bs _ l h (fun p hp => by
        rcases List.mem_append.1 hp with hp | hp
        · exact ha p hp
        · rw [List.mem_singleton.1 hp]; exact ht) (fun g hg' => hg g (List.mem_cons_of_mem _ hg')) (fun w hw' => hw w (List.mem_cons_of_mem _ hw'))
      exact ⟨by simp at h1 ⊢; omega, h2⟩
theorem pairs_ok {c : Con} {row : List UInt8} {dims : List Lin} {bs : List Bool} (hs : Okc c row dims bs) (hle : c.gs.length ≤ 16) {l : List (Ty × Ty)} (h : pairsO c row dims bs = some l) : okPs l := by
  obtain ⟨h1, h2⟩ := prs_ok row dims hs.dims _ _ _ [] l h (by simp) (fun g hg => by
    rcases List.mem_append.1 hg with hg | hg
    · have := hs.sm.g g hg
      exact ⟨this.2.2.1, fun x hx => (this.2.2.2 x hx).1⟩
    · rw [List.mem_singleton.1 hg]
      have := hs.sm.r
      exact ⟨this.2.2.1, fun x hx => (this.2.2.2 x hx).1⟩) (fun w hw => by
    rcases List.mem_append.1 hw with hw | hw
    · exact hs.ws w hw
    · rw [List.mem_singleton.1 hw]; exact hs.x)
  exact ⟨by simp at h1; omega, h2⟩
def neP (p : Ty × Ty) : Bool := !eqP p
theorem any_neP (l : List (Ty × Ty)) : (!l.any neP) = l.all eqP := by
  induction l with
  | nil => rfl
  | cons a l ih => simp only [List.any_cons, List.all_cons, neP, Bool.not_or, Bool.not_not, ← ih]
abbrev vP (p : Ty × Ty) : V := .agg [.d (.str p.1.elem), .d (.str p.1.row), .d (.list (p.1.dims.map Lin.enc)), .d (.str p.2.elem), .d (.str p.2.row), .d (.list (p.2.dims.map Lin.enc))]
theorem pc_neP (hW : W0 W) (p : Ty × Ty) (hp : okP p) : PC P (gl W) 67 [vP p] (.d (.bool (neP p))) := by
  refine CG.start is67 ca67 rfl ?_
  refine s4 hW 4 4 [] 0 [(2, (bo false)), (4, (.agg [(so (Ty.elem (Prod.fst p))), (so (Ty.row (Prod.fst p))), (lo Lin.enc (Ty.dims (Prod.fst p)))])), (6, (.agg [(so (Ty.elem (Prod.snd p))), (so (Ty.row (Prod.snd p))), (lo Lin.enc (Ty.dims (Prod.snd p)))]))] [(0, (.cells [(so (Ty.elem (Prod.fst p))), (so (Ty.row (Prod.fst p))), (lo Lin.enc (Ty.dims (Prod.fst p))), (so (Ty.elem (Prod.snd p))), (so (Ty.row (Prod.snd p))), (lo Lin.enc (Ty.dims (Prod.snd p)))]))] ?_
  refine CG.pg (pc_tyE hW p.1 p.2 hp.1) rfl (by kernel_rfl) ?_
  refine s1 hW 2 0 [] 0 [(2, (bo (!tyEq (Prod.fst p) (Prod.snd p))))] ?_
  refine CG.ret (v' := (bo (!tyEq (Prod.fst p) (Prod.snd p)))) (by kernel_rfl) ?_
  rfl
theorem pc_neIdx (hW : W0 W) (l : List (Ty × Ty)) (hl : okPs l) : PC P (gl W) 122 [.d (.list (l.map encP)), .func 67 [] []] (fiV (l.findIdx? neP)) := by
  refine CG.start is122 ca122 rfl ?_
  have hll := hl.1
  refine s1 hW 8 0 [] 3 [(4, (io 0)), (7, (no (List.length (List.map encP l)))), (8, (io 0))] ?_
  rotate_left
  refine CG.loopL l (fun i u => [(0, (lo encP l)), (1, (.func 67 [] [])), (4, (io 0)), (7, (no (List.length (List.map encP l)))), (8, .d (.int .i64 (.ofNat i)))]) (fun i u => []) (fun i u r => (fiV (l.findIdx? neP) = fiV ((r.findIdx? neP).map (· + i)))) () ?_ (Tidy.refl _ _) ?_ ?_
  · cases l.findIdx? neP <;> rfl
  · intro i u hi hd hinv
    refine s1 hW 4 0 [] 23 [(9, (bo (iLt (Int.ofNat i) (Int.ofNat (List.length (List.map encP l))))))] ?_
    refine CG.condF (show (iLt (Int.ofNat i) (Int.ofNat (List.length (List.map encP l)))) = false from f_lt (by (try simp only [zz] at *) <;> omega)) (by kernel_rfl) ?_
    refine CG.exitL (by decide) ?_
    refine s1 hW 5 0 [] 0 [(4, (io (-1)))] ?_
    refine CG.ret (v' := (io (-1))) (by kernel_rfl) ?_
    rotate_left
    rw [hinv]; rfl
  · intro i u x r hdr hx hlt hinv
    have hxp := hl.2 x (List.mem_of_getElem? hx)
    refine s1 hW 4 0 [] 31 [(9, (bo (iLt (Int.ofNat i) (Int.ofNat (List.length (List.map encP l))))))] ?_
    refine CG.condT (show (iLt (Int.ofNat i) (Int.ofNat (List.length (List.map encP l)))) = true from t_lt (by (try simp only [zz] at *) <;> omega)) (by kernel_rfl) ?_
    refine s1 hW 8 3 [] 31 [(5, (no i)), (11, (.func 67 [] [])), (12, (lo encP l)), (13, (no i))] ?_
    refine CG.ix (idx_map (enc := encP) hx) rfl (by kernel_rfl) ?_
    refine s1 hW 0 1 [] 127 [(15, (.agg [(so (Ty.elem (Prod.fst x))), (so (Ty.row (Prod.fst x))), (lo Lin.enc (Ty.dims (Prod.fst x))), (so (Ty.elem (Prod.snd x))), (so (Ty.row (Prod.snd x))), (lo Lin.enc (Ty.dims (Prod.snd x)))]))] ?_
    refine CG.pcv (first := []) (cap := []) (pc_neP hW x hxp) rfl (by kernel_rfl) (by kernel_rfl) (by kernel_rfl) rfl ?_
    refine s1 hW 2 0 [] 319 [] ?_
    refine sp (neP x) (fun q15 => ?_) (fun q15 => ?_)
    refine CG.condT q15 (by kernel_rfl) ?_
    refine s1 hW 3 0 [] 51 [(4, (no i))] ?_
    refine CG.retL (v' := (no i)) (by kernel_rfl) ?_
    rotate_left
    refine CG.condF q15 (by kernel_rfl) ?_
    refine s3 hW 3 2 [] [(0, (lo encP l)), (1, (.func 67 [] [])), (4, (io 0)), (7, (no (List.length (List.map encP l)))), (8, (io (wrapF IntKind.i64 (iAdd (Int.ofNat i) 1))))] ([]) ?_
    refine CG.endL rfl ?_
    rw [wrapI (by omega)]
    rotate_left
    · rw [hinv, List.findIdx?_cons, show neP x = true by assumption]; simp [fiV]
    · refine ⟨(), ?_, Tidy.refl _ _⟩
      rw [hinv, List.findIdx?_cons, show neP x = false by assumption]
      cases r.findIdx? neP with
      | none => rfl
      | some j => simp only [cond_false, Option.map_some, fiV, if_false, Bool.false_eq_true]; rw [show j + 1 + i = j + (i + 1) by omega]
theorem pc_neAny (hW : W0 W) (l : List (Ty × Ty)) (hl : okPs l) : PC P (gl W) 66 [.d (.list (l.map encP)), .func 67 [] []] (.d (.bool (l.any neP))) := by
  refine CG.start is66 ca66 rfl ?_
  refine s1 hW 4 2 [] 0 [(4, (bo false)), (5, (lo encP l)), (6, (.func 67 [] []))] ?_
  refine CG.pg (pc_neIdx hW _ hl) rfl (by kernel_rfl) ?_
  rotate_left
  have : l.any neP = (l.findIdx? neP).isSome := by rw [List.findIdx?_isSome]
  rw [this]
  cases l.findIdx? neP with
  | none => refine s1 hW 2 0 [] 1 [] ?_
            refine CG.ret (v' := (bo false)) (by kernel_rfl) ?_
            rfl
  | some i => refine s1 hW 2 0 [] 0 [(4, (bo true))] ?_
              refine CG.ret (v' := (bo true)) (by kernel_rfl) ?_
              rfl
theorem pc_holds (hW : W0 W) (c : Con) (row : List UInt8) (dims : List Lin) (bs : List Bool) (hs : Okc c row dims bs) : PC P (gl W) 27 [.agg (Con.cells c), vS row dims, .d (.list (bs.map encB))] (.d (.bool (holdsB c row dims bs))) := by
  refine CG.start is27 ca27 rfl ?_
  have k := pc_pairs hW c row dims bs hs
  rw [pairsV] at k
  cases hb : badP c row dims bs with
  | true =>
    rw [hb, cond_true] at k
    unfold outP at k
    have hh : holdsB c row dims bs = false := by rw [holdsB, hb]; rfl
    rw [hh]
    refine s4 hW 4 3 [] 0 [(6, (bo false)), (10, (.agg (Con.cells c))), (11, (.agg [(so row), (lo Lin.enc dims)])), (12, (lo encB bs))] [(0, (.cells (Con.cells c))), (1, (.cells [(so row), (lo Lin.enc dims)]))] ?_
    refine CG.pg (k) rfl (by kernel_rfl) ?_
    refine s1 hW 5 0 [] 1 [] ?_
    refine CG.ret (v' := (bo false)) (by kernel_rfl) ?_
    with_reducible rfl
  | false =>
    have hle : c.gs.length ≤ 16 := by
      simp only [badP, Bool.or_eq_false_iff, Bool.not_eq_false', conB, Bool.and_eq_true, decide_eq_true_eq] at hb
      exact hb.1.1.1.1.1.1.1.1.2
    rw [hb, cond_false] at k
    cases hp : pairsO c row dims bs with
    | none =>
      rw [hp] at k
      unfold prV outP at k
      have hh : holdsB c row dims bs = false := by rw [holdsB, hb, hp]; rfl
      rw [hh]
      refine s4 hW 4 3 [] 0 [(6, (bo false)), (10, (.agg (Con.cells c))), (11, (.agg [(so row), (lo Lin.enc dims)])), (12, (lo encB bs))] [(0, (.cells (Con.cells c))), (1, (.cells [(so row), (lo Lin.enc dims)]))] ?_
      refine CG.pg (k) rfl (by kernel_rfl) ?_
      refine s1 hW 5 0 [] 1 [] ?_
      refine CG.ret (v' := (bo false)) (by kernel_rfl) ?_
      with_reducible rfl
    | some l =>
      rw [hp] at k
      unfold prV outP at k
      have hh : holdsB c row dims bs = !l.any neP := by rw [holdsB, hb, hp, any_neP]; rfl
      rw [hh]
      have h2 := pc_neAny hW l (pairs_ok hs hle hp)
      refine s4 hW 4 3 [] 0 [(6, (bo false)), (10, (.agg (Con.cells c))), (11, (.agg [(so row), (lo Lin.enc dims)])), (12, (lo encB bs))] [(0, (.cells (Con.cells c))), (1, (.cells [(so row), (lo Lin.enc dims)]))] ?_
      refine CG.pg (k) rfl (by kernel_rfl) ?_
      refine s1 hW 3 4 [] 1 [(18, (bo true)), (19, (lo encP l))] ?_
      refine CG.pg (h2) rfl (by kernel_rfl) ?_
      refine s1 hW 2 0 [] 0 [(6, (bo (!List.any l neP)))] ?_
      refine CG.ret (v' := (bo (!List.any l neP))) (by kernel_rfl) ?_
      with_reducible rfl
end Fw.Tz.Ph

/-
  AgreePairs: the call returns true.
-/
namespace Fw.Tz.Lp
open Go Go.Proofs Fw.X Fw.Tz Fw.Nu Fw.Tz.Sd Fw.Tz.Na Fw.Tz.El Fw.Tz.Va Fw.Tz.Vb Fw.Tz.Vc Fw.Tz.Vd Fw.Tz.Vf Fw.Tz.Vh Fw.Tz.Eq Fw.Tz.Ew Fw.Tz.Fg Fw.Tz.Pp Fw.Tz.Pa Fw.Tz.Pb Fw.Tz.Pc Fw.Tz.Pd Fw.Tz.Pg Fw.Tz.Ph Fw.Tz.Ve
variable {W : World}
theorem fewS_okD {row : List UInt8} {dims : List Lin} (h : fewS row dims = true) : okD dims ∧ row.length < 1099511627776 := by
  have h1 := (fewS_sm h).1
  have h2 := (fewS_sm h).2.2
  simp only [fewS, Bool.and_eq_true, decide_eq_true_eq] at h
  exact ⟨⟨by omega, fun x hx => ⟨h1.2.2 x hx, h2 x hx⟩⟩, h1.1⟩
theorem fewT_okD {t : Ty} (h : fewT t = true) : okD t.dims := by
  simp only [fewT, Bool.and_eq_true] at h
  exact (fewS_okD h.2).1
end Fw.Tz.Lp
