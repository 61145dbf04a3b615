/-
  The examples: they hold; their answer as a table.
-/
import Derived.Test.YtonjnjkdebpilaaGreatDoorTl
import Derived.Test.YtonjnjkdebpilaaGreatDoorFh

set_option linter.unusedSimpArgs false
set_option maxRecDepth 1000000
namespace Fw.Tz.Aw
open Go Go.Proofs Fw.X Fw.Tz Fw.Tz.Va Fw.Tz.Vb Fw.Tz.Ga Fw.Tz.Gq
variable {W : World}
theorem PC.nilA {f : FuncId} {args : List V} {v : V} (h : PC P (gl W) f (nilL args) v) : PC P (gl W) f args v :=
  ⟨h.1, fun g w vs hvs => h.2 g w vs (RVs.nilL hvs)⟩
def n1L : Lin := ⟨0, [⟨[110, 49], 1⟩]⟩
def s0 : Sch := ⟨[⟨[105, 110, 116], [], [n1L]⟩], ⟨[105, 110, 116], [], [n1L]⟩, []⟩
def ax : List V := [.d (.int .i64 1), .nils]
def ay : List V := [.d (.list [[.str [105, 110, 116], .str [], .list [[.int .i64 0, .list [[.str [110, 49], .int .i64 1]]]]]]), .d (.str [105, 110, 116]), .d (.str []), .d (.list [[.int .i64 0, .list [[.str [110, 49], .int .i64 1]]]]), .d (.list [])]
def t7 : List V → Option V
  | [.agg x, .agg y] => bif cellsEq x ax && cellsEq y ay then some (.d (.bool true)) else none
  | _ => none
theorem p7 (hW : W0 W) : PC P (gl W) 7 [.agg ax, .agg ay] (.d (.bool true)) := by
  have h := pc_plain hW ⟨1, []⟩ s0 ⟨by show 0 < _; omega, by simp⟩ ⟨by show 1 < _; omega, by show 0 < _; omega, ?_, ?_, by simp [s0]⟩ (by show 1 < _; omega)
  · rw [show plainP ⟨1, []⟩ s0 = true from by decide +kernel] at h
    exact PC.nilA h
  · intro t ht
    simp only [s0, List.mem_singleton] at ht
    subst ht
    exact ⟨by decide, by decide, by decide, fun x hx => by simp only [List.mem_singleton] at hx; subst hx; exact ⟨by decide, fun t ht => by simp only [n1L, List.mem_singleton] at ht; subst ht; decide⟩⟩
  · exact ⟨by decide, by decide, by decide, fun x hx => by simp only [s0, List.mem_singleton] at hx; subst hx; exact ⟨by decide, fun t ht => by simp only [n1L, List.mem_singleton] at ht; subst ht; decide⟩⟩
theorem t7_ok (hW : W0 W) : ∀ args r, t7 args = some r → PC P (gl W) 7 args r := by
  intro args r hr
  unfold t7 at hr
  split at hr
  · rename_i x y
    cases hc : (cellsEq x ax && cellsEq y ay) with
    | false => rw [hc] at hr; cases hr
    | true =>
      rw [hc] at hr
      simp only [cond_true, Option.some.injEq] at hr
      rw [Bool.and_eq_true] at hc
      rw [cellsEq_ok hc.1, cellsEq_ok hc.2, ← hr]
      exact p7 hW
  · cases hr
def sigA : V := .tuple [.agg [.d (.str [97, 100, 100]), .d (.bool true), .d (.bool false), .d (.bool false), .d (.list []), .d (.list [[.str [105, 110, 116], .str [], .list []], [.str [105, 110, 116], .str [], .list []]]), .d (.str [105, 110, 116]), .d (.str []), .d (.list []), .d (.list [])], .d (.bool true)]
theorem k69 (W : World) : pcT W 40 69 [.d (.str [97, 100, 100])] = some sigA := by kernel_rfl
def exT : Extra := .n (.n .e 7 t7 .e) 69 (tabS [([97, 100, 100], sigA)]) .e
theorem exT_ok (hW : W0 W) : ExOk P (gl W) exT := ⟨⟨trivial, t7_ok hW, trivial⟩, tabS_ok (fun q hq => by
  simp only [List.mem_singleton] at hq
  subst hq
  exact pcT_ok hW 40 _ _ _ (k69 W)), trivial⟩
theorem k4 (W : World) : pcX W kt0 exT 40 4 [] = some (.d (.bool true)) := by kernel_rfl
theorem awake33 (hW : W0 W) : PC P (gl W) 4 [] (.d (.bool true)) := pcX_ok hW (exT_ok hW) 40 _ _ _ (k4 W)
def exA : Extra := .n .e 4 (tab0 (.d (.bool true))) .e
theorem exA_ok (hW : W0 W) : ExOk P (gl W) exA := ⟨trivial, tab0_ok (awake33 hW), trivial⟩
end Fw.Tz.Aw

/-
  The law's call.
-/
set_option maxHeartbeats 4000000
namespace Fw.Tz.Gm
open Go Go.Proofs Fw.X Fw.Tz Fw.Nu Fw.Tz.Na Fw.Tz.El Fw.Tz.Va Fw.Tz.Vb Fw.Tz.Ga Fw.Tz.Gb Fw.Tz.Gp Fw.Tz.Gq Fw.Tz.Gr Fw.Tz.Gs Fw.Tz.Gl
variable {W : World}
def ktA : FT Nat := (.n (.n (.n (.n (.n (.n (.n .e 4 0 .e) 7 0 .e) 14 0 .e) 17 0 (.n .e 18 0 .e)) 40 0 (.n (.n .e 45 0 .e) 55 0 (.n .e 59 0 .e))) 60 0 (.n (.n (.n .e 69 0 .e) 75 0 (.n .e 77 0 .e)) 78 0 (.n (.n .e 79 0 .e) 97 0 (.n .e 137 0 .e)))) 138 0 (.n (.n (.n (.n (.n .e 139 0 .e) 140 0 .e) 143 0 (.n .e 145 0 .e)) 176 0 (.n (.n .e 179 0 .e) 186 0 (.n .e 195 0 .e))) 205 0 (.n (.n (.n .e 235 0 .e) 237 0 (.n .e 244 0 .e)) 247 0 (.n (.n .e 249 0 .e) 310 0 (.n .e 311 0 .e)))))
noncomputable def rk (W : World) (n : Nat) (c : IR) (ks : List Nat) (tm : List (Nat × V)) (H : Heap) : Option XR :=
  runP [] (gl W) (callX W ktA Aw.exA (rawX W ktA Aw.exA 40)) (pcallX ktA Aw.exA (rawX W ktA Aw.exA 40)) n c ks tm H
noncomputable def rd (W : World) (ov : List (Nat × Bool)) (sp : List (Nat × V)) (n : Nat) (l : List IOper) (ks : List Nat) (tm : List (Nat × V)) (H : Heap) : Option (List V × Heap × List (Bool × Bool) × CallL) :=
  runDX [] (gl W) (dcallOf (pcallX ktA Aw.exA (rawX W ktA Aw.exA 40)) (callX W ktA Aw.exA (rawX W ktA Aw.exA 40))) ov sp n l ks tm H
theorem dg (hW : W0 W) (ov : List (Nat × Bool)) (sp : List (Nat × V)) {n : Nat} {l : List IOper} {K : List Fr} {tm tm' : List (Nat × V)} {H H' : Heap} {cs : List (Bool × Bool)} {calls : CallL} {Q : Ex → St → Prop}
    (h : rd W ov sp n l (tm'.map Prod.fst) tm H = some (tm'.map Prod.snd, H', cs, calls)) (hcs : allEq cs) (hcl : allPC P (gl W) calls) (hq : CG P (gl W) (.out .normal) K n tm' H' Q) : CG P (gl W) (.code (.draw l)) K n tm H Q :=
  CG.drawX orders (dcallOf_ok (pcallX_ok hW ((Aw.exA_ok hW)) _ (rawX_ok hW ((Aw.exA_ok hW)) 40)) (callX_ok hW ((Aw.exA_ok hW)) _ (rawX_ok hW ((Aw.exA_ok hW)) 40))) ov sp h hcs hcl hq
noncomputable def rg (W : World) (n : Nat) (N j : Nat) (bs : List Bool) (cur : Cur) (K : List Fr) (ks : List Nat) (tm : List (Nat × V)) (H : Heap) : Option XR :=
  runG [] (gl W) (callX W ktA Aw.exA (rawX W ktA Aw.exA 40)) (pcallX ktA Aw.exA (rawX W ktA Aw.exA 40)) n N j bs cur K ks tm H
theorem s2 (hW : W0 W) (N j : Nat) (bs : List Bool) (m : Nat) (nw : List (Nat × V)) (H' : Heap) {cur c' : Cur} {K K' : List Fr} {n : Nat} {tm : List (Nat × V)} {H : Heap} {Q : Ex → St → Prop} (hq : CG P (gl W) c' K' n (upd m nw tm) H' Q) (h1 : ctlJ N j bs cur K = some (c', K') := by rfl) (h2 : rg W n N j bs cur K ((upd m nw tm).map Prod.fst) tm H = some (.tuple ((upd m nw tm).map Prod.snd), H') := by kernel_rfl) : CG P (gl W) cur K n tm H Q :=
  CG.st orders (callX_ok hW ((Aw.exA_ok hW)) _ (rawX_ok hW ((Aw.exA_ok hW)) 40)) (pcallX_ok hW ((Aw.exA_ok hW)) _ (rawX_ok hW ((Aw.exA_ok hW)) 40)) N j bs h1 h2 hq
theorem s1 (hW : W0 W) (N j : Nat) (bs : List Bool) (m : Nat) (nw : List (Nat × V)) {cur c' : Cur} {K K' : List Fr} {n : Nat} {tm : List (Nat × V)} {H : Heap} {Q : Ex → St → Prop} (hq : CG P (gl W) c' K' n (upd m nw tm) H Q) (h1 : ctlJ N j bs cur K = some (c', K') := by rfl) (h2 : rg W n N j bs cur K ((upd m nw tm).map Prod.fst) tm H = some (.tuple ((upd m nw tm).map Prod.snd), H) := by kernel_rfl) : CG P (gl W) cur K n tm H Q := s2 hW N j bs m nw H hq h1 h2
theorem s4 (hW : W0 W) (N j : Nat) (bs : List Bool) (m : Nat) (nw : List (Nat × V)) (hd : List (Nat × Box)) {cur c' : Cur} {K K' : List Fr} {n : Nat} {tm : List (Nat × V)} {H : Heap} {Q : Ex → St → Prop} (hq : CG P (gl W) c' K' n (upd m nw tm) (hpu hd H) Q) (h1 : ctlJ N j bs cur K = some (c', K') := by rfl) (h2 : rg W n N j bs cur K ((upd m nw tm).map Prod.fst) tm H = some (.tuple ((upd m nw tm).map Prod.snd), hpu hd H) := by kernel_rfl) : CG P (gl W) cur K n tm H Q := s2 hW N j bs m nw (hpu hd H) hq h1 h2
theorem s3 (hW : W0 W) (N j : Nat) (bs : List Bool) (tm' : List (Nat × V)) (H' : Heap) {cur c' : Cur} {K K' : List Fr} {n : Nat} {tm : List (Nat × V)} {H : Heap} {Q : Ex → St → Prop} (hq : CG P (gl W) c' K' n tm' H' Q) (h1 : ctlJ N j bs cur K = some (c', K') := by rfl) (h2 : rg W n N j bs cur K (tm'.map Prod.fst) tm H = some (.tuple (tm'.map Prod.snd), H') := by kernel_rfl) : CG P (gl W) cur K n tm H Q :=
  CG.st orders (callX_ok hW ((Aw.exA_ok hW)) _ (rawX_ok hW ((Aw.exA_ok hW)) 40)) (pcallX_ok hW ((Aw.exA_ok hW)) _ (rawX_ok hW ((Aw.exA_ok hW)) 40)) N j bs h1 h2 hq
theorem pc_law (hW : W0 W) (l : Lin) (s : Sch) (hl : Lin.sm l) (hs : Sch.sm s) (hp : s.ps.length < 1048576) : PC P (gl W) 3 [vL l, vSc s] (.d (.bool true)) := by
  refine CG.start is3 ca3 rfl ?_
  have h1 := pc_few14 hW l hl
  have h2 := pc_few hW s hs
  have h3 := pc_plain hW l s hl hs hp
  have h4 := pc_plainR hW l s hl hs
  have h5 := pc_grantP hW l s hl hs hp
  have h6 := pc_grantR hW l s hl hs
  rw [plain_eq] at h4
  rw [grant_eq] at h6
  generalize plainP l s = b1 at h3 h4
  generalize grantP l s = b2 at h5 h6
  generalize few14 l = b3 at h1
  generalize fewSch s = b4 at h2
  clear hl hs hp
  cases b3
  · refine s4 hW 12 1 [false] 0 [(2, (.ptr 0 2 0)), (3, (.ptr 1 5 0)), (4, (bo false)), (7, (.agg [(io (Lin.c l)), (lo Cf.enc (Lin.ts l))]))] [(0, (.cells [(io (Lin.c l)), (lo Cf.enc (Lin.ts l))])), (1, (.cells [(lo Ty.enc (Sch.ps s)), (so (Ty.elem (Sch.r s))), (so (Ty.row (Sch.r s))), (lo Lin.enc (Ty.dims (Sch.r s))), (lo Lin.enc (Sch.wh s))]))] ?_
    refine CG.pg (h1) rfl (by kernel_rfl) ?_
    refine s1 hW 6 0 [true] 3 [(4, (bo true))] ?_
    refine CG.ret (v' := (bo true)) (by kernel_rfl) ?_
    with_reducible rfl
  cases b4
  · refine s4 hW 12 1 [false] 0 [(2, (.ptr 0 2 0)), (3, (.ptr 1 5 0)), (4, (bo false)), (7, (.agg [(io (Lin.c l)), (lo Cf.enc (Lin.ts l))]))] [(0, (.cells [(io (Lin.c l)), (lo Cf.enc (Lin.ts l))])), (1, (.cells [(lo Ty.enc (Sch.ps s)), (so (Ty.elem (Sch.r s))), (so (Ty.row (Sch.r s))), (lo Lin.enc (Ty.dims (Sch.r s))), (lo Lin.enc (Sch.wh s))]))] ?_
    refine CG.pg (h1) rfl (by kernel_rfl) ?_
    refine s1 hW 0 3 [] 7 [(10, (bo false)), (11, (.agg [(lo Ty.enc (Sch.ps s)), (so (Ty.elem (Sch.r s))), (so (Ty.row (Sch.r s))), (lo Lin.enc (Ty.dims (Sch.r s))), (lo Lin.enc (Sch.wh s))]))] ?_
    refine CG.pg (h2) rfl (by kernel_rfl) ?_
    refine s1 hW 6 0 [true] 3 [(4, (bo true))] ?_
    refine CG.ret (v' := (bo true)) (by kernel_rfl) ?_
    with_reducible rfl
  cases b1 <;> cases b2
  · refine s4 hW 12 1 [false] 0 [(2, (.ptr 0 2 0)), (3, (.ptr 1 5 0)), (4, (bo false)), (7, (.agg [(io (Lin.c l)), (lo Cf.enc (Lin.ts l))]))] [(0, (.cells [(io (Lin.c l)), (lo Cf.enc (Lin.ts l))])), (1, (.cells [(lo Ty.enc (Sch.ps s)), (so (Ty.elem (Sch.r s))), (so (Ty.row (Sch.r s))), (lo Lin.enc (Ty.dims (Sch.r s))), (lo Lin.enc (Sch.wh s))]))] ?_
    refine CG.pg (h1) rfl (by kernel_rfl) ?_
    refine s1 hW 0 3 [] 7 [(10, (bo false)), (11, (.agg [(lo Ty.enc (Sch.ps s)), (so (Ty.elem (Sch.r s))), (so (Ty.row (Sch.r s))), (lo Lin.enc (Ty.dims (Sch.r s))), (lo Lin.enc (Sch.wh s))]))] ?_
    refine CG.pg (h2) rfl (by kernel_rfl) ?_
    refine s1 hW 6 0 [false] 7 [] ?_
    refine dg hW [] [(2, (bo false)), (5, (bo false)), (10, (bo false)), (13, (bo false))] (tm' := [(4, (bo true))]) (H' := [some (.cells [(io (Lin.c l)), (lo Cf.enc (Lin.ts l))]), some (.cells [(lo Ty.enc (Sch.ps s)), (so (Ty.elem (Sch.r s))), (so (Ty.row (Sch.r s))), (lo Lin.enc (Ty.dims (Sch.r s))), (lo Lin.enc (Sch.wh s))])] ++ nn 17 ([])) (cs := []) (calls := [(7, [(.agg [(io (Lin.c l)), (lo Cf.enc (Lin.ts l))]), (.agg [(lo Ty.enc (Sch.ps s)), (so (Ty.elem (Sch.r s))), (so (Ty.row (Sch.r s))), (lo Lin.enc (Ty.dims (Sch.r s))), (lo Lin.enc (Sch.wh s))])], (bo false)), (8, [(.agg [(io (Lin.c l)), (lo Cf.enc (Lin.ts l))]), (.agg [(lo Ty.enc (Sch.ps s)), (so (Ty.elem (Sch.r s))), (so (Ty.row (Sch.r s))), (lo Lin.enc (Ty.dims (Sch.r s))), (lo Lin.enc (Sch.wh s))])], (bo false)), (9, [(.agg [(io (Lin.c l)), (lo Cf.enc (Lin.ts l))]), (.agg [(lo Ty.enc (Sch.ps s)), (so (Ty.elem (Sch.r s))), (so (Ty.row (Sch.r s))), (lo Lin.enc (Ty.dims (Sch.r s))), (lo Lin.enc (Sch.wh s))])], (bo false)), (10, [(.agg [(io (Lin.c l)), (lo Cf.enc (Lin.ts l))]), (.agg [(lo Ty.enc (Sch.ps s)), (so (Ty.elem (Sch.r s))), (so (Ty.row (Sch.r s))), (lo Lin.enc (Ty.dims (Sch.r s))), (lo Lin.enc (Sch.wh s))])], (bo false))]) (by kernel_rfl) trivial ⟨h3, ⟨h4, ⟨h5, ⟨h6, trivial⟩⟩⟩⟩ ?_
    refine s1 hW 1 0 [] 1 [] ?_
    refine CG.ret (v' := (bo true)) (by kernel_rfl) ?_
    with_reducible rfl
  · refine s4 hW 12 1 [false] 0 [(2, (.ptr 0 2 0)), (3, (.ptr 1 5 0)), (4, (bo false)), (7, (.agg [(io (Lin.c l)), (lo Cf.enc (Lin.ts l))]))] [(0, (.cells [(io (Lin.c l)), (lo Cf.enc (Lin.ts l))])), (1, (.cells [(lo Ty.enc (Sch.ps s)), (so (Ty.elem (Sch.r s))), (so (Ty.row (Sch.r s))), (lo Lin.enc (Ty.dims (Sch.r s))), (lo Lin.enc (Sch.wh s))]))] ?_
    refine CG.pg (h1) rfl (by kernel_rfl) ?_
    refine s1 hW 0 3 [] 7 [(10, (bo false)), (11, (.agg [(lo Ty.enc (Sch.ps s)), (so (Ty.elem (Sch.r s))), (so (Ty.row (Sch.r s))), (lo Lin.enc (Ty.dims (Sch.r s))), (lo Lin.enc (Sch.wh s))]))] ?_
    refine CG.pg (h2) rfl (by kernel_rfl) ?_
    refine s1 hW 6 0 [false] 7 [] ?_
    refine dg hW [] [(2, (bo false)), (5, (bo false)), (10, (bo true)), (13, (bo true))] (tm' := [(4, (bo true))]) (H' := [some (.cells [(io (Lin.c l)), (lo Cf.enc (Lin.ts l))]), some (.cells [(lo Ty.enc (Sch.ps s)), (so (Ty.elem (Sch.r s))), (so (Ty.row (Sch.r s))), (lo Lin.enc (Ty.dims (Sch.r s))), (lo Lin.enc (Sch.wh s))])] ++ nn 17 ([])) (cs := []) (calls := [(7, [(.agg [(io (Lin.c l)), (lo Cf.enc (Lin.ts l))]), (.agg [(lo Ty.enc (Sch.ps s)), (so (Ty.elem (Sch.r s))), (so (Ty.row (Sch.r s))), (lo Lin.enc (Ty.dims (Sch.r s))), (lo Lin.enc (Sch.wh s))])], (bo false)), (8, [(.agg [(io (Lin.c l)), (lo Cf.enc (Lin.ts l))]), (.agg [(lo Ty.enc (Sch.ps s)), (so (Ty.elem (Sch.r s))), (so (Ty.row (Sch.r s))), (lo Lin.enc (Ty.dims (Sch.r s))), (lo Lin.enc (Sch.wh s))])], (bo false)), (9, [(.agg [(io (Lin.c l)), (lo Cf.enc (Lin.ts l))]), (.agg [(lo Ty.enc (Sch.ps s)), (so (Ty.elem (Sch.r s))), (so (Ty.row (Sch.r s))), (lo Lin.enc (Ty.dims (Sch.r s))), (lo Lin.enc (Sch.wh s))])], (bo true)), (10, [(.agg [(io (Lin.c l)), (lo Cf.enc (Lin.ts l))]), (.agg [(lo Ty.enc (Sch.ps s)), (so (Ty.elem (Sch.r s))), (so (Ty.row (Sch.r s))), (lo Lin.enc (Ty.dims (Sch.r s))), (lo Lin.enc (Sch.wh s))])], (bo true))]) (by kernel_rfl) trivial ⟨h3, ⟨h4, ⟨h5, ⟨h6, trivial⟩⟩⟩⟩ ?_
    refine s1 hW 1 0 [] 1 [] ?_
    refine CG.ret (v' := (bo true)) (by kernel_rfl) ?_
    with_reducible rfl
  · refine s4 hW 12 1 [false] 0 [(2, (.ptr 0 2 0)), (3, (.ptr 1 5 0)), (4, (bo false)), (7, (.agg [(io (Lin.c l)), (lo Cf.enc (Lin.ts l))]))] [(0, (.cells [(io (Lin.c l)), (lo Cf.enc (Lin.ts l))])), (1, (.cells [(lo Ty.enc (Sch.ps s)), (so (Ty.elem (Sch.r s))), (so (Ty.row (Sch.r s))), (lo Lin.enc (Ty.dims (Sch.r s))), (lo Lin.enc (Sch.wh s))]))] ?_
    refine CG.pg (h1) rfl (by kernel_rfl) ?_
    refine s1 hW 0 3 [] 7 [(10, (bo false)), (11, (.agg [(lo Ty.enc (Sch.ps s)), (so (Ty.elem (Sch.r s))), (so (Ty.row (Sch.r s))), (lo Lin.enc (Ty.dims (Sch.r s))), (lo Lin.enc (Sch.wh s))]))] ?_
    refine CG.pg (h2) rfl (by kernel_rfl) ?_
    refine s1 hW 6 0 [false] 7 [] ?_
    refine dg hW [] [(2, (bo true)), (5, (bo true)), (10, (bo false)), (13, (bo false))] (tm' := [(4, (bo true))]) (H' := [some (.cells [(io (Lin.c l)), (lo Cf.enc (Lin.ts l))]), some (.cells [(lo Ty.enc (Sch.ps s)), (so (Ty.elem (Sch.r s))), (so (Ty.row (Sch.r s))), (lo Lin.enc (Ty.dims (Sch.r s))), (lo Lin.enc (Sch.wh s))])] ++ nn 17 ([])) (cs := []) (calls := [(7, [(.agg [(io (Lin.c l)), (lo Cf.enc (Lin.ts l))]), (.agg [(lo Ty.enc (Sch.ps s)), (so (Ty.elem (Sch.r s))), (so (Ty.row (Sch.r s))), (lo Lin.enc (Ty.dims (Sch.r s))), (lo Lin.enc (Sch.wh s))])], (bo true)), (8, [(.agg [(io (Lin.c l)), (lo Cf.enc (Lin.ts l))]), (.agg [(lo Ty.enc (Sch.ps s)), (so (Ty.elem (Sch.r s))), (so (Ty.row (Sch.r s))), (lo Lin.enc (Ty.dims (Sch.r s))), (lo Lin.enc (Sch.wh s))])], (bo true)), (9, [(.agg [(io (Lin.c l)), (lo Cf.enc (Lin.ts l))]), (.agg [(lo Ty.enc (Sch.ps s)), (so (Ty.elem (Sch.r s))), (so (Ty.row (Sch.r s))), (lo Lin.enc (Ty.dims (Sch.r s))), (lo Lin.enc (Sch.wh s))])], (bo false)), (10, [(.agg [(io (Lin.c l)), (lo Cf.enc (Lin.ts l))]), (.agg [(lo Ty.enc (Sch.ps s)), (so (Ty.elem (Sch.r s))), (so (Ty.row (Sch.r s))), (lo Lin.enc (Ty.dims (Sch.r s))), (lo Lin.enc (Sch.wh s))])], (bo false))]) (by kernel_rfl) trivial ⟨h3, ⟨h4, ⟨h5, ⟨h6, trivial⟩⟩⟩⟩ ?_
    refine s1 hW 1 0 [] 1 [] ?_
    refine CG.ret (v' := (bo true)) (by kernel_rfl) ?_
    with_reducible rfl
  · refine s4 hW 12 1 [false] 0 [(2, (.ptr 0 2 0)), (3, (.ptr 1 5 0)), (4, (bo false)), (7, (.agg [(io (Lin.c l)), (lo Cf.enc (Lin.ts l))]))] [(0, (.cells [(io (Lin.c l)), (lo Cf.enc (Lin.ts l))])), (1, (.cells [(lo Ty.enc (Sch.ps s)), (so (Ty.elem (Sch.r s))), (so (Ty.row (Sch.r s))), (lo Lin.enc (Ty.dims (Sch.r s))), (lo Lin.enc (Sch.wh s))]))] ?_
    refine CG.pg (h1) rfl (by kernel_rfl) ?_
    refine s1 hW 0 3 [] 7 [(10, (bo false)), (11, (.agg [(lo Ty.enc (Sch.ps s)), (so (Ty.elem (Sch.r s))), (so (Ty.row (Sch.r s))), (lo Lin.enc (Ty.dims (Sch.r s))), (lo Lin.enc (Sch.wh s))]))] ?_
    refine CG.pg (h2) rfl (by kernel_rfl) ?_
    refine s1 hW 6 0 [false] 7 [] ?_
    refine dg hW [] [(2, (bo true)), (5, (bo true)), (10, (bo true)), (13, (bo true))] (tm' := [(4, (bo true))]) (H' := [some (.cells [(io (Lin.c l)), (lo Cf.enc (Lin.ts l))]), some (.cells [(lo Ty.enc (Sch.ps s)), (so (Ty.elem (Sch.r s))), (so (Ty.row (Sch.r s))), (lo Lin.enc (Ty.dims (Sch.r s))), (lo Lin.enc (Sch.wh s))])] ++ nn 17 ([])) (cs := []) (calls := [(7, [(.agg [(io (Lin.c l)), (lo Cf.enc (Lin.ts l))]), (.agg [(lo Ty.enc (Sch.ps s)), (so (Ty.elem (Sch.r s))), (so (Ty.row (Sch.r s))), (lo Lin.enc (Ty.dims (Sch.r s))), (lo Lin.enc (Sch.wh s))])], (bo true)), (8, [(.agg [(io (Lin.c l)), (lo Cf.enc (Lin.ts l))]), (.agg [(lo Ty.enc (Sch.ps s)), (so (Ty.elem (Sch.r s))), (so (Ty.row (Sch.r s))), (lo Lin.enc (Ty.dims (Sch.r s))), (lo Lin.enc (Sch.wh s))])], (bo true)), (9, [(.agg [(io (Lin.c l)), (lo Cf.enc (Lin.ts l))]), (.agg [(lo Ty.enc (Sch.ps s)), (so (Ty.elem (Sch.r s))), (so (Ty.row (Sch.r s))), (lo Lin.enc (Ty.dims (Sch.r s))), (lo Lin.enc (Sch.wh s))])], (bo true)), (10, [(.agg [(io (Lin.c l)), (lo Cf.enc (Lin.ts l))]), (.agg [(lo Ty.enc (Sch.ps s)), (so (Ty.elem (Sch.r s))), (so (Ty.row (Sch.r s))), (lo Lin.enc (Ty.dims (Sch.r s))), (lo Lin.enc (Sch.wh s))])], (bo true))]) (by kernel_rfl) trivial ⟨h3, ⟨h4, ⟨h5, ⟨h6, trivial⟩⟩⟩⟩ ?_
    refine s1 hW 1 0 [] 1 [] ?_
    refine CG.ret (v' := (bo true)) (by kernel_rfl) ?_
    with_reducible rfl
end Fw.Tz.Gm
