/-
  Cells without dimensions: the plain law of AgreeScalars.
-/
import Derived.Test.YtgfgckimecpmlaaGreatDoorTl
import Derived.Test.YtgfgckimecpmlaaGreatDoorTm
import Derived.Test.YtgfgckimecpmlaaGreatDoorTd
import Derived.Test.YtgfgckimecpmlaaGreatDoorFg
import Derived.Test.YtgfgckimecpmlaaGreatDoorTe

set_option linter.unusedSimpArgs false
set_option linter.unusedVariables false
set_option maxRecDepth 10000
namespace Fw.Tz.Ps
open Go Fw.Tz.Va Fw.Tz.Vb Fw.Tz.Vc Fw.Tz.Fg Fw.Tz.Eq Fw.Tz.Pp
def wantS : List Lin → List Ty → Option (List Lin)
  | w, [] => some w
  | w, t :: ts => if t.dims.length = 0 then wantS w ts else if 0 < w.length ∧ lEq linEq w t.dims = false then none else wantS t.dims ts
theorem wantS_keep : ∀ (ts : List Ty) (w v : List Lin), w ≠ [] → wantS w ts = some v → v = w ∧ ∀ t ∈ ts, t.dims = [] ∨ t.dims = w
  | [], w, v, _, h => by simp only [wantS, Option.some.injEq] at h; exact ⟨h.symm, by simp⟩
  | t :: ts, w, v, hw, h => by
    rw [wantS] at h
    split at h
    · rename_i ht
      obtain ⟨h1, h2⟩ := wantS_keep ts w v hw h
      refine ⟨h1, fun u hu => ?_⟩
      rcases List.mem_cons.1 hu with rfl | hu
      · exact .inl (List.length_eq_zero_iff.1 ht)
      · exact h2 u hu
    · rename_i ht
      split at h
      · cases h
      · rename_i hn
        have e : w = t.dims := by
          cases hq : lEq linEq w t.dims with
          | true => exact (lEq_iff linEq_iff _ _).1 hq
          | false => exact absurd ⟨List.length_pos_iff.2 hw, hq⟩ hn
        rw [← e] at h
        obtain ⟨h1, h2⟩ := wantS_keep ts w v hw h
        refine ⟨h1, fun u hu => ?_⟩
        rcases List.mem_cons.1 hu with rfl | hu
        · exact .inr e.symm
        · exact h2 u hu
theorem wantS_all : ∀ (ts : List Ty) (v : List Lin), wantS [] ts = some v → (∀ t ∈ ts, t.dims = [] ∨ t.dims = v) ∧ (v = [] ∨ ∃ t ∈ ts, t.dims = v)
  | [], v, h => by simp only [wantS, Option.some.injEq] at h; exact ⟨by simp, .inl h.symm⟩
  | t :: ts, v, h => by
    rw [wantS] at h
    split at h
    · rename_i ht
      obtain ⟨h1, h2⟩ := wantS_all ts v h
      refine ⟨fun u hu => ?_, ?_⟩
      · rcases List.mem_cons.1 hu with rfl | hu
        · exact .inl (List.length_eq_zero_iff.1 ht)
        · exact h1 u hu
      · rcases h2 with h2 | ⟨u, hu, e⟩
        · exact .inl h2
        · exact .inr ⟨u, List.mem_cons_of_mem _ hu, e⟩
    · rename_i ht
      rw [if_neg (by simp)] at h
      obtain ⟨h1, h2⟩ := wantS_keep ts t.dims v (fun e => ht (by rw [e]; rfl)) h
      subst h1
      refine ⟨fun u hu => ?_, .inr ⟨t, List.mem_cons_self, rfl⟩⟩
      rcases List.mem_cons.1 hu with rfl | hu
      · exact .inr rfl
      · exact h2 u hu
def cellOf (t : Ty) : Ty := ⟨t.elem, [], []⟩
def intB : List UInt8 := [105, 110, 116]
def conS (args : List Ty) (want : List Lin) : Con := ⟨2, .int .i64 0, ⟨[], [], []⟩, ⟨[], [], []⟩, args, args.map cellOf, ⟨intB, [], want⟩, ⟨intB, [], []⟩, ⟨0, []⟩⟩
theorem fits_want (want : List Lin) (hl : want.length ≤ 6) : ∀ (args : List Ty), (∀ t ∈ args, t.row = []) → (∀ t ∈ args, t.dims = [] ∨ t.dims = want) → want ≠ [] → fits [] want args (args.map cellOf) (args.map fun t => !t.dims.isEmpty)
  | [], _, _, _ => by simp [fits]
  | t :: ts, h1, h2, h3 => by
    simp only [List.map_cons, fits]
    refine ⟨?_, fits_want want hl ts (fun t h => h1 t (List.mem_cons_of_mem _ h)) (fun t h => h2 t (List.mem_cons_of_mem _ h)) h3⟩
    have e1 := h1 t List.mem_cons_self
    have e2 := h2 t List.mem_cons_self
    cases t with
    | mk e r d =>
    simp only at e1 e2
    subst e1
    rcases e2 with rfl | rfl
    · rfl
    · have : d.isEmpty = false := by cases d with
        | nil => exact absurd rfl h3
        | cons => rfl
      simp [liftB, cellOf, this, hl]
theorem fits_none' : ∀ (args : List Ty), (∀ t ∈ args, t.row = []) → (∀ t ∈ args, t.dims = []) → fits [] [] args (args.map cellOf) (args.map fun t => !t.dims.isEmpty)
  | [], _, _ => by simp [fits]
  | t :: ts, h1, h2 => by
    simp only [List.map_cons, fits]
    refine ⟨?_, fits_none' ts (fun t h => h1 t (List.mem_cons_of_mem _ h)) (fun t h => h2 t (List.mem_cons_of_mem _ h))⟩
    have e1 := h1 t List.mem_cons_self
    have e2 := h2 t List.mem_cons_self
    cases t with
    | mk e r d =>
    simp only at e1 e2
    subst e1; subst e2
    rfl
theorem any_signs (want : List Lin) (hw : want ≠ []) : ∀ (args : List Ty), (∃ t ∈ args, t.dims = want) → (args.map fun t => !t.dims.isEmpty).any id = true := fun args h => by
  obtain ⟨t, ht, e⟩ := h
  rw [List.any_eq_true]
  refine ⟨true, ?_, rfl⟩
  rw [List.mem_map]
  refine ⟨t, ht, ?_⟩
  rw [e]
  cases want with
  | nil => exact absurd rfl hw
  | cons => rfl
theorem scalars_plain {args : List Ty} {want : List Lin} (ha : args.length ≤ 6) (hv : ∀ t ∈ args, tyB t = true) (hr : ∀ t ∈ args, t.row = []) (hw : wantS [] args = some want) :
    knownB (conS args want) = true ∧ ∃ x, frm [] [] (conS args want).gs (conS args want).ws = some (want, x) ∧ holdsB (conS args want) [] want x = true ∧ x.length = args.length := by
  obtain ⟨h1, h2⟩ := wantS_all args want hw
  have hsh : shpB [] want = true := by
    rcases h2 with rfl | ⟨t, ht, e⟩
    · rfl
    · have := hv t ht
      simp only [tyB, Bool.and_eq_true] at this
      rw [hr t ht, e] at this
      exact this.2
  have hl6 : want.length ≤ 6 := by
    simp only [shpB, Bool.and_eq_true, decide_eq_true_eq] at hsh
    exact hsh.1.2
  have hint : fullB intB = true := by decide
  have hc : conB (conS args want) = true := by
    have a1 : (args.any badT) = false := by
      rw [List.any_eq_false]; intro t ht; simp [badT, hv t ht]
    have a2 : ((args.map cellOf).any badW) = false := by
      rw [List.any_eq_false]; intro t ht
      obtain ⟨u, hu, rfl⟩ := List.mem_map.1 ht
      have := hv u hu
      simp only [tyB, Bool.and_eq_true] at this
      have e : shpB ([] : List UInt8) [] = true := rfl
      simp [badW, badT, hasRow, cellOf, tyB, this.1, e, Fw.bytesEq_iff]
    have e : shpB ([] : List UInt8) [] = true := rfl
    simp only [conB, conS, a1, a2, tyB, hint, hsh, e, List.length_map]
    simp [hasRow, Fw.bytesEq_iff]
    exact decide_eq_true (by omega)
  have hk : knownB (conS args want) = true := by
    rw [knownB, hc]
    have : (args.any hasRow) = false := by
      rw [List.any_eq_false]; intro t ht; simp [hasRow, hr t ht, Fw.bytesEq_iff]
    simp only [conS, this]; rfl
  refine ⟨hk, ?_⟩
  by_cases hd : want = []
  · subst hd
    have hall : ∀ t ∈ args, t.dims = [] := fun t ht => by rcases h1 t ht with h | h <;> exact h
    have hx : holdsB (conS args []) [] [] (args.map fun t => !t.dims.isEmpty) = true := by
      rw [holdsB_iff hc]
      refine ⟨rfl, by simp [conS], fun _ => ⟨rfl, rfl⟩, fits_none' args hr hall, ?_⟩
      cases (args.map fun t => !t.dims.isEmpty).any id <;> rfl
    obtain ⟨a, x, e1, e2, e3⟩ := unique_plain hk hx
    have e4 := frm_fits0 [] args (args.map cellOf) (args.map fun t => !t.dims.isEmpty) [] (by simp) (by simp) (fits_none' args hr hall)
    have e5 : frm [] [] (conS args []).gs (conS args []).ws = some ([], args.map fun _ => false) := by simpa [conS] using e4
    rw [e5, Option.some.injEq, Prod.mk.injEq] at e1
    obtain ⟨rfl, rfl⟩ := e1
    exact ⟨_, e5, e2, by simp⟩
  · have hx : holdsB (conS args want) [] want (args.map fun t => !t.dims.isEmpty) = true := by
      rw [holdsB_iff hc]
      have ha : (args.map fun t => !t.dims.isEmpty).any id = true := any_signs want hd args (by rcases h2 with h | h; exact absurd h hd; exact h)
      refine ⟨hsh, by simp [conS], (fun h => by rw [ha] at h; cases h), fits_want want hl6 args hr h1 hd, ?_⟩
      rw [ha]
      simp [liftB, conS, hl6]
    obtain ⟨a, x, e1, e2, e3⟩ := unique_plain hk hx
    rcases e3 with e3 | ⟨rfl, _, rfl⟩
    · exact absurd e3 hd
    · exact ⟨_, e1, e2, by simp⟩
end Fw.Tz.Ps

/-
  AgreeScalars: the call returns true.
-/
set_option maxRecDepth 1000000
set_option maxHeartbeats 4000000
namespace Fw.Tz.Ls
open Go Go.Proofs Fw.X Fw.Tz Fw.Nu Fw.Tz.Na Fw.Tz.El Fw.Tz.Va Fw.Tz.Vb Fw.Tz.Vc Fw.Tz.Vd Fw.Tz.Vf Fw.Tz.Vh Fw.Tz.Eq Fw.Tz.Ew Fw.Tz.Fg Fw.Tz.Pp Fw.Tz.Ps Fw.Tz.Pa Fw.Tz.Pb Fw.Tz.Pc Fw.Tz.Pd Fw.Tz.Ph Fw.Tz.Lp Fw.Tz.Ve
variable {W : World}
noncomputable def rk (W : World) (n : Nat) (c : IR) (ks : List Nat) (tm : List (Nat × V)) (H : Heap) : Option XR :=
  runP [] (gl W) (callX W ktA exA (rawX W ktA exA 40)) (pcallX ktA exA (rawX W ktA exA 40)) n c ks tm H
noncomputable def rd (W : World) (ov : List (Nat × Bool)) (sp : List (Nat × V)) (n : Nat) (l : List IOper) (ks : List Nat) (tm : List (Nat × V)) (H : Heap) : Option (List V × Heap × List (Bool × Bool) × CallL) :=
  runDX [] (gl W) (dcallOf (pcallX ktA exA (rawX W ktA exA 40)) (callX W ktA exA (rawX W ktA exA 40))) ov sp n l ks tm H
theorem dg (hW : W0 W) (ov : List (Nat × Bool)) (sp : List (Nat × V)) {n : Nat} {l : List IOper} {K : List Fr} {tm tm' : List (Nat × V)} {H H' : Heap} {cs : List (Bool × Bool)} {calls : CallL} {Q : Ex → St → Prop}
    (h : rd W ov sp n l (tm'.map Prod.fst) tm H = some (tm'.map Prod.snd, H', cs, calls)) (hcs : allEq cs) (hcl : allPC P (gl W) calls) (hq : CG P (gl W) (.out .normal) K n tm' H' Q) : CG P (gl W) (.code (.draw l)) K n tm H Q :=
  CG.drawX orders (dcallOf_ok (pcallX_ok hW (exA_ok hW) _ (rawX_ok hW (exA_ok hW) 40)) (callX_ok hW (exA_ok hW) _ (rawX_ok hW (exA_ok hW) 40))) ov sp h hcs hcl hq
noncomputable def rg (W : World) (n : Nat) (N j : Nat) (bs : List Bool) (cur : Cur) (K : List Fr) (ks : List Nat) (tm : List (Nat × V)) (H : Heap) : Option XR :=
  runG [] (gl W) (callX W ktA exA (rawX W ktA exA 40)) (pcallX ktA exA (rawX W ktA exA 40)) n N j bs cur K ks tm H
theorem s2 (hW : W0 W) (N j : Nat) (bs : List Bool) (m : Nat) (nw : List (Nat × V)) (H' : Heap) {cur c' : Cur} {K K' : List Fr} {n : Nat} {tm : List (Nat × V)} {H : Heap} {Q : Ex → St → Prop} (hq : CG P (gl W) c' K' n (upd m nw tm) H' Q) (h1 : ctlJ N j bs cur K = some (c', K') := by rfl) (h2 : rg W n N j bs cur K ((upd m nw tm).map Prod.fst) tm H = some (.tuple ((upd m nw tm).map Prod.snd), H') := by kernel_rfl) : CG P (gl W) cur K n tm H Q :=
  CG.st orders (callX_ok hW (exA_ok hW) _ (rawX_ok hW (exA_ok hW) 40)) (pcallX_ok hW (exA_ok hW) _ (rawX_ok hW (exA_ok hW) 40)) N j bs h1 h2 hq
theorem s1 (hW : W0 W) (N j : Nat) (bs : List Bool) (m : Nat) (nw : List (Nat × V)) {cur c' : Cur} {K K' : List Fr} {n : Nat} {tm : List (Nat × V)} {H : Heap} {Q : Ex → St → Prop} (hq : CG P (gl W) c' K' n (upd m nw tm) H Q) (h1 : ctlJ N j bs cur K = some (c', K') := by rfl) (h2 : rg W n N j bs cur K ((upd m nw tm).map Prod.fst) tm H = some (.tuple ((upd m nw tm).map Prod.snd), H) := by kernel_rfl) : CG P (gl W) cur K n tm H Q := s2 hW N j bs m nw H hq h1 h2
theorem s4 (hW : W0 W) (N j : Nat) (bs : List Bool) (m : Nat) (nw : List (Nat × V)) (hd : List (Nat × Box)) {cur c' : Cur} {K K' : List Fr} {n : Nat} {tm : List (Nat × V)} {H : Heap} {Q : Ex → St → Prop} (hq : CG P (gl W) c' K' n (upd m nw tm) (hpu hd H) Q) (h1 : ctlJ N j bs cur K = some (c', K') := by rfl) (h2 : rg W n N j bs cur K ((upd m nw tm).map Prod.fst) tm H = some (.tuple ((upd m nw tm).map Prod.snd), hpu hd H) := by kernel_rfl) : CG P (gl W) cur K n tm H Q := s2 hW N j bs m nw (hpu hd H) hq h1 h2
theorem s3 (hW : W0 W) (N j : Nat) (bs : List Bool) (tm' : List (Nat × V)) (H' : Heap) {cur c' : Cur} {K K' : List Fr} {n : Nat} {tm : List (Nat × V)} {H : Heap} {Q : Ex → St → Prop} (hq : CG P (gl W) c' K' n tm' H' Q) (h1 : ctlJ N j bs cur K = some (c', K') := by rfl) (h2 : rg W n N j bs cur K (tm'.map Prod.fst) tm H = some (.tuple (tm'.map Prod.snd), H') := by kernel_rfl) : CG P (gl W) cur K n tm H Q :=
  CG.st orders (callX_ok hW (exA_ok hW) _ (rawX_ok hW (exA_ok hW) 40)) (pcallX_ok hW (exA_ok hW) _ (rawX_ok hW (exA_ok hW) 40)) N j bs h1 h2 hq
def sc9 (a b : V) : List V := [io 2, io 0, so [], so [], .d (.list []), so [], so [], .d (.list []), a, b, so [105, 110, 116], so [], .d (.list []), so [105, 110, 116], so [], .d (.list []), io 0, .d (.list [])]
def scC (n m : Nat) : List V := [io 2, io 0, so [], so [], .d (.list []), so [], so [], .d (.list []), .sl 2 (n * 3) 0 n 3, .sl 3 (m * 3) 0 m 3, so intB, so [], .d (.list []), so intB, so [], .d (.list []), io 0, .d (.list [])]
theorem law_scalars (hW : W0 W) (args : List Ty) (hl : args.length < 9223372036854775808) (ha : ∀ t ∈ args, Ty.wd t) : PC P (gl W) 7 [.d (.list (args.map Ty.enc))] (.d (.bool true)) := by
  refine CG.start is7 ca7 rfl ?_
  refine s1 hW 7 0 [] 1 [(2, (bo false)), (16, (bo (iLt 6 (Int.ofNat (List.length (List.map Ty.enc args))))))] ?_
  refine spLtN 6 (List.length (List.map Ty.enc args)) (fun q6 p6 => ?_) (fun q6 p6 => ?_) <;> simp only [zz] at p6
  refine CG.condT (show (iLt 6 (Int.ofNat (List.length (List.map Ty.enc args)))) = true from t_lt (by (try simp only [zz] at *) <;> omega)) (by kernel_rfl) ?_
  refine s1 hW 3 0 [] 1 [(2, (bo true))] ?_
  refine CG.ret (v' := (bo true)) (by kernel_rfl) ?_
  with_reducible rfl
  refine CG.condF (show (iLt 6 (Int.ofNat (List.length (List.map Ty.enc args)))) = false from f_lt (by (try simp only [zz] at *) <;> omega)) (by kernel_rfl) ?_
  refine s4 hW 13 0 [] 2 [(3, (.ptr 0 18 0)), (4, (.ptr 1 2 0)), (21, (lo Ty.enc args)), (22, (no (List.length (List.map Ty.enc args)))), (23, (io 0))] [(0, (.cells [(io 2), (io 0), (so []), (so []), .nils, (so []), (so []), .nils, .nils, .nils, (so [105, 110, 116]), (so []), .nils, (so [105, 110, 116]), (so []), .nils, (io 0), .nils])), (1, (.cells [(so []), .nils]))] ?_
  rotate_left
  refine CG.tidy (Tidy.nilCD 0 4 (cs := [(io 2), (io 0), (so []), (so []), .nils, (so []), (so []), .nils, .nils, .nils, (so [105, 110, 116]), (so []), .nils, (so [105, 110, 116]), (so []), .nils, (io 0), .nils]) (H' := [some (.cells [(io 2), (io 0), (so []), (so []), (.d (.list [])), (so []), (so []), .nils, .nils, .nils, (so [105, 110, 116]), (so []), .nils, (so [105, 110, 116]), (so []), .nils, (io 0), .nils]), some (.cells [(so []), .nils])]) (by kernel_rfl) (by kernel_rfl) (by kernel_rfl)) ?_
  refine CG.tidy (Tidy.nilCD 0 7 (cs := [(io 2), (io 0), (so []), (so []), (.d (.list [])), (so []), (so []), .nils, .nils, .nils, (so [105, 110, 116]), (so []), .nils, (so [105, 110, 116]), (so []), .nils, (io 0), .nils]) (H' := [some (.cells [(io 2), (io 0), (so []), (so []), (.d (.list [])), (so []), (so []), (.d (.list [])), .nils, .nils, (so [105, 110, 116]), (so []), .nils, (so [105, 110, 116]), (so []), .nils, (io 0), .nils]), some (.cells [(so []), .nils])]) (by kernel_rfl) (by kernel_rfl) (by kernel_rfl)) ?_
  refine CG.tidy (Tidy.nilCD 0 12 (cs := [(io 2), (io 0), (so []), (so []), (.d (.list [])), (so []), (so []), (.d (.list [])), .nils, .nils, (so [105, 110, 116]), (so []), .nils, (so [105, 110, 116]), (so []), .nils, (io 0), .nils]) (H' := [some (.cells [(io 2), (io 0), (so []), (so []), (.d (.list [])), (so []), (so []), (.d (.list [])), .nils, .nils, (so [105, 110, 116]), (so []), (.d (.list [])), (so [105, 110, 116]), (so []), .nils, (io 0), .nils]), some (.cells [(so []), .nils])]) (by kernel_rfl) (by kernel_rfl) (by kernel_rfl)) ?_
  refine CG.tidy (Tidy.nilCD 0 15 (cs := [(io 2), (io 0), (so []), (so []), (.d (.list [])), (so []), (so []), (.d (.list [])), .nils, .nils, (so [105, 110, 116]), (so []), (.d (.list [])), (so [105, 110, 116]), (so []), .nils, (io 0), .nils]) (H' := [some (.cells [(io 2), (io 0), (so []), (so []), (.d (.list [])), (so []), (so []), (.d (.list [])), .nils, .nils, (so [105, 110, 116]), (so []), (.d (.list [])), (so [105, 110, 116]), (so []), (.d (.list [])), (io 0), .nils]), some (.cells [(so []), .nils])]) (by kernel_rfl) (by kernel_rfl) (by kernel_rfl)) ?_
  refine CG.tidy (Tidy.nilCD 0 17 (cs := [(io 2), (io 0), (so []), (so []), (.d (.list [])), (so []), (so []), (.d (.list [])), .nils, .nils, (so [105, 110, 116]), (so []), (.d (.list [])), (so [105, 110, 116]), (so []), (.d (.list [])), (io 0), .nils]) (H' := [some (.cells [(io 2), (io 0), (so []), (so []), (.d (.list [])), (so []), (so []), (.d (.list [])), .nils, .nils, (so [105, 110, 116]), (so []), (.d (.list [])), (so [105, 110, 116]), (so []), (.d (.list [])), (io 0), (.d (.list []))]), some (.cells [(so []), .nils])]) (by kernel_rfl) (by kernel_rfl) (by kernel_rfl)) ?_
  refine CG.tidy (Tidy.nilCD 1 1 (cs := [(so []), .nils]) (H' := [some (.cells [(io 2), (io 0), (so []), (so []), (.d (.list [])), (so []), (so []), (.d (.list [])), .nils, .nils, (so [105, 110, 116]), (so []), (.d (.list [])), (so [105, 110, 116]), (so []), (.d (.list [])), (io 0), (.d (.list []))]), some (.cells [(so []), (.d (.list []))])]) (by kernel_rfl) (by kernel_rfl) (by kernel_rfl)) ?_
  refine CG.tidy (Tidy.nilC 0 8 3 (cs := [(io 2), (io 0), (so []), (so []), (.d (.list [])), (so []), (so []), (.d (.list [])), .nils, .nils, (so [105, 110, 116]), (so []), (.d (.list [])), (so [105, 110, 116]), (so []), (.d (.list [])), (io 0), (.d (.list []))]) (H' := [some (.cells [(io 2), (io 0), (so []), (so []), (.d (.list [])), (so []), (so []), (.d (.list [])), (.sl 2 0 0 0 3), .nils, (so [105, 110, 116]), (so []), (.d (.list [])), (so [105, 110, 116]), (so []), (.d (.list [])), (io 0), (.d (.list []))]), some (.cells [(so []), (.d (.list []))]), some .nil]) (Nat.le_refl _) (by kernel_rfl) (by kernel_rfl) (by kernel_rfl)) ?_
  refine CG.tidy (Tidy.nilC 0 9 3 (cs := [(io 2), (io 0), (so []), (so []), (.d (.list [])), (so []), (so []), (.d (.list [])), (.sl 2 0 0 0 3), .nils, (so [105, 110, 116]), (so []), (.d (.list [])), (so [105, 110, 116]), (so []), (.d (.list [])), (io 0), (.d (.list []))]) (H' := [some (.cells (sc9 (.sl 2 0 0 0 3) (.sl 3 0 0 0 3))), some (.cells [(so []), (.d (.list []))]), some .nil, some .nil]) (Nat.le_refl _) (by kernel_rfl) (by kernel_rfl) (by kernel_rfl)) ?_
  refine CG.is [(2, (bo false)), (3, (.ptr 0 18 0)), (4, (.ptr 1 2 0)), (21, (lo Ty.enc args)), (22, (no (List.length (List.map Ty.enc args)))), (23, (io 0))] ([some (.cells (sc9 (.sl 2 0 0 0 3) (.sl 3 0 0 0 3))), some (.cells [(so []), (.d (.list []))]), some (rowE Ty.enc ([] : List Ty)), some .nil]) (by kernel_rfl) ?_
  refine CG.is [(2, (bo false)), (3, (.ptr 0 18 0)), (4, (.ptr 1 2 0)), (21, (lo Ty.enc args)), (22, (no (List.length (List.map Ty.enc args)))), (23, (io 0))] ([some (.cells (sc9 (.sl 2 0 0 0 3) (.sl 3 0 0 0 3))), some (.cells [(so []), (.d (.list []))]), some (rowE Ty.enc []), some (rowE Ty.enc ([] : List Ty))]) (by kernel_rfl) ?_
  refine CG.loopL args (fun i a => [(2, (bo false)), (3, (.ptr 0 18 0)), (4, (.ptr 1 2 0)), (21, (lo Ty.enc args)), (22, (no (List.length (List.map Ty.enc args)))), (23, .d (.int .i64 (.ofNat i)))]) (fun i a => [some (.cells (scC a.1.length a.2.1.length)), some (.cells [so [], lo Lin.enc a.2.2]), some (rowE Ty.enc a.1), some (rowE Ty.enc a.2.1)]) (fun i a r => (a.1 = args.take i ∧ a.2.1 = (args.take i).map cellOf ∧ wantS [] args = wantS a.2.2 r ∧ (∀ t ∈ args.take i, fewT t = true ∧ tyB t = true ∧ t.row = []) ∧ okD a.2.2)) (([], [], []) : List Ty × List Ty × List Lin) ?_ (Tidy.refl _ _) ?_ ?_
  · exact ⟨rfl, rfl, rfl, by simp, by simp [okD]⟩
  · rintro i ⟨acc, cc, w⟩ hi hd ⟨h1, h2, h3, h4, h5⟩
    dsimp only at h1 h2 h3 h5
    rw [hi, List.take_length] at h1 h2 h4
    subst h1
    subst h2
    have hw : wantS [] acc = some w := h3
    have hl6 : acc.length ≤ 6 := by omega
    obtain ⟨hk, fd, hfr, hh, hfl⟩ := scalars_plain hl6 (fun t ht => (h4 t ht).2.1) (fun t ht => (h4 t ht).2.2) hw
    have hsm : Con.sm (conS acc w) := ⟨by show acc.length < _; omega, by show (acc.map cellOf).length < _; simp; omega, by simp [Ty.sm, conS], by simp [Ty.sm, conS], fun t ht => (fewT_sm (h4 t ht).1).1, fun t ht => by
      obtain ⟨u, hu, rfl⟩ := List.mem_map.1 ht
      exact ⟨(fewT_sm (h4 u hu).1).1.1, by simp [cellOf], by simp [cellOf], by simp [cellOf]⟩, ⟨by simp [conS, intB], by simp [conS], by have := h5.1; simp [conS]; omega, fun x hx => (h5.2 x hx).1⟩, by simp [Ty.sm, conS, intB]⟩
    have k1 := pc_frame hW (conS acc w) hsm (fun t ht => (fewT_sm (h4 t ht).1).2)
    rw [show frameF (conS acc w) = outF w fd 0 from by rw [frameF, hk, hfr]; rfl] at k1
    unfold outF at k1
    have k2 := pc_shR hW [] [] w w (okL_of h5) (okL_of h5)
    rw [shEq_self] at k2
    have hok : Okc (conS acc w) [] w fd := ⟨hsm, fun t ht => by
      obtain ⟨u, hu, rfl⟩ := List.mem_map.1 ht
      simp [okD, cellOf], by simp [okD, conS], by simp, h5, by omega⟩
    have k3 := pc_holds hW (conS acc w) [] w fd hok
    rw [hh] at k3
    refine CG.isH ([some (.cells (sc9 (.sl 2 (List.length (Prod.fst (acc, List.map cellOf acc, w)) * 3) 0 (List.length (Prod.fst (acc, List.map cellOf acc, w))) 3) (.sl 3 (List.length (Prod.fst (Prod.snd (acc, List.map cellOf acc, w))) * 3) 0 (List.length (Prod.fst (Prod.snd (acc, List.map cellOf acc, w)))) 3))), some (.cells [(so []), (lo Lin.enc (Prod.snd (Prod.snd (acc, List.map cellOf acc, w))))]), some (rowE Ty.enc (Prod.fst (acc, List.map cellOf acc, w))), some (rowE Ty.enc (Prod.fst (Prod.snd (acc, List.map cellOf acc, w))))]) (by kernel_rfl) ?_
    refine CG.tidy (Tidy.frzB (sz := 3) Ty.enc (Prod.fst (acc, List.map cellOf acc, w)) 2 (tm' := [(2, (bo false)), (3, (.ptr 0 18 0)), (4, (.ptr 1 2 0)), (21, (lo Ty.enc acc)), (22, (no (List.length (List.map Ty.enc acc)))), (23, (no i))]) (H' := [some (.cells (sc9 (.d (.list (List.map Ty.enc (Prod.fst (acc, List.map cellOf acc, w))))) (.sl 3 (List.length (Prod.fst (Prod.snd (acc, List.map cellOf acc, w))) * 3) 0 (List.length (Prod.fst (Prod.snd (acc, List.map cellOf acc, w)))) 3))), some (.cells [(so []), (lo Lin.enc (Prod.snd (Prod.snd (acc, List.map cellOf acc, w))))]), none, some (rowE Ty.enc (Prod.fst (Prod.snd (acc, List.map cellOf acc, w))))]) (fun _ => rfl) (by kernel_rfl) ⟨.inr (.inr ⟨by decide, _, _, rfl, rfl, ⟨.inr ⟨rfl, rfl⟩, ⟨.inr ⟨rfl, rfl⟩, ⟨.inr ⟨rfl, rfl⟩, ⟨.inr ⟨rfl, rfl⟩, ⟨.inr ⟨rfl, rfl⟩, ⟨.inr ⟨rfl, rfl⟩, ⟨.inr ⟨rfl, rfl⟩, ⟨.inr ⟨rfl, rfl⟩, ⟨.inl ⟨rfl, rfl⟩, ⟨.inr ⟨rfl, rfl⟩, ⟨.inr ⟨rfl, rfl⟩, ⟨.inr ⟨rfl, rfl⟩, ⟨.inr ⟨rfl, rfl⟩, ⟨.inr ⟨rfl, rfl⟩, ⟨.inr ⟨rfl, rfl⟩, ⟨.inr ⟨rfl, rfl⟩, ⟨.inr ⟨rfl, rfl⟩, ⟨.inr ⟨rfl, rfl⟩, trivial⟩⟩⟩⟩⟩⟩⟩⟩⟩⟩⟩⟩⟩⟩⟩⟩⟩⟩⟩), ⟨.inr (.inl ⟨by decide, rfl, rfl⟩), ⟨.inl ⟨rfl, rfl⟩, ⟨.inr (.inl ⟨by decide, noref_row _ _ _, rfl⟩), trivial⟩⟩⟩⟩ (by kernel_rfl)) ?_
    refine CG.isH ([some (.cells (sc9 (lo Ty.enc (Prod.fst (acc, List.map cellOf acc, w))) (.sl 3 (List.length (Prod.fst (Prod.snd (acc, List.map cellOf acc, w))) * 3) 0 (List.length (Prod.fst (Prod.snd (acc, List.map cellOf acc, w)))) 3))), some (.cells [(so []), (lo Lin.enc (Prod.snd (Prod.snd (acc, List.map cellOf acc, w))))]), none, some (rowE Ty.enc (Prod.fst (Prod.snd (acc, List.map cellOf acc, w))))]) (by kernel_rfl) ?_
    refine CG.tidy (Tidy.frzB (sz := 3) Ty.enc (Prod.fst (Prod.snd (acc, List.map cellOf acc, w))) 3 (tm' := [(2, (bo false)), (3, (.ptr 0 18 0)), (4, (.ptr 1 2 0)), (21, (lo Ty.enc acc)), (22, (no (List.length (List.map Ty.enc acc)))), (23, (no i))]) (H' := [some (.cells (sc9 (lo Ty.enc (Prod.fst (acc, List.map cellOf acc, w))) (.d (.list (List.map Ty.enc (Prod.fst (Prod.snd (acc, List.map cellOf acc, w)))))))), some (.cells [(so []), (lo Lin.enc (Prod.snd (Prod.snd (acc, List.map cellOf acc, w))))]), none, none]) (fun _ => rfl) (by kernel_rfl) ⟨.inr (.inr ⟨by decide, _, _, rfl, rfl, ⟨.inr ⟨rfl, rfl⟩, ⟨.inr ⟨rfl, rfl⟩, ⟨.inr ⟨rfl, rfl⟩, ⟨.inr ⟨rfl, rfl⟩, ⟨.inr ⟨rfl, rfl⟩, ⟨.inr ⟨rfl, rfl⟩, ⟨.inr ⟨rfl, rfl⟩, ⟨.inr ⟨rfl, rfl⟩, ⟨.inr ⟨rfl, rfl⟩, ⟨.inl ⟨rfl, rfl⟩, ⟨.inr ⟨rfl, rfl⟩, ⟨.inr ⟨rfl, rfl⟩, ⟨.inr ⟨rfl, rfl⟩, ⟨.inr ⟨rfl, rfl⟩, ⟨.inr ⟨rfl, rfl⟩, ⟨.inr ⟨rfl, rfl⟩, ⟨.inr ⟨rfl, rfl⟩, ⟨.inr ⟨rfl, rfl⟩, trivial⟩⟩⟩⟩⟩⟩⟩⟩⟩⟩⟩⟩⟩⟩⟩⟩⟩⟩⟩), ⟨.inr (.inl ⟨by decide, rfl, rfl⟩), ⟨.inr (.inl ⟨by decide, trivial, rfl⟩), ⟨.inl ⟨rfl, rfl⟩, trivial⟩⟩⟩⟩ (by kernel_rfl)) ?_
    refine s1 hW 4 0 [] 47 [(24, (bo (iLt (Int.ofNat i) (Int.ofNat (List.length (List.map Ty.enc acc))))))] ?_
    refine CG.condF (show (iLt (Int.ofNat i) (Int.ofNat (List.length (List.map Ty.enc acc)))) = false from f_lt (by (try simp only [zz] at *) <;> omega)) (by kernel_rfl) ?_
    refine CG.exitL (by decide) ?_
    refine s4 hW 6 1 [] 7 [(78, (.agg [(io 2), (io 0), (so []), (so []), (.d (.list [])), (so []), (so []), (.d (.list [])), (lo Ty.enc (Prod.fst (acc, List.map cellOf acc, w))), (lo Ty.enc (Prod.fst (Prod.snd (acc, List.map cellOf acc, w)))), (so [105, 110, 116]), (so []), (lo Lin.enc (Prod.snd (Prod.snd (acc, List.map cellOf acc, w)))), (so [105, 110, 116]), (so []), (.d (.list [])), (io 0), (.d (.list []))]))] [(0, (.cells [(io 2), (io 0), (so []), (so []), (.d (.list [])), (so []), (so []), (.d (.list [])), (lo Ty.enc (Prod.fst (acc, List.map cellOf acc, w))), (lo Ty.enc (Prod.fst (Prod.snd (acc, List.map cellOf acc, w)))), (so [105, 110, 116]), (so []), (lo Lin.enc (Prod.snd (Prod.snd (acc, List.map cellOf acc, w)))), (so [105, 110, 116]), (so []), (.d (.list [])), (io 0), (.d (.list []))]))] ?_
    refine CG.pg (k1) rfl (by kernel_rfl) ?_
    refine s4 hW 3 5 [] 3 [(7, (.ptr 4 2 0)), (8, (lo encB fd)), (85, (bo true)), (86, (.agg [(so []), (lo Lin.enc w)])), (87, (.agg [(so []), (lo Lin.enc (Prod.snd (Prod.snd (acc, List.map cellOf acc, w))))]))] [(4, (.cells [(so []), (lo Lin.enc w)]))] ?_
    refine CG.pg (k2) rfl (by kernel_rfl) ?_
    refine s1 hW 0 5 [] 1 [(90, (bo true)), (91, (.agg [(io 2), (io 0), (so []), (so []), (.d (.list [])), (so []), (so []), (.d (.list [])), (lo Ty.enc (Prod.fst (acc, List.map cellOf acc, w))), (lo Ty.enc (Prod.fst (Prod.snd (acc, List.map cellOf acc, w)))), (so [105, 110, 116]), (so []), (lo Lin.enc (Prod.snd (Prod.snd (acc, List.map cellOf acc, w)))), (so [105, 110, 116]), (so []), (.d (.list [])), (io 0), (.d (.list []))])), (92, (.agg [(so []), (lo Lin.enc w)])), (93, (lo encB fd))] ?_
    refine CG.pg (k3) rfl (by kernel_rfl) ?_
    refine s1 hW 2 0 [] 0 [(2, (bo true))] ?_
    refine CG.ret (v' := (bo true)) (by kernel_rfl) ?_
    with_reducible rfl
  · rintro i ⟨acc, cc, w⟩ x r hd hx hlt ⟨h1, h2, h3, h4, h5⟩
    dsimp only at h1 h2 h3 h5
    have hF := pc_fewT hW x (ha x (List.mem_of_getElem? hx))
    cases hf : fewT x with
    | false =>
      rw [hf] at hF
      refine s1 hW 4 0 [] 63 [(24, (bo (iLt (Int.ofNat i) (Int.ofNat (List.length (List.map Ty.enc args))))))] ?_
      refine CG.condT (show (iLt (Int.ofNat i) (Int.ofNat (List.length (List.map Ty.enc args)))) = true from t_lt (by (try simp only [zz] at *) <;> omega)) (by kernel_rfl) ?_
      refine s1 hW 5 0 [] 63 [] ?_
      refine CG.reg ?_
      refine CG.ix (idx_map (enc := Ty.enc) hx) rfl (by kernel_rfl) ?_
      refine s4 hW 4 1 [] 63 [(6, (.ptr 4 3 0)), (27, (.agg [(so (Ty.elem x)), (so (Ty.row x)), (lo Lin.enc (Ty.dims x))]))] [(4, (.cells [(so (Ty.elem x)), (so (Ty.row x)), (lo Lin.enc (Ty.dims x))]))] ?_
      refine CG.pg (hF) rfl (by kernel_rfl) ?_
      refine s1 hW 6 0 [true] 126 [(2, (bo true))] ?_
      refine CG.retL (v' := (bo true)) (by kernel_rfl) ?_
      with_reducible rfl
    | true =>
      rw [hf] at hF
      have hsm := (fewT_sm hf).1
      have hV := Fw.Tz.Vb.pc_tyR hW x.elem x.row x.dims hsm.1 hsm.2.2.1 hsm.2.2.2
      cases hv : tyB x with
      | false =>
        rw [show tyB ⟨x.elem, x.row, x.dims⟩ = false from hv] at hV
        refine s1 hW 4 0 [] 63 [(24, (bo (iLt (Int.ofNat i) (Int.ofNat (List.length (List.map Ty.enc args))))))] ?_
        refine CG.condT (show (iLt (Int.ofNat i) (Int.ofNat (List.length (List.map Ty.enc args)))) = true from t_lt (by (try simp only [zz] at *) <;> omega)) (by kernel_rfl) ?_
        refine s1 hW 5 0 [] 63 [] ?_
        refine CG.reg ?_
        refine CG.ix (idx_map (enc := Ty.enc) hx) rfl (by kernel_rfl) ?_
        refine s4 hW 4 1 [] 63 [(6, (.ptr 4 3 0)), (27, (.agg [(so (Ty.elem x)), (so (Ty.row x)), (lo Lin.enc (Ty.dims x))]))] [(4, (.cells [(so (Ty.elem x)), (so (Ty.row x)), (lo Lin.enc (Ty.dims x))]))] ?_
        refine CG.pg (hF) rfl (by kernel_rfl) ?_
        refine s1 hW 0 3 [] 127 [(30, (bo false)), (31, (.agg [(so (Ty.elem x)), (so (Ty.row x)), (lo Lin.enc (Ty.dims x))]))] ?_
        refine CG.pg (hV) rfl (by kernel_rfl) ?_
        refine s1 hW 6 0 [true] 126 [(2, (bo true))] ?_
        refine CG.retL (v' := (bo true)) (by kernel_rfl) ?_
        with_reducible rfl
      | true =>
        rw [show tyB ⟨x.elem, x.row, x.dims⟩ = true from hv] at hV
        have hdd := fewT_okD hf
        cases hr : bytesEq x.row [] with
        | false =>
          refine s1 hW 4 0 [] 63 [(24, (bo (iLt (Int.ofNat i) (Int.ofNat (List.length (List.map Ty.enc args))))))] ?_
          refine CG.condT (show (iLt (Int.ofNat i) (Int.ofNat (List.length (List.map Ty.enc args)))) = true from t_lt (by (try simp only [zz] at *) <;> omega)) (by kernel_rfl) ?_
          refine s1 hW 5 0 [] 63 [] ?_
          refine CG.reg ?_
          refine CG.ix (idx_map (enc := Ty.enc) hx) rfl (by kernel_rfl) ?_
          refine s4 hW 4 1 [] 63 [(6, (.ptr 4 3 0)), (27, (.agg [(so (Ty.elem x)), (so (Ty.row x)), (lo Lin.enc (Ty.dims x))]))] [(4, (.cells [(so (Ty.elem x)), (so (Ty.row x)), (lo Lin.enc (Ty.dims x))]))] ?_
          refine CG.pg (hF) rfl (by kernel_rfl) ?_
          refine s1 hW 0 3 [] 127 [(30, (bo false)), (31, (.agg [(so (Ty.elem x)), (so (Ty.row x)), (lo Lin.enc (Ty.dims x))]))] ?_
          refine CG.pg (hV) rfl (by kernel_rfl) ?_
          refine s1 hW 2 0 [] 127 [(40, (bo (!bytesEq (Ty.row x) [])))] ?_
          refine CG.condT (b := (!bytesEq (Ty.row x) [])) (by rw [hr]; rfl) (by kernel_rfl) ?_
          refine s1 hW 3 0 [] 126 [(2, (bo true))] ?_
          refine CG.retL (v' := (bo true)) (by kernel_rfl) ?_
          with_reducible rfl
        | true =>
          have hrow : x.row = [] := by simpa [Fw.bytesEq_iff] using hr
          obtain ⟨xe, xr, xd⟩ := x
          simp only at hrow
          subst hrow
          simp only at hdd hF hV hr
          have hE := pc_shR hW [] [] w xd (okL_of h5) (okL_of hdd)
          have hdl := hdd.1
          have hal : acc.length ≤ 6 := by rw [h1, List.length_take]; omega
          have hcl : cc.length ≤ 6 := by rw [h2, List.length_map, List.length_take]; omega
          have htk : args.take (i + 1) = args.take i ++ [⟨xe, [], xd⟩] := by rw [List.take_add_one, hx]; rfl
          have e1 : acc ++ [⟨xe, [], xd⟩] = args.take (i + 1) := by rw [htk, h1]
          have e2 : cc ++ [cellOf ⟨xe, [], xd⟩] = (args.take (i + 1)).map cellOf := by rw [htk, h2, List.map_append]; rfl
          have e4 : ∀ t ∈ args.take (i + 1), fewT t = true ∧ tyB t = true ∧ t.row = [] := fun t ht => by
            rw [htk] at ht
            rcases List.mem_append.1 ht with ht | ht
            · exact h4 t ht
            · rw [List.mem_singleton.1 ht]; exact ⟨hf, hv, rfl⟩
          rw [wantS] at h3
          by_cases hd0 : xd.length = 0
          · rw [if_pos hd0] at h3
            refine s1 hW 4 0 [] 63 [(24, (bo (iLt (Int.ofNat i) (Int.ofNat (List.length (List.map Ty.enc args))))))] ?_
            refine CG.condT (show (iLt (Int.ofNat i) (Int.ofNat (List.length (List.map Ty.enc args)))) = true from t_lt (by (try simp only [zz] at *) <;> omega)) (by kernel_rfl) ?_
            refine s1 hW 5 0 [] 63 [] ?_
            refine CG.reg ?_
            refine CG.ix (idx_map (enc := Ty.enc) hx) rfl (by kernel_rfl) ?_
            refine s4 hW 4 1 [] 63 [(6, (.ptr 4 3 0)), (27, (.agg [(so (Ty.elem { elem := xe, row := [], dims := xd })), (so []), (lo Lin.enc (Ty.dims { elem := xe, row := [], dims := xd }))]))] [(4, (.cells [(so (Ty.elem { elem := xe, row := [], dims := xd })), (so []), (lo Lin.enc (Ty.dims { elem := xe, row := [], dims := xd }))]))] ?_
            refine CG.pg (hF) rfl (by kernel_rfl) ?_
            refine s1 hW 0 3 [] 127 [(30, (bo false)), (31, (.agg [(so (Ty.elem { elem := xe, row := [], dims := xd })), (so []), (lo Lin.enc (Ty.dims { elem := xe, row := [], dims := xd }))]))] ?_
            refine CG.pg (hV) rfl (by kernel_rfl) ?_
            refine s1 hW 9 0 [false] 127 [(45, (bo (iLt 0 (Int.ofNat (List.length (List.map Lin.enc (Ty.dims { elem := xe, row := [], dims := xd })))))))] ?_
            refine CG.condF (show (iLt 0 (Int.ofNat (List.length (List.map Lin.enc (Ty.dims { elem := xe, row := [], dims := xd }))))) = false from f_lt (by (try simp only [zz] at *) <;> omega)) (by kernel_rfl) ?_
            refine s1 hW 2 0 [] 127 [] ?_
            refine CG.drawW orders (by kernel_rfl) ?_
            refine AW.rk 4 [(59, (.ptr 0 18 8)), (60, (.sl 2 (List.length (Prod.fst (acc, cc, w)) * 3) 0 (List.length (Prod.fst (acc, cc, w))) 3)), (61, (.agg [(so (Ty.elem { elem := xe, row := [], dims := xd })), (so []), (lo Lin.enc (Ty.dims { elem := xe, row := [], dims := xd }))])), (62, (.sl 8 3 0 1 3))] [(8, (.cells [(so (Ty.elem { elem := xe, row := [], dims := xd })), (so []), (lo Lin.enc (Ty.dims { elem := xe, row := [], dims := xd }))]))] (by kernel_rfl) ?_
            rotate_left
            refine AW.appE1 Ty.enc acc ⟨xe, [], xd⟩ (b := 2) (fun _ => rfl) rfl rfl (by kernel_rfl) (by kernel_rfl) (by kernel_rfl) (by kernel_rfl) (by omega) rfl ?_
            refine AW.rk 6 [(64, (.ptr 0 18 9)), (65, (.sl 3 (List.length (Prod.fst (Prod.snd (acc, cc, w))) * 3) 0 (List.length (Prod.fst (Prod.snd (acc, cc, w)))) 3)), (66, (.ptr 4 3 0)), (67, (so (Ty.elem { elem := xe, row := [], dims := xd }))), (68, (.agg [(so (Ty.elem { elem := xe, row := [], dims := xd })), (so []), .nils])), (69, (.sl 15 3 0 1 3))] [(15, (.cells [(so (Ty.elem { elem := xe, row := [], dims := xd })), (so []), .nils]))] (by kernel_rfl) ?_
            rotate_left
            refine AW.appN Ty.enc cc (cellOf ⟨xe, [], xd⟩) [so xe, so [], .nils] (b := 3) (fun _ => rfl) rfl rfl (by kernel_rfl) (by kernel_rfl) (by kernel_rfl) (by kernel_rfl) rfl rfl (by omega) rfl ?_
            refine AW.rk 4 [(71, (.ptr 0 18 8)), (72, (.ptr 0 18 9))] [(0, (.cells (sc9 (.sl 2 (List.length (acc ++ [{ elem := xe, row := [], dims := xd }]) * 3) 0 (List.length (acc ++ [{ elem := xe, row := [], dims := xd }])) 3) (.sl 3 (List.length (cc ++ [cellOf { elem := xe, row := [], dims := xd }]) * 3) 0 (List.length (cc ++ [cellOf { elem := xe, row := [], dims := xd }])) 3))))] (by kernel_rfl) ?_
            refine AW.nil rfl ⟨by kernel_rfl, AW.fin (H2 := [some (.cells (sc9 (.sl 2 (List.length (acc ++ [{ elem := xe, row := [], dims := xd }]) * 3) 0 (List.length (acc ++ [{ elem := xe, row := [], dims := xd }])) 3) (.sl 3 (List.length (cc ++ [cellOf { elem := xe, row := [], dims := xd }]) * 3) 0 (List.length (cc ++ [cellOf { elem := xe, row := [], dims := xd }])) 3))), some (.cells [(so []), (lo Lin.enc (Prod.snd (Prod.snd (acc, cc, w))))]), some (rowE Ty.enc (acc ++ [{ elem := xe, row := [], dims := xd }])), some (.cells (List.map V.d (List.flatMap Ty.enc cc) ++ [so xe, so [], V.nils])), some (.cells [(so (Ty.elem { elem := xe, row := [], dims := xd })), (so []), (lo Lin.enc (Ty.dims { elem := xe, row := [], dims := xd }))]), none, none, none, some (.cells [(so (Ty.elem { elem := xe, row := [], dims := xd })), (so []), (lo Lin.enc (Ty.dims { elem := xe, row := [], dims := xd }))])] ++ nn 6 ([some (.cells [(so (Ty.elem { elem := xe, row := [], dims := xd })), (so []), .nils])])) 16 [2, 3, 4, 21, 22, 23] (by kernel_rfl) rfl (by kernel_rfl) (by kernel_rfl) (by simp [nn, heapLt, boxLt_row, boxLt_cell, boxLt_cs, boxLt_nil, refsLtL, refsLt, sc9]) ?_⟩
            refine s3 hW 2 2 [] [(2, (bo false)), (3, (.ptr 0 18 0)), (4, (.ptr 1 2 0)), (21, (lo Ty.enc args)), (22, (no (List.length (List.map Ty.enc args)))), (23, (io (wrapF IntKind.i64 (iAdd (Int.ofNat i) 1))))] ([some (.cells (sc9 (.sl 2 (List.length (acc ++ [{ elem := xe, row := [], dims := xd }]) * 3) 0 (List.length (acc ++ [{ elem := xe, row := [], dims := xd }])) 3) (.sl 3 (List.length (cc ++ [cellOf { elem := xe, row := [], dims := xd }]) * 3) 0 (List.length (cc ++ [cellOf { elem := xe, row := [], dims := xd }])) 3))), some (.cells [(so []), (lo Lin.enc (Prod.snd (Prod.snd (acc, cc, w))))]), some (rowE Ty.enc (acc ++ [{ elem := xe, row := [], dims := xd }])), some (.cells (List.map V.d (List.flatMap Ty.enc cc) ++ [so xe, so [], V.nils])), some (.cells [(so (Ty.elem { elem := xe, row := [], dims := xd })), (so []), (lo Lin.enc (Ty.dims { elem := xe, row := [], dims := xd }))]), none, none, none, some (.cells [(so (Ty.elem { elem := xe, row := [], dims := xd })), (so []), (lo Lin.enc (Ty.dims { elem := xe, row := [], dims := xd }))])] ++ nn 6 ([some (.cells [(so (Ty.elem { elem := xe, row := [], dims := xd })), (so []), .nils])])) ?_
            refine CG.endL rfl ?_
            rw [wrapI (by omega)]
            rotate_left
            refine ⟨(acc ++ [⟨xe, [], xd⟩], cc ++ [cellOf ⟨xe, [], xd⟩], w), ⟨e1, e2, h3, e4, h5⟩, Tidy.trans (Tidy.trim 4 [2, 3, 4, 21, 22, 23] rfl rfl rfl rfl ?_) (Tidy.nilRow Ty.enc cc (cellOf ⟨xe, [], xd⟩) [so xe, so []] (b := 3) (sz := 3) (fun _ => rfl) (by kernel_rfl) rfl (by kernel_rfl))⟩
            simp only [List.cons_append, List.take_succ_cons, List.take_zero, heapLt, boxLt_row, boxLt_dapp]; rfl
          · rw [if_neg hd0] at h3
            by_cases hw0 : 0 < w.length
            · cases he : lEq linEq w xd with
              | false =>
                rw [show shEq [] w [] xd = false from by rw [shEq, he]; rfl] at hE
                refine s1 hW 4 0 [] 63 [(24, (bo (iLt (Int.ofNat i) (Int.ofNat (List.length (List.map Ty.enc args))))))] ?_
                refine CG.condT (show (iLt (Int.ofNat i) (Int.ofNat (List.length (List.map Ty.enc args)))) = true from t_lt (by (try simp only [zz] at *) <;> omega)) (by kernel_rfl) ?_
                refine s1 hW 5 0 [] 63 [] ?_
                refine CG.reg ?_
                refine CG.ix (idx_map (enc := Ty.enc) hx) rfl (by kernel_rfl) ?_
                refine s4 hW 4 1 [] 63 [(6, (.ptr 4 3 0)), (27, (.agg [(so (Ty.elem { elem := xe, row := [], dims := xd })), (so []), (lo Lin.enc (Ty.dims { elem := xe, row := [], dims := xd }))]))] [(4, (.cells [(so (Ty.elem { elem := xe, row := [], dims := xd })), (so []), (lo Lin.enc (Ty.dims { elem := xe, row := [], dims := xd }))]))] ?_
                refine CG.pg (hF) rfl (by kernel_rfl) ?_
                refine s1 hW 0 3 [] 127 [(30, (bo false)), (31, (.agg [(so (Ty.elem { elem := xe, row := [], dims := xd })), (so []), (lo Lin.enc (Ty.dims { elem := xe, row := [], dims := xd }))]))] ?_
                refine CG.pg (hV) rfl (by kernel_rfl) ?_
                refine s1 hW 9 0 [false] 127 [(45, (bo (iLt 0 (Int.ofNat (List.length (List.map Lin.enc (Ty.dims { elem := xe, row := [], dims := xd })))))))] ?_
                refine CG.condT (show (iLt 0 (Int.ofNat (List.length (List.map Lin.enc (Ty.dims { elem := xe, row := [], dims := xd }))))) = true from t_lt (by (try simp only [zz] at *) <;> omega)) (by kernel_rfl) ?_
                refine s1 hW 2 5 [] 127 [(50, (bo (iLt 0 (Int.ofNat (List.length (List.map Lin.enc (Prod.snd (Prod.snd (acc, cc, w)))))))))] ?_
                have q41 : (iLt 0 (Int.ofNat (List.length (List.map Lin.enc (Prod.snd (Prod.snd (acc, cc, w))))))) = true := t_lt (by (try simp only [zz] at *) <;> omega)
                rw [q41]
                refine s1 hW 0 3 [] 255 [(51, (.agg [(so []), (lo Lin.enc (Prod.snd (Prod.snd (acc, cc, w))))])), (53, (.agg [(so []), (lo Lin.enc (Ty.dims { elem := xe, row := [], dims := xd }))]))] ?_
                refine CG.pg (hE) rfl (by kernel_rfl) ?_
                refine s1 hW 6 0 [true] 126 [(2, (bo true))] ?_
                refine CG.retL (v' := (bo true)) (by kernel_rfl) ?_
                with_reducible rfl
              | true =>
                rw [show shEq [] w [] xd = true from by rw [shEq, he]; rfl] at hE
                rw [he, if_neg (by simp)] at h3
                refine s1 hW 4 0 [] 63 [(24, (bo (iLt (Int.ofNat i) (Int.ofNat (List.length (List.map Ty.enc args))))))] ?_
                refine CG.condT (show (iLt (Int.ofNat i) (Int.ofNat (List.length (List.map Ty.enc args)))) = true from t_lt (by (try simp only [zz] at *) <;> omega)) (by kernel_rfl) ?_
                refine s1 hW 5 0 [] 63 [] ?_
                refine CG.reg ?_
                refine CG.ix (idx_map (enc := Ty.enc) hx) rfl (by kernel_rfl) ?_
                refine s4 hW 4 1 [] 63 [(6, (.ptr 4 3 0)), (27, (.agg [(so (Ty.elem { elem := xe, row := [], dims := xd })), (so []), (lo Lin.enc (Ty.dims { elem := xe, row := [], dims := xd }))]))] [(4, (.cells [(so (Ty.elem { elem := xe, row := [], dims := xd })), (so []), (lo Lin.enc (Ty.dims { elem := xe, row := [], dims := xd }))]))] ?_
                refine CG.pg (hF) rfl (by kernel_rfl) ?_
                refine s1 hW 0 3 [] 127 [(30, (bo false)), (31, (.agg [(so (Ty.elem { elem := xe, row := [], dims := xd })), (so []), (lo Lin.enc (Ty.dims { elem := xe, row := [], dims := xd }))]))] ?_
                refine CG.pg (hV) rfl (by kernel_rfl) ?_
                refine s1 hW 9 0 [false] 127 [(45, (bo (iLt 0 (Int.ofNat (List.length (List.map Lin.enc (Ty.dims { elem := xe, row := [], dims := xd })))))))] ?_
                refine CG.condT (show (iLt 0 (Int.ofNat (List.length (List.map Lin.enc (Ty.dims { elem := xe, row := [], dims := xd }))))) = true from t_lt (by (try simp only [zz] at *) <;> omega)) (by kernel_rfl) ?_
                refine s1 hW 2 5 [] 127 [(50, (bo (iLt 0 (Int.ofNat (List.length (List.map Lin.enc (Prod.snd (Prod.snd (acc, cc, w)))))))))] ?_
                have q41 : (iLt 0 (Int.ofNat (List.length (List.map Lin.enc (Prod.snd (Prod.snd (acc, cc, w))))))) = true := t_lt (by (try simp only [zz] at *) <;> omega)
                rw [q41]
                refine s1 hW 0 3 [] 255 [(51, (.agg [(so []), (lo Lin.enc (Prod.snd (Prod.snd (acc, cc, w))))])), (53, (.agg [(so []), (lo Lin.enc (Ty.dims { elem := xe, row := [], dims := xd }))]))] ?_
                refine CG.pg (hE) rfl (by kernel_rfl) ?_
                refine s4 hW 7 0 [false] 127 [] [(1, (.cells [(so []), (lo Lin.enc (Ty.dims { elem := xe, row := [], dims := xd }))]))] ?_
                refine CG.drawW orders (by kernel_rfl) ?_
                refine AW.rk 4 [(59, (.ptr 0 18 8)), (60, (.sl 2 (List.length (Prod.fst (acc, cc, w)) * 3) 0 (List.length (Prod.fst (acc, cc, w))) 3)), (61, (.agg [(so (Ty.elem { elem := xe, row := [], dims := xd })), (so []), (lo Lin.enc (Ty.dims { elem := xe, row := [], dims := xd }))])), (62, (.sl 8 3 0 1 3))] [(8, (.cells [(so (Ty.elem { elem := xe, row := [], dims := xd })), (so []), (lo Lin.enc (Ty.dims { elem := xe, row := [], dims := xd }))]))] (by kernel_rfl) ?_
                rotate_left
                refine AW.appE1 Ty.enc acc ⟨xe, [], xd⟩ (b := 2) (fun _ => rfl) rfl rfl (by kernel_rfl) (by kernel_rfl) (by kernel_rfl) (by kernel_rfl) (by omega) rfl ?_
                refine AW.rk 6 [(64, (.ptr 0 18 9)), (65, (.sl 3 (List.length (Prod.fst (Prod.snd (acc, cc, w))) * 3) 0 (List.length (Prod.fst (Prod.snd (acc, cc, w)))) 3)), (66, (.ptr 4 3 0)), (67, (so (Ty.elem { elem := xe, row := [], dims := xd }))), (68, (.agg [(so (Ty.elem { elem := xe, row := [], dims := xd })), (so []), .nils])), (69, (.sl 15 3 0 1 3))] [(15, (.cells [(so (Ty.elem { elem := xe, row := [], dims := xd })), (so []), .nils]))] (by kernel_rfl) ?_
                rotate_left
                refine AW.appN Ty.enc cc (cellOf ⟨xe, [], xd⟩) [so xe, so [], .nils] (b := 3) (fun _ => rfl) rfl rfl (by kernel_rfl) (by kernel_rfl) (by kernel_rfl) (by kernel_rfl) rfl rfl (by omega) rfl ?_
                refine AW.rk 4 [(71, (.ptr 0 18 8)), (72, (.ptr 0 18 9))] [(0, (.cells (sc9 (.sl 2 (List.length (acc ++ [{ elem := xe, row := [], dims := xd }]) * 3) 0 (List.length (acc ++ [{ elem := xe, row := [], dims := xd }])) 3) (.sl 3 (List.length (cc ++ [cellOf { elem := xe, row := [], dims := xd }]) * 3) 0 (List.length (cc ++ [cellOf { elem := xe, row := [], dims := xd }])) 3))))] (by kernel_rfl) ?_
                refine AW.nil rfl ⟨by kernel_rfl, AW.fin (H2 := [some (.cells (sc9 (.sl 2 (List.length (acc ++ [{ elem := xe, row := [], dims := xd }]) * 3) 0 (List.length (acc ++ [{ elem := xe, row := [], dims := xd }])) 3) (.sl 3 (List.length (cc ++ [cellOf { elem := xe, row := [], dims := xd }]) * 3) 0 (List.length (cc ++ [cellOf { elem := xe, row := [], dims := xd }])) 3))), some (.cells [(so []), (lo Lin.enc (Ty.dims { elem := xe, row := [], dims := xd }))]), some (rowE Ty.enc (acc ++ [{ elem := xe, row := [], dims := xd }])), some (.cells (List.map V.d (List.flatMap Ty.enc cc) ++ [so xe, so [], V.nils])), some (.cells [(so (Ty.elem { elem := xe, row := [], dims := xd })), (so []), (lo Lin.enc (Ty.dims { elem := xe, row := [], dims := xd }))]), none, none, none, some (.cells [(so (Ty.elem { elem := xe, row := [], dims := xd })), (so []), (lo Lin.enc (Ty.dims { elem := xe, row := [], dims := xd }))])] ++ nn 6 ([some (.cells [(so (Ty.elem { elem := xe, row := [], dims := xd })), (so []), .nils])])) 16 [2, 3, 4, 21, 22, 23] (by kernel_rfl) rfl (by kernel_rfl) (by kernel_rfl) (by simp [nn, heapLt, boxLt_row, boxLt_cell, boxLt_cs, boxLt_nil, refsLtL, refsLt, sc9]) ?_⟩
                refine s3 hW 2 2 [] [(2, (bo false)), (3, (.ptr 0 18 0)), (4, (.ptr 1 2 0)), (21, (lo Ty.enc args)), (22, (no (List.length (List.map Ty.enc args)))), (23, (io (wrapF IntKind.i64 (iAdd (Int.ofNat i) 1))))] ([some (.cells (sc9 (.sl 2 (List.length (acc ++ [{ elem := xe, row := [], dims := xd }]) * 3) 0 (List.length (acc ++ [{ elem := xe, row := [], dims := xd }])) 3) (.sl 3 (List.length (cc ++ [cellOf { elem := xe, row := [], dims := xd }]) * 3) 0 (List.length (cc ++ [cellOf { elem := xe, row := [], dims := xd }])) 3))), some (.cells [(so []), (lo Lin.enc (Ty.dims { elem := xe, row := [], dims := xd }))]), some (rowE Ty.enc (acc ++ [{ elem := xe, row := [], dims := xd }])), some (.cells (List.map V.d (List.flatMap Ty.enc cc) ++ [so xe, so [], V.nils])), some (.cells [(so (Ty.elem { elem := xe, row := [], dims := xd })), (so []), (lo Lin.enc (Ty.dims { elem := xe, row := [], dims := xd }))]), none, none, none, some (.cells [(so (Ty.elem { elem := xe, row := [], dims := xd })), (so []), (lo Lin.enc (Ty.dims { elem := xe, row := [], dims := xd }))])] ++ nn 6 ([some (.cells [(so (Ty.elem { elem := xe, row := [], dims := xd })), (so []), .nils])])) ?_
                refine CG.endL rfl ?_
                rw [wrapI (by omega)]
                rotate_left
                refine ⟨(acc ++ [⟨xe, [], xd⟩], cc ++ [cellOf ⟨xe, [], xd⟩], xd), ⟨e1, e2, h3, e4, hdd⟩, Tidy.trans (Tidy.trim 4 [2, 3, 4, 21, 22, 23] rfl rfl rfl rfl ?_) (Tidy.nilRow Ty.enc cc (cellOf ⟨xe, [], xd⟩) [so xe, so []] (b := 3) (sz := 3) (fun _ => rfl) (by kernel_rfl) rfl (by kernel_rfl))⟩
                simp only [List.cons_append, List.take_succ_cons, List.take_zero, heapLt, boxLt_row, boxLt_dapp]; rfl
            · rw [if_neg (fun h => hw0 h.1)] at h3
              refine s1 hW 4 0 [] 63 [(24, (bo (iLt (Int.ofNat i) (Int.ofNat (List.length (List.map Ty.enc args))))))] ?_
              refine CG.condT (show (iLt (Int.ofNat i) (Int.ofNat (List.length (List.map Ty.enc args)))) = true from t_lt (by (try simp only [zz] at *) <;> omega)) (by kernel_rfl) ?_
              refine s1 hW 5 0 [] 63 [] ?_
              refine CG.reg ?_
              refine CG.ix (idx_map (enc := Ty.enc) hx) rfl (by kernel_rfl) ?_
              refine s4 hW 4 1 [] 63 [(6, (.ptr 4 3 0)), (27, (.agg [(so (Ty.elem { elem := xe, row := [], dims := xd })), (so []), (lo Lin.enc (Ty.dims { elem := xe, row := [], dims := xd }))]))] [(4, (.cells [(so (Ty.elem { elem := xe, row := [], dims := xd })), (so []), (lo Lin.enc (Ty.dims { elem := xe, row := [], dims := xd }))]))] ?_
              refine CG.pg (hF) rfl (by kernel_rfl) ?_
              refine s1 hW 0 3 [] 127 [(30, (bo false)), (31, (.agg [(so (Ty.elem { elem := xe, row := [], dims := xd })), (so []), (lo Lin.enc (Ty.dims { elem := xe, row := [], dims := xd }))]))] ?_
              refine CG.pg (hV) rfl (by kernel_rfl) ?_
              refine s1 hW 9 0 [false] 127 [(45, (bo (iLt 0 (Int.ofNat (List.length (List.map Lin.enc (Ty.dims { elem := xe, row := [], dims := xd })))))))] ?_
              refine CG.condT (show (iLt 0 (Int.ofNat (List.length (List.map Lin.enc (Ty.dims { elem := xe, row := [], dims := xd }))))) = true from t_lt (by (try simp only [zz] at *) <;> omega)) (by kernel_rfl) ?_
              refine s1 hW 2 5 [] 127 [(50, (bo (iLt 0 (Int.ofNat (List.length (List.map Lin.enc (Prod.snd (Prod.snd (acc, cc, w)))))))))] ?_
              have q40 : (iLt 0 (Int.ofNat (List.length (List.map Lin.enc (Prod.snd (Prod.snd (acc, cc, w))))))) = false := f_lt (by (try simp only [zz] at *) <;> omega)
              rw [q40]
              refine s4 hW 7 0 [false] 127 [] [(1, (.cells [(so []), (lo Lin.enc (Ty.dims { elem := xe, row := [], dims := xd }))]))] ?_
              refine CG.drawW orders (by kernel_rfl) ?_
              refine AW.rk 4 [(59, (.ptr 0 18 8)), (60, (.sl 2 (List.length (Prod.fst (acc, cc, w)) * 3) 0 (List.length (Prod.fst (acc, cc, w))) 3)), (61, (.agg [(so (Ty.elem { elem := xe, row := [], dims := xd })), (so []), (lo Lin.enc (Ty.dims { elem := xe, row := [], dims := xd }))])), (62, (.sl 8 3 0 1 3))] [(8, (.cells [(so (Ty.elem { elem := xe, row := [], dims := xd })), (so []), (lo Lin.enc (Ty.dims { elem := xe, row := [], dims := xd }))]))] (by kernel_rfl) ?_
              rotate_left
              refine AW.appE1 Ty.enc acc ⟨xe, [], xd⟩ (b := 2) (fun _ => rfl) rfl rfl (by kernel_rfl) (by kernel_rfl) (by kernel_rfl) (by kernel_rfl) (by omega) rfl ?_
              refine AW.rk 6 [(64, (.ptr 0 18 9)), (65, (.sl 3 (List.length (Prod.fst (Prod.snd (acc, cc, w))) * 3) 0 (List.length (Prod.fst (Prod.snd (acc, cc, w)))) 3)), (66, (.ptr 4 3 0)), (67, (so (Ty.elem { elem := xe, row := [], dims := xd }))), (68, (.agg [(so (Ty.elem { elem := xe, row := [], dims := xd })), (so []), .nils])), (69, (.sl 15 3 0 1 3))] [(15, (.cells [(so (Ty.elem { elem := xe, row := [], dims := xd })), (so []), .nils]))] (by kernel_rfl) ?_
              rotate_left
              refine AW.appN Ty.enc cc (cellOf ⟨xe, [], xd⟩) [so xe, so [], .nils] (b := 3) (fun _ => rfl) rfl rfl (by kernel_rfl) (by kernel_rfl) (by kernel_rfl) (by kernel_rfl) rfl rfl (by omega) rfl ?_
              refine AW.rk 4 [(71, (.ptr 0 18 8)), (72, (.ptr 0 18 9))] [(0, (.cells (sc9 (.sl 2 (List.length (acc ++ [{ elem := xe, row := [], dims := xd }]) * 3) 0 (List.length (acc ++ [{ elem := xe, row := [], dims := xd }])) 3) (.sl 3 (List.length (cc ++ [cellOf { elem := xe, row := [], dims := xd }]) * 3) 0 (List.length (cc ++ [cellOf { elem := xe, row := [], dims := xd }])) 3))))] (by kernel_rfl) ?_
              refine AW.nil rfl ⟨by kernel_rfl, AW.fin (H2 := [some (.cells (sc9 (.sl 2 (List.length (acc ++ [{ elem := xe, row := [], dims := xd }]) * 3) 0 (List.length (acc ++ [{ elem := xe, row := [], dims := xd }])) 3) (.sl 3 (List.length (cc ++ [cellOf { elem := xe, row := [], dims := xd }]) * 3) 0 (List.length (cc ++ [cellOf { elem := xe, row := [], dims := xd }])) 3))), some (.cells [(so []), (lo Lin.enc (Ty.dims { elem := xe, row := [], dims := xd }))]), some (rowE Ty.enc (acc ++ [{ elem := xe, row := [], dims := xd }])), some (.cells (List.map V.d (List.flatMap Ty.enc cc) ++ [so xe, so [], V.nils])), some (.cells [(so (Ty.elem { elem := xe, row := [], dims := xd })), (so []), (lo Lin.enc (Ty.dims { elem := xe, row := [], dims := xd }))]), none, none, none, some (.cells [(so (Ty.elem { elem := xe, row := [], dims := xd })), (so []), (lo Lin.enc (Ty.dims { elem := xe, row := [], dims := xd }))])] ++ nn 6 ([some (.cells [(so (Ty.elem { elem := xe, row := [], dims := xd })), (so []), .nils])])) 16 [2, 3, 4, 21, 22, 23] (by kernel_rfl) rfl (by kernel_rfl) (by kernel_rfl) (by simp [nn, heapLt, boxLt_row, boxLt_cell, boxLt_cs, boxLt_nil, refsLtL, refsLt, sc9]) ?_⟩
              refine s3 hW 2 2 [] [(2, (bo false)), (3, (.ptr 0 18 0)), (4, (.ptr 1 2 0)), (21, (lo Ty.enc args)), (22, (no (List.length (List.map Ty.enc args)))), (23, (io (wrapF IntKind.i64 (iAdd (Int.ofNat i) 1))))] ([some (.cells (sc9 (.sl 2 (List.length (acc ++ [{ elem := xe, row := [], dims := xd }]) * 3) 0 (List.length (acc ++ [{ elem := xe, row := [], dims := xd }])) 3) (.sl 3 (List.length (cc ++ [cellOf { elem := xe, row := [], dims := xd }]) * 3) 0 (List.length (cc ++ [cellOf { elem := xe, row := [], dims := xd }])) 3))), some (.cells [(so []), (lo Lin.enc (Ty.dims { elem := xe, row := [], dims := xd }))]), some (rowE Ty.enc (acc ++ [{ elem := xe, row := [], dims := xd }])), some (.cells (List.map V.d (List.flatMap Ty.enc cc) ++ [so xe, so [], V.nils])), some (.cells [(so (Ty.elem { elem := xe, row := [], dims := xd })), (so []), (lo Lin.enc (Ty.dims { elem := xe, row := [], dims := xd }))]), none, none, none, some (.cells [(so (Ty.elem { elem := xe, row := [], dims := xd })), (so []), (lo Lin.enc (Ty.dims { elem := xe, row := [], dims := xd }))])] ++ nn 6 ([some (.cells [(so (Ty.elem { elem := xe, row := [], dims := xd })), (so []), .nils])])) ?_
              refine CG.endL rfl ?_
              rw [wrapI (by omega)]
              rotate_left
              refine ⟨(acc ++ [⟨xe, [], xd⟩], cc ++ [cellOf ⟨xe, [], xd⟩], xd), ⟨e1, e2, h3, e4, hdd⟩, Tidy.trans (Tidy.trim 4 [2, 3, 4, 21, 22, 23] rfl rfl rfl rfl ?_) (Tidy.nilRow Ty.enc cc (cellOf ⟨xe, [], xd⟩) [so xe, so []] (b := 3) (sz := 3) (fun _ => rfl) (by kernel_rfl) rfl (by kernel_rfl))⟩
              simp only [List.cons_append, List.take_succ_cons, List.take_zero, heapLt, boxLt_row, boxLt_dapp]; rfl
end Fw.Tz.Ls
