/-
  AgreeUnique: the call returns true.
-/
import Derived.Test.YtgfgckimecpmlaaGreatDoorTm
import Derived.Test.YtgfgckimecpmlaaGreatDoorTd
import Derived.Test.YtgfgckimecpmlaaGreatDoorFg
import Derived.Test.YtgfgckimecpmlaaGreatDoorTe

set_option linter.unusedSimpArgs false
set_option maxRecDepth 1000000
set_option maxHeartbeats 4000000
namespace Fw.Tz.Lu
open Go Go.Proofs Fw.X Fw.Tz Fw.Nu Fw.Tz.Na Fw.Tz.El Fw.Tz.Va Fw.Tz.Vb Fw.Tz.Vc Fw.Tz.Vd Fw.Tz.Vf Fw.Tz.Vh Fw.Tz.Eq Fw.Tz.Ew Fw.Tz.Fg Fw.Tz.Pp Fw.Tz.Pa Fw.Tz.Pb Fw.Tz.Pc Fw.Tz.Pd Fw.Tz.Ph Fw.Tz.Lp Fw.Tz.Ve
variable {W : World}
noncomputable def rk (W : World) (n : Nat) (c : IR) (ks : List Nat) (tm : List (Nat × V)) (H : Heap) : Option XR :=
  runP [] (gl W) (callX W ktA exA (rawX W ktA exA 40)) (pcallX ktA exA (rawX W ktA exA 40)) n c ks tm H
noncomputable def rd (W : World) (ov : List (Nat × Bool)) (sp : List (Nat × V)) (n : Nat) (l : List IOper) (ks : List Nat) (tm : List (Nat × V)) (H : Heap) : Option (List V × Heap × List (Bool × Bool) × CallL) :=
  runDX [] (gl W) (dcallOf (pcallX ktA exA (rawX W ktA exA 40)) (callX W ktA exA (rawX W ktA exA 40))) ov sp n l ks tm H
theorem dg (hW : W0 W) (ov : List (Nat × Bool)) (sp : List (Nat × V)) {n : Nat} {l : List IOper} {K : List Fr} {tm tm' : List (Nat × V)} {H H' : Heap} {cs : List (Bool × Bool)} {calls : CallL} {Q : Ex → St → Prop}
    (h : rd W ov sp n l (tm'.map Prod.fst) tm H = some (tm'.map Prod.snd, H', cs, calls)) (hcs : allEq cs) (hcl : allPC P (gl W) calls) (hq : CG P (gl W) (.out .normal) K n tm' H' Q) : CG P (gl W) (.code (.draw l)) K n tm H Q :=
  CG.drawX orders (dcallOf_ok (pcallX_ok hW (exA_ok hW) _ (rawX_ok hW (exA_ok hW) 40)) (callX_ok hW (exA_ok hW) _ (rawX_ok hW (exA_ok hW) 40))) ov sp h hcs hcl hq
noncomputable def rg (W : World) (n : Nat) (N j : Nat) (bs : List Bool) (cur : Cur) (K : List Fr) (ks : List Nat) (tm : List (Nat × V)) (H : Heap) : Option XR :=
  runG [] (gl W) (callX W ktA exA (rawX W ktA exA 40)) (pcallX ktA exA (rawX W ktA exA 40)) n N j bs cur K ks tm H
theorem s2 (hW : W0 W) (N j : Nat) (bs : List Bool) (m : Nat) (nw : List (Nat × V)) (H' : Heap) {cur c' : Cur} {K K' : List Fr} {n : Nat} {tm : List (Nat × V)} {H : Heap} {Q : Ex → St → Prop} (hq : CG P (gl W) c' K' n (upd m nw tm) H' Q) (h1 : ctlJ N j bs cur K = some (c', K') := by rfl) (h2 : rg W n N j bs cur K ((upd m nw tm).map Prod.fst) tm H = some (.tuple ((upd m nw tm).map Prod.snd), H') := by kernel_rfl) : CG P (gl W) cur K n tm H Q :=
  CG.st orders (callX_ok hW (exA_ok hW) _ (rawX_ok hW (exA_ok hW) 40)) (pcallX_ok hW (exA_ok hW) _ (rawX_ok hW (exA_ok hW) 40)) N j bs h1 h2 hq
theorem s1 (hW : W0 W) (N j : Nat) (bs : List Bool) (m : Nat) (nw : List (Nat × V)) {cur c' : Cur} {K K' : List Fr} {n : Nat} {tm : List (Nat × V)} {H : Heap} {Q : Ex → St → Prop} (hq : CG P (gl W) c' K' n (upd m nw tm) H Q) (h1 : ctlJ N j bs cur K = some (c', K') := by rfl) (h2 : rg W n N j bs cur K ((upd m nw tm).map Prod.fst) tm H = some (.tuple ((upd m nw tm).map Prod.snd), H) := by kernel_rfl) : CG P (gl W) cur K n tm H Q := s2 hW N j bs m nw H hq h1 h2
theorem s4 (hW : W0 W) (N j : Nat) (bs : List Bool) (m : Nat) (nw : List (Nat × V)) (hd : List (Nat × Box)) {cur c' : Cur} {K K' : List Fr} {n : Nat} {tm : List (Nat × V)} {H : Heap} {Q : Ex → St → Prop} (hq : CG P (gl W) c' K' n (upd m nw tm) (hpu hd H) Q) (h1 : ctlJ N j bs cur K = some (c', K') := by rfl) (h2 : rg W n N j bs cur K ((upd m nw tm).map Prod.fst) tm H = some (.tuple ((upd m nw tm).map Prod.snd), hpu hd H) := by kernel_rfl) : CG P (gl W) cur K n tm H Q := s2 hW N j bs m nw (hpu hd H) hq h1 h2
theorem s3 (hW : W0 W) (N j : Nat) (bs : List Bool) (tm' : List (Nat × V)) (H' : Heap) {cur c' : Cur} {K K' : List Fr} {n : Nat} {tm : List (Nat × V)} {H : Heap} {Q : Ex → St → Prop} (hq : CG P (gl W) c' K' n tm' H' Q) (h1 : ctlJ N j bs cur K = some (c', K') := by rfl) (h2 : rg W n N j bs cur K (tm'.map Prod.fst) tm H = some (.tuple (tm'.map Prod.snd), H') := by kernel_rfl) : CG P (gl W) cur K n tm H Q :=
  CG.st orders (callX_ok hW (exA_ok hW) _ (rawX_ok hW (exA_ok hW) 40)) (pcallX_ok hW (exA_ok hW) _ (rawX_ok hW (exA_ok hW) 40)) N j bs h1 h2 hq
theorem frm_okc {c : Con} {a : List Lin} {x : List Bool} (h : fewC c = true) (hk : knownB c = true) (hf : frm [] [] c.gs c.ws = some (a, x)) : Okc c [] a x := by
  obtain ⟨k1, k2, k3, k4, k5, k6, k7, k8, k9⟩ := fewC_all h
  obtain ⟨h1, h2⟩ := frm_len c.gs c.ws [] [] hf
  have := (fit_of hk).le
  refine ⟨(fewC_sm h).1, fun t ht => fewT_okD (k2 t ht), fewT_okD k6, by simp, ?_, by simp at h1; omega⟩
  rcases h2 with rfl | ⟨g, hg, k, rfl⟩
  · exact ⟨by simp, by simp⟩
  · have hd := fewT_okD (k1 g hg)
    exact ⟨by have := hd.1; simp; omega, fun y hy => hd.2 y (List.mem_of_mem_take hy)⟩
theorem law_unique (hW : W0 W) (c : Con) (hs : Con.wd c) (row : List UInt8) (dims : List Lin) (hd : dims.length < 9223372036854775808 ∧ ∀ x ∈ dims, Lin.wd x) (bs : List Bool) (hb : bs.length < 9223372036854775808) : PC P (gl W) 5 [.agg (Con.cells c), vS row dims, .d (.list (bs.map encB))] (.d (.bool true)) := by
  refine CG.start is5 ca5 rfl ?_
  have hF := pc_few hW c hs
  have hG := pc_fewS hW row dims hd.1 hd.2
  cases hfc : fewC c with
  | false =>
    rw [hfc] at hF
    refine s4 hW 5 4 [] 4 [(3, (.ptr 0 18 0)), (4, (.ptr 1 2 0)), (6, (bo false)), (12, (bo false)), (13, (.agg (Con.cells c)))] [(0, (.cells (Con.cells c))), (1, (.cells [(so row), (lo Lin.enc dims)]))] ?_
    refine CG.pg (hF) rfl (by kernel_rfl) ?_
    refine s1 hW 6 0 [true] 7 [(6, (bo true))] ?_
    refine CG.ret (v' := (bo true)) (by kernel_rfl) ?_
    with_reducible rfl
  | true =>
    rw [hfc] at hF
    cases hfs : fewS row dims with
    | false =>
      rw [hfs] at hG
      refine s4 hW 5 4 [] 4 [(3, (.ptr 0 18 0)), (4, (.ptr 1 2 0)), (6, (bo false)), (12, (bo false)), (13, (.agg (Con.cells c)))] [(0, (.cells (Con.cells c))), (1, (.cells [(so row), (lo Lin.enc dims)]))] ?_
      refine CG.pg (hF) rfl (by kernel_rfl) ?_
      refine s1 hW 0 4 [] 15 [(17, (bo false)), (18, (.agg [(so row), (lo Lin.enc dims)]))] ?_
      refine CG.pg (hG) rfl (by kernel_rfl) ?_
      refine s1 hW 6 0 [true] 7 [(6, (bo true))] ?_
      refine CG.ret (v' := (bo true)) (by kernel_rfl) ?_
      with_reducible rfl
    | true =>
      rw [hfs] at hG
      by_cases h18 : bs.length ≤ 18
      · have hok : Okc c row dims bs := okc_of hfc hfs h18
        have hK := pc_known hW c hok.sm
        cases hk : knownB c with
        | false =>
          rw [hk] at hK
          refine s4 hW 5 4 [] 4 [(3, (.ptr 0 18 0)), (4, (.ptr 1 2 0)), (6, (bo false)), (12, (bo false)), (13, (.agg (Con.cells c)))] [(0, (.cells (Con.cells c))), (1, (.cells [(so row), (lo Lin.enc dims)]))] ?_
          refine CG.pg (hF) rfl (by kernel_rfl) ?_
          refine s1 hW 0 4 [] 15 [(17, (bo false)), (18, (.agg [(so row), (lo Lin.enc dims)]))] ?_
          refine CG.pg (hG) rfl (by kernel_rfl) ?_
          refine s1 hW 0 8 [] 15 [(27, (bo (iLt 18 (Int.ofNat (List.length (List.map encB bs))))))] ?_
          have q18 : (iLt 18 (Int.ofNat (List.length (List.map encB bs)))) = false := f_lt (by (try simp only [zz] at *) <;> omega)
          rw [q18]
          refine s1 hW 0 1 [] 31 [(28, (.agg (Con.cells c)))] ?_
          refine CG.pg (hK) rfl (by kernel_rfl) ?_
          refine s1 hW 6 0 [true] 7 [(6, (bo true))] ?_
          refine CG.ret (v' := (bo true)) (by kernel_rfl) ?_
          with_reducible rfl
        | true =>
          rw [hk] at hK
          have hH := pc_holds hW c row dims bs hok
          cases hh : holdsB c row dims bs with
          | false =>
            rw [hh] at hH
            refine s4 hW 5 4 [] 4 [(3, (.ptr 0 18 0)), (4, (.ptr 1 2 0)), (6, (bo false)), (12, (bo false)), (13, (.agg (Con.cells c)))] [(0, (.cells (Con.cells c))), (1, (.cells [(so row), (lo Lin.enc dims)]))] ?_
            refine CG.pg (hF) rfl (by kernel_rfl) ?_
            refine s1 hW 0 4 [] 15 [(17, (bo false)), (18, (.agg [(so row), (lo Lin.enc dims)]))] ?_
            refine CG.pg (hG) rfl (by kernel_rfl) ?_
            refine s1 hW 0 8 [] 15 [(27, (bo (iLt 18 (Int.ofNat (List.length (List.map encB bs))))))] ?_
            have q20 : (iLt 18 (Int.ofNat (List.length (List.map encB bs)))) = false := f_lt (by (try simp only [zz] at *) <;> omega)
            rw [q20]
            refine s1 hW 0 1 [] 31 [(28, (.agg (Con.cells c)))] ?_
            refine CG.pg (hK) rfl (by kernel_rfl) ?_
            refine s1 hW 0 6 [] 15 [(32, (bo false)), (33, (.agg (Con.cells c))), (34, (.agg [(so row), (lo Lin.enc dims)])), (35, (lo encB bs))] ?_
            refine CG.pg (hH) rfl (by kernel_rfl) ?_
            refine s1 hW 6 0 [true] 7 [(6, (bo true))] ?_
            refine CG.ret (v' := (bo true)) (by kernel_rfl) ?_
            with_reducible rfl
          | true =>
            rw [hh] at hH
            obtain ⟨a, x, hf, hha, hcase⟩ := unique_plain hk hh
            have h1 := pc_frame hW c hok.sm (fewC_sm hfc).2.1
            rw [show frameF c = outF a x 0 from by rw [frameF, hk, hf]; rfl] at h1
            unfold outF at h1
            have h2 := pc_holds hW c [] a x (frm_okc hfc hk hf)
            rw [hha] at h2
            rcases hcase with rfl | ⟨rfl, rfl, rfl⟩
            · refine s4 hW 5 4 [] 4 [(3, (.ptr 0 18 0)), (4, (.ptr 1 2 0)), (6, (bo false)), (12, (bo false)), (13, (.agg (Con.cells c)))] [(0, (.cells (Con.cells c))), (1, (.cells [(so row), (.d (.list []))]))] ?_
              refine CG.pg (hF) rfl (by kernel_rfl) ?_
              refine s1 hW 0 8 [] 15 [(22, (bo (!!iLt 35 (Int.ofNat (List.length row)))))] ?_
              refine spLtN 35 (List.length row) (fun q26 p26 => ?_) (fun q26 p26 => ?_)
              have q27 : (iLt 35 (Int.ofNat (List.length row))) = true := t_lt (by (try simp only [zz] at *) <;> omega)
              rw [q27]
              refine s1 hW 6 0 [true] 7 [(6, (bo true))] ?_
              refine CG.ret (v' := (bo true)) (by kernel_rfl) ?_
              with_reducible rfl
              have q28 : (iLt 35 (Int.ofNat (List.length row))) = false := f_lt (by (try simp only [zz] at *) <;> omega)
              rw [q28]
              refine s1 hW 0 5 [] 15 [(27, (bo (iLt 18 (Int.ofNat (List.length (List.map encB bs))))))] ?_
              have q29 : (iLt 18 (Int.ofNat (List.length (List.map encB bs)))) = false := f_lt (by (try simp only [zz] at *) <;> omega)
              rw [q29]
              refine s1 hW 0 1 [] 31 [(28, (.agg (Con.cells c)))] ?_
              refine CG.pg (hK) rfl (by kernel_rfl) ?_
              refine s1 hW 0 6 [] 15 [(32, (bo false)), (33, (.agg (Con.cells c))), (34, (.agg [(so row), (.d (.list []))])), (35, (lo encB bs))] ?_
              refine CG.pg (hH) rfl (by kernel_rfl) ?_
              refine s1 hW 6 1 [false] 15 [(41, (.agg (Con.cells c)))] ?_
              refine CG.pg (h1) rfl (by kernel_rfl) ?_
              refine s4 hW 3 6 [] 13 [(7, (.ptr 2 2 0)), (8, (lo encB x)), (48, (bo true)), (49, (.agg (Con.cells c))), (50, (.agg [(so []), (lo Lin.enc a)])), (51, (lo encB x))] [(2, (.cells [(so []), (lo Lin.enc a)]))] ?_
              refine CG.pg (h2) rfl (by kernel_rfl) ?_
              refine s1 hW 2 0 [] 0 [(6, (bo true))] ?_
              refine CG.ret (v' := (bo true)) (by kernel_rfl) ?_
              with_reducible rfl
            · have h3 := pc_shR hW [] [] a a (okL_of hok.dims) (okL_of hok.dims)
              rw [shEq_self] at h3
              have h4 := pc_same_self hW x hok.bs
              refine s4 hW 5 4 [] 4 [(3, (.ptr 0 18 0)), (4, (.ptr 1 2 0)), (6, (bo false)), (12, (bo false)), (13, (.agg (Con.cells c)))] [(0, (.cells (Con.cells c))), (1, (.cells [(so []), (lo Lin.enc a)]))] ?_
              refine CG.pg (hF) rfl (by kernel_rfl) ?_
              refine s1 hW 0 4 [] 15 [(17, (bo false)), (18, (.agg [(so []), (lo Lin.enc a)]))] ?_
              refine CG.pg (hG) rfl (by kernel_rfl) ?_
              refine s1 hW 0 8 [] 15 [(27, (bo (iLt 18 (Int.ofNat (List.length (List.map encB x))))))] ?_
              have q25 : (iLt 18 (Int.ofNat (List.length (List.map encB x)))) = false := f_lt (by (try simp only [zz] at *) <;> omega)
              rw [q25]
              refine s1 hW 0 1 [] 31 [(28, (.agg (Con.cells c)))] ?_
              refine CG.pg (hK) rfl (by kernel_rfl) ?_
              refine s1 hW 0 6 [] 15 [(32, (bo false)), (33, (.agg (Con.cells c))), (34, (.agg [(so []), (lo Lin.enc a)])), (35, (lo encB x))] ?_
              refine CG.pg (hH) rfl (by kernel_rfl) ?_
              refine s1 hW 6 1 [false] 15 [(41, (.agg (Con.cells c)))] ?_
              refine CG.pg (h1) rfl (by kernel_rfl) ?_
              refine s4 hW 3 6 [] 13 [(7, (.ptr 2 2 0)), (8, (lo encB x)), (48, (bo true)), (49, (.agg (Con.cells c))), (50, (.agg [(so []), (lo Lin.enc a)])), (51, (lo encB x))] [(2, (.cells [(so []), (lo Lin.enc a)]))] ?_
              refine CG.pg (hH) rfl (by kernel_rfl) ?_
              refine s1 hW 0 7 [] 31 [(54, (bo true)), (59, (bo (iEq (Int.ofNat (List.length (List.map Lin.enc a))) 0)))] ?_
              refine spEqN (List.length (List.map Lin.enc a)) 0 (fun q27 p27 => ?_) (fun q27 p27 => ?_) <;> simp only [zz] at p27
              have q28 : (iEq (Int.ofNat (List.length (List.map Lin.enc a))) 0) = true := t_eq (by (try simp only [zz] at *) <;> omega)
              rw [q28]
              refine s1 hW 2 0 [] 0 [(6, (bo true))] ?_
              refine CG.ret (v' := (bo true)) (by kernel_rfl) ?_
              with_reducible rfl
              have q29 : (iEq (Int.ofNat (List.length (List.map Lin.enc a))) 0) = false := f_eq (by (try simp only [zz] at *) <;> omega)
              rw [q29]
              refine s1 hW 0 2 [] 117 [(60, (.agg [(so []), (lo Lin.enc a)])), (61, (.agg [(so []), (lo Lin.enc a)]))] ?_
              refine CG.pg (h3) rfl (by kernel_rfl) ?_
              refine s1 hW 0 3 [] 26 [(63, (bo true)), (64, (lo encB x)), (65, (lo encB x))] ?_
              refine CG.pg (h4) rfl (by kernel_rfl) ?_
              refine s1 hW 2 0 [] 0 [(6, (bo true))] ?_
              refine CG.ret (v' := (bo true)) (by kernel_rfl) ?_
              with_reducible rfl
      · refine s4 hW 5 4 [] 4 [(3, (.ptr 0 18 0)), (4, (.ptr 1 2 0)), (6, (bo false)), (12, (bo false)), (13, (.agg (Con.cells c)))] [(0, (.cells (Con.cells c))), (1, (.cells [(so row), (lo Lin.enc dims)]))] ?_
        refine CG.pg (hF) rfl (by kernel_rfl) ?_
        refine s1 hW 0 4 [] 15 [(17, (bo false)), (18, (.agg [(so row), (lo Lin.enc dims)]))] ?_
        refine CG.pg (hG) rfl (by kernel_rfl) ?_
        refine s1 hW 0 8 [] 15 [(27, (bo (iLt 18 (Int.ofNat (List.length (List.map encB bs))))))] ?_
        have q15 : (iLt 18 (Int.ofNat (List.length (List.map encB bs)))) = true := t_lt (by (try simp only [zz] at *) <;> omega)
        rw [q15]
        refine s1 hW 6 0 [true] 7 [(6, (bo true))] ?_
        refine CG.ret (v' := (bo true)) (by kernel_rfl) ?_
        with_reducible rfl
end Fw.Tz.Lu
