/-
  AgreeValues: the call returns true.
-/
import Derived.Test.YtgfgckimecpmlaaGreatDoorTn
import Derived.Test.YtgfgckimecpmlaaGreatDoorTd
import Derived.Test.YtgfgckimecpmlaaGreatDoorFg
import Derived.Test.YtgfgckimecpmlaaGreatDoorTe

set_option linter.unusedSimpArgs false
set_option maxRecDepth 1000000
set_option maxHeartbeats 4000000
namespace Fw.Tz.Lv
open Go Go.Proofs Fw.X Fw.Tz Fw.Nu Fw.Tz.Na Fw.Tz.El Fw.Tz.Va Fw.Tz.Vb Fw.Tz.Vc Fw.Tz.Vd Fw.Tz.Vh Fw.Tz.Eq Fw.Tz.Ew Fw.Tz.Fg Fw.Tz.Pp Fw.Tz.Pa Fw.Tz.Pb Fw.Tz.Pc Fw.Tz.Pd Fw.Tz.Ph Fw.Tz.Lp Fw.Tz.Ve Fw.Tz.Xa Fw.Tz.Xb Fw.Tz.Pv
variable {W : World}
noncomputable def rk (W : World) (n : Nat) (c : IR) (ks : List Nat) (tm : List (Nat × V)) (H : Heap) : Option XR :=
  runP [126] (gl W) (callX W ktA exA (rawX W ktA exA 40)) (pcallX ktA exA (rawX W ktA exA 40)) n c ks tm H
noncomputable def rg (W : World) (n : Nat) (N j : Nat) (bs : List Bool) (cur : Cur) (K : List Fr) (ks : List Nat) (tm : List (Nat × V)) (H : Heap) : Option XR :=
  runG [126] (gl W) (callX W ktA exA (rawX W ktA exA 40)) (pcallX ktA exA (rawX W ktA exA 40)) n N j bs cur K ks tm H
theorem s2 (hW : W0 W) (N j : Nat) (bs : List Bool) (m : Nat) (nw : List (Nat × V)) (H' : Heap) {cur c' : Cur} {K K' : List Fr} {n : Nat} {tm : List (Nat × V)} {H : Heap} {Q : Ex → St → Prop} (hq : CG P (gl W) c' K' n (upd m nw tm) H' Q) (h1 : ctlJ N j bs cur K = some (c', K') := by rfl) (h2 : rg W n N j bs cur K ((upd m nw tm).map Prod.fst) tm H = some (.tuple ((upd m nw tm).map Prod.snd), H') := by kernel_rfl) : CG P (gl W) cur K n tm H Q :=
  CG.st orders (callX_ok hW (exA_ok hW) _ (rawX_ok hW (exA_ok hW) 40)) (pcallX_ok hW (exA_ok hW) _ (rawX_ok hW (exA_ok hW) 40)) N j bs h1 h2 hq
theorem s1 (hW : W0 W) (N j : Nat) (bs : List Bool) (m : Nat) (nw : List (Nat × V)) {cur c' : Cur} {K K' : List Fr} {n : Nat} {tm : List (Nat × V)} {H : Heap} {Q : Ex → St → Prop} (hq : CG P (gl W) c' K' n (upd m nw tm) H Q) (h1 : ctlJ N j bs cur K = some (c', K') := by rfl) (h2 : rg W n N j bs cur K ((upd m nw tm).map Prod.fst) tm H = some (.tuple ((upd m nw tm).map Prod.snd), H) := by kernel_rfl) : CG P (gl W) cur K n tm H Q := s2 hW N j bs m nw H hq h1 h2
theorem s4 (hW : W0 W) (N j : Nat) (bs : List Bool) (m : Nat) (nw : List (Nat × V)) (hd : List (Nat × Box)) {cur c' : Cur} {K K' : List Fr} {n : Nat} {tm : List (Nat × V)} {H : Heap} {Q : Ex → St → Prop} (hq : CG P (gl W) c' K' n (upd m nw tm) (hpu hd H) Q) (h1 : ctlJ N j bs cur K = some (c', K') := by rfl) (h2 : rg W n N j bs cur K ((upd m nw tm).map Prod.fst) tm H = some (.tuple ((upd m nw tm).map Prod.snd), hpu hd H) := by kernel_rfl) : CG P (gl W) cur K n tm H Q := s2 hW N j bs m nw (hpu hd H) hq h1 h2
theorem s3 (hW : W0 W) (N j : Nat) (bs : List Bool) (tm' : List (Nat × V)) (H' : Heap) {cur c' : Cur} {K K' : List Fr} {n : Nat} {tm : List (Nat × V)} {H : Heap} {Q : Ex → St → Prop} (hq : CG P (gl W) c' K' n tm' H' Q) (h1 : ctlJ N j bs cur K = some (c', K') := by rfl) (h2 : rg W n N j bs cur K (tm'.map Prod.fst) tm H = some (.tuple (tm'.map Prod.snd), H') := by kernel_rfl) : CG P (gl W) cur K n tm H Q :=
  CG.st orders (callX_ok hW (exA_ok hW) _ (rawX_ok hW (exA_ok hW) 40)) (pcallX_ok hW (exA_ok hW) _ (rawX_ok hW (exA_ok hW) 40)) N j bs h1 h2 hq
open Fw.Tz.Dm (encL pc_sameInts pc_sameFramed)
open Fw.Tz.Da (dimsF pc_dims)
theorem law_values (hW : W0 W) (c : Con) (hs : Con.wd c) (vals : List Cf) (hv : vals.length < 9223372036854775808) : PC P (gl W) 9 [.agg (Con.cells c), .d (.list (vals.map Cf.enc))] (.d (.bool true)) := by
  refine CG.start is9 ca9 rfl ?_
  have hF := pc_few hW c hs
  cases hfc : fewC c with
  | false =>
    rw [hfc] at hF
    refine s4 hW 5 4 [] 2 [(2, (.ptr 0 18 0)), (4, (bo false)), (22, (bo false)), (23, (.agg (Con.cells c)))] [(0, (.cells (Con.cells c)))] ?_
    refine CG.pg (hF) rfl (by kernel_rfl) ?_
    refine s1 hW 6 0 [true] 3 [(4, (bo true))] ?_
    refine CG.ret (v' := (bo true)) (by kernel_rfl) ?_
    with_reducible rfl
  | true =>
    rw [hfc] at hF
    by_cases h6 : vals.length ≤ 6
    · have hsm := (fewC_sm hfc).1
      have hK := pc_known hW c hsm
      cases hk : knownB c with
      | false =>
        rw [hk] at hK
        refine s4 hW 5 4 [] 2 [(2, (.ptr 0 18 0)), (4, (bo false)), (22, (bo false)), (23, (.agg (Con.cells c)))] [(0, (.cells (Con.cells c)))] ?_
        refine CG.pg (hF) rfl (by kernel_rfl) ?_
        refine s1 hW 0 8 [] 7 [(32, (bo (iLt 6 (Int.ofNat (List.length (List.map Cf.enc vals))))))] ?_
        have q13 : (iLt 6 (Int.ofNat (List.length (List.map Cf.enc vals)))) = false := f_lt (by (try simp only [zz] at *) <;> omega)
        rw [q13]
        refine s1 hW 0 1 [] 15 [(33, (.agg (Con.cells c)))] ?_
        refine CG.pg (hK) rfl (by kernel_rfl) ?_
        refine s1 hW 6 0 [true] 3 [(4, (bo true))] ?_
        refine CG.ret (v' := (bo true)) (by kernel_rfl) ?_
        with_reducible rfl
      | true =>
        rw [hk] at hK
        have h1 := pc_frame hW c hsm (fewC_sm hfc).2.1
        cases hf : frm [] [] c.gs c.ws with
        | none =>
          rw [show frameF c = outF [] [] 13 from by rw [frameF, hk, hf]; rfl] at h1
          unfold outF at h1
          refine s4 hW 5 4 [] 2 [(2, (.ptr 0 18 0)), (4, (bo false)), (22, (bo false)), (23, (.agg (Con.cells c)))] [(0, (.cells (Con.cells c)))] ?_
          refine CG.pg (hF) rfl (by kernel_rfl) ?_
          refine s1 hW 0 8 [] 7 [(32, (bo (iLt 6 (Int.ofNat (List.length (List.map Cf.enc vals))))))] ?_
          have q15 : (iLt 6 (Int.ofNat (List.length (List.map Cf.enc vals)))) = false := f_lt (by (try simp only [zz] at *) <;> omega)
          rw [q15]
          refine s1 hW 0 1 [] 15 [(33, (.agg (Con.cells c)))] ?_
          refine CG.pg (hK) rfl (by kernel_rfl) ?_
          refine s1 hW 6 1 [false] 7 [(39, (.agg (Con.cells c)))] ?_
          refine CG.pg (h1) rfl (by kernel_rfl) ?_
          refine s4 hW 10 0 [true] 3 [(4, (bo true)), (6, (.d (.list [])))] [(1, (.cells [(so []), (.d (.list []))]))] ?_
          refine CG.ret (v' := (bo true)) (by kernel_rfl) ?_
          with_reducible rfl
        | some p =>
          obtain ⟨fr, fd⟩ := p
          rw [show frameF c = outF fr fd 0 from by rw [frameF, hk, hf]; rfl] at h1
          unfold outF at h1
          have h2 := pc_holds hW c [] fr fd (Fw.Tz.Lu.frm_okc hfc hk hf)
          cases hh : holdsB c [] fr fd with
          | false =>
            rw [hh] at h2
            refine s4 hW 5 4 [] 2 [(2, (.ptr 0 18 0)), (4, (bo false)), (22, (bo false)), (23, (.agg (Con.cells c)))] [(0, (.cells (Con.cells c)))] ?_
            refine CG.pg (hF) rfl (by kernel_rfl) ?_
            refine s1 hW 0 8 [] 7 [(32, (bo (iLt 6 (Int.ofNat (List.length (List.map Cf.enc vals))))))] ?_
            have q19 : (iLt 6 (Int.ofNat (List.length (List.map Cf.enc vals)))) = false := f_lt (by (try simp only [zz] at *) <;> omega)
            rw [q19]
            refine s1 hW 0 1 [] 15 [(33, (.agg (Con.cells c)))] ?_
            refine CG.pg (hK) rfl (by kernel_rfl) ?_
            refine s1 hW 6 1 [false] 7 [(39, (.agg (Con.cells c)))] ?_
            refine CG.pg (h1) rfl (by kernel_rfl) ?_
            refine s4 hW 4 6 [] 7 [(6, (lo Vf.encB fd)), (46, (bo false)), (47, (.agg (Con.cells c))), (48, (.agg [(so []), (lo Lin.enc fr)])), (49, (lo Vf.encB fd))] [(1, (.cells [(so []), (lo Lin.enc fr)]))] ?_
            refine CG.pg (h2) rfl (by kernel_rfl) ?_
            refine s1 hW 6 0 [true] 11 [(4, (bo true))] ?_
            refine CG.ret (v' := (bo true)) (by kernel_rfl) ?_
            with_reducible rfl
          | true =>
            rw [hh] at h2
            have hfit := fit_of hk
            have hle := hfit.le
            have hlen := hfit.len
            obtain ⟨k1, k2, k3, k4, k5, k6, k7, k8, k9⟩ := fewC_all hfc
            refine s4 hW 5 4 [] 2 [(2, (.ptr 0 18 0)), (4, (bo false)), (22, (bo false)), (23, (.agg (Con.cells c)))] [(0, (.cells (Con.cells c)))] ?_
            refine CG.pg (hF) rfl (by kernel_rfl) ?_
            refine s1 hW 0 8 [] 7 [(32, (bo (iLt 6 (Int.ofNat (List.length (List.map Cf.enc vals))))))] ?_
            have q31 : (iLt 6 (Int.ofNat (List.length (List.map Cf.enc vals)))) = false := f_lt (by (try simp only [zz] at *) <;> omega)
            rw [q31]
            refine s1 hW 0 1 [] 15 [(33, (.agg (Con.cells c)))] ?_
            refine CG.pg (hK) rfl (by kernel_rfl) ?_
            refine s1 hW 6 1 [false] 7 [(39, (.agg (Con.cells c)))] ?_
            refine CG.pg (h1) rfl (by kernel_rfl) ?_
            refine s4 hW 4 6 [] 7 [(6, (lo Vf.encB fd)), (46, (bo false)), (47, (.agg (Con.cells c))), (48, (.agg [(so []), (lo Lin.enc fr)])), (49, (lo Vf.encB fd))] [(1, (.cells [(so []), (lo Lin.enc fr)]))] ?_
            refine CG.pg (h2) rfl (by kernel_rfl) ?_
            refine s1 hW 16 0 [false] 15 [(8, .nils), (9, .nils), (55, (no (List.length (List.map Ty.enc (Con.gs c))))), (56, (io 0))] ?_
            rotate_left
            refine CG.tidy (Tidy.nilS 8 1 (tm' := [(1, (lo Cf.enc vals)), (2, (.ptr 0 18 0)), (4, (bo false)), (6, (lo Vf.encB fd)), (8, .sl 2 0 0 0 1), (9, .nils), (55, (no (List.length (List.map Ty.enc (Con.gs c))))), (56, (io 0))]) (Nat.le_refl _) (by kernel_rfl) (by kernel_rfl)) ?_
            refine CG.isH ([some (.cells (Con.cells c)), some (.cells [(so []), (lo Lin.enc fr)]), some .nil]) (by kernel_rfl) ?_
            refine CG.tidy (Tidy.nilS 9 1 (tm' := [(1, (lo Cf.enc vals)), (2, (.ptr 0 18 0)), (4, (bo false)), (6, (lo Vf.encB fd)), (8, (.sl 2 0 0 0 1)), (9, .sl 3 0 0 0 1), (55, (no (List.length (List.map Ty.enc (Con.gs c))))), (56, (io 0))]) (Nat.le_refl _) (by kernel_rfl) (by kernel_rfl)) ?_
            refine CG.isH ([some (.cells (Con.cells c)), some (.cells [(so []), (lo Lin.enc fr)]), some .nil, some .nil]) (by kernel_rfl) ?_
            refine CG.is [(1, (lo Cf.enc vals)), (2, (.ptr 0 18 0)), (4, (bo false)), (6, (lo Vf.encB fd)), (8, .sl 2 (List.length ([] : List (List Int)) * 1) 0 (List.length ([] : List (List Int))) 1), (9, (.sl 3 0 0 0 1)), (55, (no (List.length (List.map Ty.enc (Con.gs c))))), (56, (io 0))] ([some (.cells (Con.cells c)), some (.cells [(so []), (lo Lin.enc fr)]), some (rowE encL ([] : List (List Int))), some .nil]) (by kernel_rfl) ?_
            refine CG.is [(1, (lo Cf.enc vals)), (2, (.ptr 0 18 0)), (4, (bo false)), (6, (lo Vf.encB fd)), (8, (.sl 2 0 0 0 1)), (9, .sl 3 (List.length ([] : List Int) * 1) 0 (List.length ([] : List Int)) 1), (55, (no (List.length (List.map Ty.enc (Con.gs c))))), (56, (io 0))] ([some (.cells (Con.cells c)), some (.cells [(so []), (lo Lin.enc fr)]), some (rowE encL []), some (rowE Fw.Tz.Dm.encI ([] : List Int))]) (by kernel_rfl) ?_
            refine CG.loopL c.gs (fun i a => [(1, (lo Cf.enc vals)), (2, (.ptr 0 18 0)), (4, (bo false)), (6, (lo Vf.encB fd)), (8, .sl 2 (a.1.length * 1) 0 a.1.length 1), (9, .sl 3 (a.2.length * 1) 0 a.2.length 1), (55, (no (List.length (List.map Ty.enc (Con.gs c))))), (56, .d (.int .i64 (.ofNat i)))]) (fun i a => [some (.cells (Con.cells c)), some (.cells [(so []), (lo Lin.enc fr)]), some (rowE encL a.1), some (rowE Fw.Tz.Dm.encI a.2)]) (fun i a r => (evTs (okV vals) (c.gs.take i) = some a.1 ∧ a.2 = (c.ws.take i).map rankOf)) (([], []) : List (List Int) × List Int) ?_ (Tidy.refl _ _) ?_ ?_
            · exact ⟨rfl, rfl⟩
            · rintro i ⟨az, ks⟩ hi hd ⟨hA, hR⟩
              dsimp only at hA hR
              rw [hi, List.take_length] at hA
              rw [hi, hlen, List.take_length] at hR
              have o1 := fewT_okD k5
              have o2 := fewT_okD k6
              have e1 := pc_evS hW c.r.row c.r.dims vals o1.1 (fun x hx => (o1.2 x hx).1) (by omega)
              have e2 := pc_evS hW c.x.row c.x.dims vals o2.1 (fun x hx => (o2.2 x hx).1) (by omega)
              obtain ⟨so1, eo, ho⟩ : ∃ s e, evS vals c.r.row c.r.dims = (s, e) := ⟨_, _, rfl⟩
              obtain ⟨sc1, ec, hc⟩ : ∃ s e, evS vals c.x.row c.x.dims = (s, e) := ⟨_, _, rfl⟩
              rw [ho] at e1
              rw [hc] at e2
              unfold outE at e1 e2
              dsimp only at e1 e2
              change PC P (gl W) _ _ (.tuple [.d (.list (so1.map Fw.Tz.Dm.encI)), .d (.int .i64 eo)]) at e1
              change PC P (gl W) _ _ (.tuple [.d (.list (sc1.map Fw.Tz.Dm.encI)), .d (.int .i64 ec)]) at e2
              by_cases heo : eo = 0
              · by_cases hec : ec = 0
                · subst heo
                  subst hec
                  obtain ⟨s1', p1, p2⟩ := evS_ok (vals := vals) (row := c.r.row) (dims := c.r.dims) (by rw [ho])
                  obtain ⟨s2', p3, p4⟩ := evS_ok (vals := vals) (row := c.x.row) (dims := c.x.dims) (by rw [hc])
                  rw [ho] at p2
                  rw [hc] at p4
                  dsimp only at p2 p4
                  subst p2
                  subst p4
                  obtain ⟨dims, q1, q2⟩ := values_plain (okV vals) (okV_pos vals) hk hf hh hA p1 p3
                  have hal := evTs_len hA
                  have hD := pc_dims hW az ks (by omega) (by rw [hR, List.length_map]; omega) (fun r hr => by have := evTs_maxlen (k := 8) (fun t ht => by have := (fewT_okD (k1 t ht)); have h9 := k1 t ht; simp only [fewT, fewS, Bool.and_eq_true, decide_eq_true_eq] at h9; omega) hA r hr; omega) (fun k hk => by
                    rw [hR] at hk
                    obtain ⟨w, hw, rfl⟩ := List.mem_map.1 hk
                    have h9 := (fewT_okD (k2 w hw)).1
                    simp only [rankOf]; omega)
                  rw [hR] at hD
                  rw [q1] at hD
                  unfold Fw.Tz.Da.outV at hD
                  rw [← hR] at hD
                  refine CG.tidy (Tidy.frzE (sz := 1) encL (Prod.fst (az, ks)) 2 8 (tm' := [(1, (lo Cf.enc vals)), (2, (.ptr 0 18 0)), (4, (bo false)), (6, (lo Vf.encB fd)), (8, (.d (.list (List.map encL (Prod.fst (az, ks)))))), (9, (.sl 3 (List.length (Prod.snd (az, ks)) * 1) 0 (List.length (Prod.snd (az, ks))) 1)), (55, (no (List.length (List.map Ty.enc (Con.gs c))))), (56, (no i))]) (H' := [some (.cells (Con.cells c)), some (.cells [(so []), (lo Lin.enc fr)]), none, some (rowE Dm.encI (Prod.snd (az, ks)))]) (fun _ => rfl) (by kernel_rfl) (by kernel_rfl) ⟨.inr rfl, ⟨.inr rfl, ⟨.inl rfl, ⟨.inr (noref_row _ _ _), trivial⟩⟩⟩⟩ (by kernel_rfl) (by kernel_rfl)) ?_
                  refine CG.tidy (Tidy.frzE (sz := 1) Dm.encI (Prod.snd (az, ks)) 3 9 (tm' := [(1, (lo Cf.enc vals)), (2, (.ptr 0 18 0)), (4, (bo false)), (6, (lo Vf.encB fd)), (8, (lo encL (Prod.fst (az, ks)))), (9, (.d (.list (List.map Dm.encI (Prod.snd (az, ks)))))), (55, (no (List.length (List.map Ty.enc (Con.gs c))))), (56, (no i))]) (H' := [some (.cells (Con.cells c)), some (.cells [(so []), (lo Lin.enc fr)]), none, none]) (fun _ => rfl) (by kernel_rfl) (by kernel_rfl) ⟨.inr rfl, ⟨.inr rfl, ⟨.inr trivial, ⟨.inl rfl, trivial⟩⟩⟩⟩ (by kernel_rfl) (by kernel_rfl)) ?_
                  have hdl : dims.length ≤ 8 := by
                    have h9 := evAll_len p1
                    rw [q2, List.length_append] at h9
                    have := k5
                    simp only [fewT, fewS, Bool.and_eq_true, decide_eq_true_eq] at this
                    omega
                  have hsl : so1.length ≤ 8 := by
                    have h9 := evAll_len p1
                    have := k5
                    simp only [fewT, fewS, Bool.and_eq_true, decide_eq_true_eq] at this
                    omega
                  have hcl : sc1.length ≤ 8 := by
                    have h9 := congrArg List.length q2
                    rw [List.length_append] at h9
                    omega
                  have hq2 : (so1 == [] ++ dims ++ sc1) = true := by rw [q2]; simp
                  have hI := pc_sameInts hW so1 ([] ++ dims ++ sc1) (by omega)
                  have hS := pc_sameFramed hW fd fd (by have := (Fw.Tz.Lu.frm_okc hfc hk hf).bs; omega)
                  have hq1 : (fd == fd) = true := beq_self_eq_true _
                  rw [hq2] at hI
                  refine s1 hW 4 0 [] 191 [(57, (bo (iLt (Int.ofNat i) (Int.ofNat (List.length (List.map Ty.enc (Con.gs c)))))))] ?_
                  refine CG.condF (show (iLt (Int.ofNat i) (Int.ofNat (List.length (List.map Ty.enc (Con.gs c))))) = false from f_lt (by (try simp only [zz] at *) <;> omega)) (by kernel_rfl) ?_
                  refine CG.exitL (by decide) ?_
                  refine s1 hW 3 4 [] 63 [(91, (.agg [(so (Ty.row (Con.r c))), (lo Lin.enc (Ty.dims (Con.r c)))])), (92, (lo Cf.enc vals))] ?_
                  refine CG.pg (e1) rfl (by kernel_rfl) ?_
                  refine s1 hW 3 4 [] 60 [(13, (lo Dm.encI so1)), (14, (io 0)), (99, (.agg [(so (Ty.row (Con.x c))), (lo Lin.enc (Ty.dims (Con.x c)))])), (100, (lo Cf.enc vals))] ?_
                  refine CG.pg (e2) rfl (by kernel_rfl) ?_
                  refine s1 hW 10 2 [false] 19 [(15, (lo Dm.encI sc1)), (111, (lo encL (Prod.fst (az, ks)))), (112, (lo Dm.encI (Prod.snd (az, ks))))] ?_
                  refine CG.pg (hD) rfl (by kernel_rfl) ?_
                  refine s1 hW 3 5 [] 13 [(17, (lo Dm.encI dims)), (119, (bo true)), (120, (lo Dm.encB fd)), (121, (lo Vf.encB fd))] ?_
                  refine CG.pg (hS) rfl (by kernel_rfl) ?_
                  refine s1 hW 0 2 [] 15 [(124, (bo (fd == fd)))] ?_
                  rw [hq1]
                  refine s4 hW 0 3 [] 21 [(125, (lo Dm.encI so1)), (126, (.sl 4 0 0 0 1)), (127, (lo Dm.encI dims))] [(4, (.cells []))] ?_
                  rotate_left
                  refine CG.is [(4, (bo false)), (15, (lo Dm.encI sc1)), (124, (bo true)), (125, (lo Dm.encI so1)), (126, .sl 4 (List.length ([] : List Int) * 1) 0 (List.length ([] : List Int)) 1), (127, (lo Dm.encI dims))] ([some (.cells (Con.cells c)), some (.cells [(so []), (lo Lin.enc fr)]), none, none, some (cellE Fw.Tz.Dm.encI ([] : List Int))]) (by kernel_rfl) ?_
                  refine CG.apC Dm.encI [] dims 4 (fun _ => rfl) rfl (by kernel_rfl) (sliceC_map (enc := Dm.encI) (fun _ => rfl) _ dims) (by (try simp only [zz] at *) <;> omega) ?_
                  refine s1 hW 0 1 [] 77 [(129, (lo Dm.encI sc1))] ?_
                  refine CG.apC Dm.encI ([] ++ dims) sc1 4 (fun _ => rfl) rfl (by kernel_rfl) (sliceC_map (enc := Dm.encI) (fun _ => rfl) _ sc1) (by (try simp only [zz] at *) <;> omega) ?_
                  rotate_left
                  refine CG.tidyO (Tidy.frzC (sz := 1) Dm.encI ([] ++ dims ++ sc1) 4 130 (tm' := [(4, (bo false)), (124, (bo true)), (125, (lo Dm.encI so1)), (128, .any), (129, (lo Dm.encI sc1)), (130, (.d (.list (List.map Dm.encI ([] ++ dims ++ sc1)))))]) (H' := [some (.cells (Con.cells c)), some (.cells [(so []), (lo Lin.enc fr)]), none, none, none]) (fun _ => rfl) (by kernel_rfl) (by kernel_rfl) ⟨.inr rfl, ⟨.inr rfl, ⟨.inr trivial, ⟨.inr trivial, ⟨.inl rfl, trivial⟩⟩⟩⟩⟩ (by kernel_rfl) (by kernel_rfl)) ?_
                  refine CG.pg (hI) rfl (by kernel_rfl) ?_
                  refine s1 hW 2 0 [] 0 [(4, (bo true))] ?_
                  refine CG.ret (v' := (bo true)) (by kernel_rfl) ?_
                  with_reducible rfl
                · refine s1 hW 4 0 [] 191 [(57, (bo (iLt (Int.ofNat i) (Int.ofNat (List.length (List.map Ty.enc (Con.gs c)))))))] ?_
                  refine CG.condF (show (iLt (Int.ofNat i) (Int.ofNat (List.length (List.map Ty.enc (Con.gs c))))) = false from f_lt (by (try simp only [zz] at *) <;> omega)) (by kernel_rfl) ?_
                  refine CG.exitL (by decide) ?_
                  refine s1 hW 3 4 [] 63 [(91, (.agg [(so (Ty.row (Con.r c))), (lo Lin.enc (Ty.dims (Con.r c)))])), (92, (lo Cf.enc vals))] ?_
                  refine CG.pg (e1) rfl (by kernel_rfl) ?_
                  refine s1 hW 3 4 [] 60 [(13, (lo Dm.encI so1)), (14, (io eo)), (99, (.agg [(so (Ty.row (Con.x c))), (lo Lin.enc (Ty.dims (Con.x c)))])), (100, (lo Cf.enc vals))] ?_
                  refine CG.pg (e2) rfl (by kernel_rfl) ?_
                  refine s1 hW 4 3 [] 31 [(15, (lo Dm.encI sc1)), (16, (io ec)), (106, (bo (!iEq eo 0)))] ?_
                  have q51 : (iEq eo 0) = true := t_eq (by (try simp only [zz] at *) <;> omega)
                  rw [q51]
                  refine s1 hW 2 0 [] 63 [(109, (bo (!iEq ec 0)))] ?_
                  have q52 : (iEq ec 0) = false := f_eq (by (try simp only [zz] at *) <;> omega)
                  refine CG.condT (b := (!iEq ec 0)) (by rw [q52]; rfl) (by kernel_rfl) ?_
                  refine s1 hW 3 0 [] 62 [(4, (bo true))] ?_
                  refine CG.ret (v' := (bo true)) (by kernel_rfl) ?_
                  with_reducible rfl
              · refine s1 hW 4 0 [] 191 [(57, (bo (iLt (Int.ofNat i) (Int.ofNat (List.length (List.map Ty.enc (Con.gs c)))))))] ?_
                refine CG.condF (show (iLt (Int.ofNat i) (Int.ofNat (List.length (List.map Ty.enc (Con.gs c))))) = false from f_lt (by (try simp only [zz] at *) <;> omega)) (by kernel_rfl) ?_
                refine CG.exitL (by decide) ?_
                refine s1 hW 3 4 [] 63 [(91, (.agg [(so (Ty.row (Con.r c))), (lo Lin.enc (Ty.dims (Con.r c)))])), (92, (lo Cf.enc vals))] ?_
                refine CG.pg (e1) rfl (by kernel_rfl) ?_
                refine s1 hW 3 4 [] 60 [(13, (lo Dm.encI so1)), (14, (io eo)), (99, (.agg [(so (Ty.row (Con.x c))), (lo Lin.enc (Ty.dims (Con.x c)))])), (100, (lo Cf.enc vals))] ?_
                refine CG.pg (e2) rfl (by kernel_rfl) ?_
                refine s1 hW 4 3 [] 31 [(15, (lo Dm.encI sc1)), (16, (io ec)), (106, (bo (!iEq eo 0)))] ?_
                have q50 : (iEq eo 0) = false := f_eq (by (try simp only [zz] at *) <;> omega)
                rw [q50]
                refine s1 hW 6 0 [true] 62 [(4, (bo true))] ?_
                refine CG.ret (v' := (bo true)) (by kernel_rfl) ?_
                with_reducible rfl
            · rintro i ⟨az, ks⟩ x r hd hx hlt ⟨hA, hR⟩
              dsimp only at hA hR
              obtain ⟨w, hw⟩ : ∃ w, c.ws[i]? = some w := ⟨_, List.getElem?_eq_getElem (by omega)⟩
              have o1 := fewT_okD (k1 x (List.mem_of_getElem? hx))
              have hal : az.length = i := by have := evTs_len hA; rw [List.length_take] at this; omega
              have hkl : ks.length = i := by rw [hR, List.length_map, List.length_take]; omega
              have e1 := pc_evS hW x.row x.dims vals o1.1 (fun y hy => (o1.2 y hy).1) (by omega)
              obtain ⟨s, e, hs⟩ : ∃ s e, evS vals x.row x.dims = (s, e) := ⟨_, _, rfl⟩
              rw [hs] at e1
              unfold outE at e1
              dsimp only at e1
              by_cases he : e = 0
              · subst he
                obtain ⟨s', p1, p2⟩ := evS_ok (vals := vals) (row := x.row) (dims := x.dims) (by rw [hs])
                rw [hs] at p2
                dsimp only at p2
                subst p2
                have htk : c.gs.take (i + 1) = c.gs.take i ++ [x] := by rw [List.take_add_one, hx]; rfl
                have htw : c.ws.take (i + 1) = c.ws.take i ++ [w] := by rw [List.take_add_one, hw]; rfl
                refine s1 hW 4 0 [] 255 [(57, (bo (iLt (Int.ofNat i) (Int.ofNat (List.length (List.map Ty.enc (Con.gs c)))))))] ?_
                refine CG.condT (show (iLt (Int.ofNat i) (Int.ofNat (List.length (List.map Ty.enc (Con.gs c))))) = true from t_lt (by (try simp only [zz] at *) <;> omega)) (by kernel_rfl) ?_
                refine s1 hW 8 3 [] 255 [(10, (no i)), (61, (lo Ty.enc (Con.gs c))), (62, (no i))] ?_
                refine CG.ix (idx_map (enc := Ty.enc) hx) rfl (by kernel_rfl) ?_
                refine s1 hW 0 3 [] 511 [(65, (.agg [(so (Ty.row x)), (lo Lin.enc (Ty.dims x))])), (66, (lo Cf.enc vals))] ?_
                refine CG.pg (e1) rfl (by kernel_rfl) ?_
                refine s1 hW 9 0 [false] 511 [(11, (lo Xa.encI s))] ?_
                refine CG.drawW orders (by kernel_rfl) ?_
                refine AW.rk 3 [(72, (.sl 2 (List.length (Prod.fst (az, ks)) * 1) 0 (List.length (Prod.fst (az, ks))) 1)), (73, (lo Xa.encI s)), (74, (.sl 6 1 0 1 1))] [(6, (.cells [(lo Xa.encI s)]))] (by kernel_rfl) ?_
                rotate_left
                refine AW.appE1 encL az s (b := 2) (fun _ => rfl) rfl rfl (by kernel_rfl) (by kernel_rfl) (by kernel_rfl) (by kernel_rfl) (by simp only [Nat.mul_one]; omega) rfl ?_
                refine AW.rk 4 [(76, (.sl 3 (List.length (Prod.snd (az, ks)) * 1) 0 (List.length (Prod.snd (az, ks))) 1)), (77, (.ptr 0 18 9)), (78, (lo Ty.enc (Con.ws c))), (79, (no i))] [] (by kernel_rfl) ?_
                refine AW.idx (idx_map (enc := Ty.enc) hw) rfl (by kernel_rfl) (by kernel_rfl) (by kernel_rfl) rfl ?_
                refine AW.rk 5 [(81, (.cptr [(.str (Ty.row w)), (.list (List.map Lin.enc (Ty.dims w)))])), (82, (.cptr [(.list (List.map Lin.enc (Ty.dims w)))])), (83, (lo Lin.enc (Ty.dims w))), (84, (no (List.length (List.map Lin.enc (Ty.dims w))))), (85, (.sl 17 1 0 1 1))] [(17, (.cells [(no (List.length (List.map Lin.enc (Ty.dims w))))]))] (by kernel_rfl) ?_
                rotate_left
                refine AW.appE1 Fw.Tz.Dm.encI ks (Int.ofNat (List.length (List.map Lin.enc w.dims))) (b := 3) (fun _ => rfl) rfl rfl (by kernel_rfl) (by kernel_rfl) (by kernel_rfl) (by kernel_rfl) (by simp only [Nat.mul_one]; omega) rfl ?_
                refine AW.rk 2 [(8, (.sl 2 (List.length (az ++ [s]) * 1) 0 (List.length (az ++ [s])) 1)), (9, (.sl 3 (List.length (ks ++ [Int.ofNat (List.length (List.map Lin.enc (Ty.dims w)))]) * 1) 0 (List.length (ks ++ [Int.ofNat (List.length (List.map Lin.enc (Ty.dims w)))])) 1))] [] (by kernel_rfl) ?_
                refine AW.nil rfl ⟨by kernel_rfl, AW.fin (H2 := [some (.cells (Con.cells c)), some (.cells [(so []), (lo Lin.enc fr)]), some (rowE encL (az ++ [s])), some (rowE Dm.encI (ks ++ [Int.ofNat (List.length (List.map Lin.enc (Ty.dims w)))])), none, none, some (.cells [(lo Xa.encI s)])] ++ nn 10 ([some (.cells [(no (List.length (List.map Lin.enc (Ty.dims w))))])])) 18 [1, 2, 4, 6, 8, 9, 55, 56] (by kernel_rfl) rfl (by kernel_rfl) (by kernel_rfl) (by simp [nn, heapLt, boxLt_row, boxLt_cell, boxLt_cs, boxLt_nil, refsLtL, refsLt, Con.cells]) ?_⟩
                refine s3 hW 2 2 [] [(1, (lo Cf.enc vals)), (2, (.ptr 0 18 0)), (4, (bo false)), (6, (lo Vf.encB fd)), (8, (.sl 2 (List.length (az ++ [s]) * 1) 0 (List.length (az ++ [s])) 1)), (9, (.sl 3 (List.length (ks ++ [Int.ofNat (List.length (List.map Lin.enc (Ty.dims w)))]) * 1) 0 (List.length (ks ++ [Int.ofNat (List.length (List.map Lin.enc (Ty.dims w)))])) 1)), (55, (no (List.length (List.map Ty.enc (Con.gs c))))), (56, (io (wrapF IntKind.i64 (iAdd (Int.ofNat i) 1))))] ([some (.cells (Con.cells c)), some (.cells [(so []), (lo Lin.enc fr)]), some (rowE encL (az ++ [s])), some (rowE Dm.encI (ks ++ [Int.ofNat (List.length (List.map Lin.enc (Ty.dims w)))])), none, none, some (.cells [(lo Xa.encI s)])] ++ nn 10 ([some (.cells [(no (List.length (List.map Lin.enc (Ty.dims w))))])])) ?_
                refine CG.endL rfl ?_
                rw [wrapI (by omega)]
                rotate_left
                refine ⟨(az ++ [s], ks ++ [Int.ofNat (List.length (List.map Lin.enc w.dims))]), ⟨?_, ?_⟩, Tidy.trim 4 [1, 2, 4, 6, 8, 9, 55, 56] rfl rfl rfl rfl (by simp only [List.cons_append, List.take_succ_cons, List.take_zero, heapLt, boxLt_row]; rfl)⟩
                · rw [htk]; exact evTs_snoc (okV vals) x p1 _ hA
                · rw [htw, hR, List.map_append, List.length_map]; rfl
              · refine s1 hW 4 0 [] 255 [(57, (bo (iLt (Int.ofNat i) (Int.ofNat (List.length (List.map Ty.enc (Con.gs c)))))))] ?_
                refine CG.condT (show (iLt (Int.ofNat i) (Int.ofNat (List.length (List.map Ty.enc (Con.gs c))))) = true from t_lt (by (try simp only [zz] at *) <;> omega)) (by kernel_rfl) ?_
                refine s1 hW 8 3 [] 255 [(10, (no i)), (61, (lo Ty.enc (Con.gs c))), (62, (no i))] ?_
                refine CG.ix (idx_map (enc := Ty.enc) hx) rfl (by kernel_rfl) ?_
                refine s1 hW 0 3 [] 511 [(65, (.agg [(so (Ty.row x)), (lo Lin.enc (Ty.dims x))])), (66, (lo Cf.enc vals))] ?_
                refine CG.pg (e1) rfl (by kernel_rfl) ?_
                refine s1 hW 6 0 [] 511 [(11, (lo Xa.encI s)), (71, (bo (!iEq e 0)))] ?_
                have q52 : (iEq e 0) = false := f_eq (by (try simp only [zz] at *) <;> omega)
                refine CG.condT (b := (!iEq e 0)) (by rw [q52]; rfl) (by kernel_rfl) ?_
                refine s1 hW 3 0 [] 1019 [(4, (bo true))] ?_
                refine CG.retL (v' := (bo true)) (by kernel_rfl) ?_
                with_reducible rfl
    · refine s4 hW 5 4 [] 2 [(2, (.ptr 0 18 0)), (4, (bo false)), (22, (bo false)), (23, (.agg (Con.cells c)))] [(0, (.cells (Con.cells c)))] ?_
      refine CG.pg (hF) rfl (by kernel_rfl) ?_
      refine s1 hW 0 8 [] 7 [(32, (bo (iLt 6 (Int.ofNat (List.length (List.map Cf.enc vals))))))] ?_
      have q10 : (iLt 6 (Int.ofNat (List.length (List.map Cf.enc vals)))) = true := t_lt (by (try simp only [zz] at *) <;> omega)
      rw [q10]
      refine s1 hW 6 0 [true] 3 [(4, (bo true))] ?_
      refine CG.ret (v' := (bo true)) (by kernel_rfl) ?_
      with_reducible rfl
end Fw.Tz.Lv
