/-
  Dims of the reference, for any lists.
-/
import Derived.Test.YtgfgckimecpmlaaGreatDoorTe
import Derived.Test.YtgfgckimecpmlaaGreatDoorFg
import Derived.Test.YtgfgckimecpmlaaGreatDoorTd

set_option linter.unusedSimpArgs false
set_option maxRecDepth 1000000
set_option maxHeartbeats 4000000
namespace Fw.Tz.Dr
open Go Go.Proofs Fw.X Fw.Tz Fw.Tz.Dm Fw.Tz.Da
variable {W : World}
noncomputable def rd (W : World) (ov : List (Nat × Bool)) (sp : List (Nat × V)) (n : Nat) (l : List IOper) (ks : List Nat) (tm : List (Nat × V)) (H : Heap) : Option (List V × Heap × List (Bool × Bool) × CallL) :=
  runDX [92] (gl W) (dcallOf (pcallX kt0 .e (rawX W kt0 .e 40)) (callX W kt0 .e (rawX W kt0 .e 40))) ov sp n l ks tm H
noncomputable def rg (W : World) (n : Nat) (N j : Nat) (bs : List Bool) (cur : Cur) (K : List Fr) (ks : List Nat) (tm : List (Nat × V)) (H : Heap) : Option XR :=
  runG [92] (gl W) (callX W kt0 .e (rawX W kt0 .e 40)) (pcallX kt0 .e (rawX W kt0 .e 40)) n N j bs cur K ks tm H
theorem st (hW : W0 W) (N j : Nat) (bs : List Bool) {cur : Cur} {K : List Fr} {n : Nat} {tm : List (Nat × V)} {H : Heap} {Q : Ex → St → Prop} (c' : Cur) (K' : List Fr) (tm' : List (Nat × V)) (H' : Heap)
    (h1 : ctlJ N j bs cur K = some (c', K')) (h2 : rg W n N j bs cur K (tm'.map Prod.fst) tm H = some (.tuple (tm'.map Prod.snd), H')) (hq : CG P (gl W) c' K' n tm' H' Q) : CG P (gl W) cur K n tm H Q :=
  CG.st orders (callX_ok hW (ex0) _ (rawX_ok hW (ex0) 40)) (pcallX_ok hW (ex0) _ (rawX_ok hW (ex0) 40)) N j bs h1 h2 hq
theorem wrapU {a b : Int} (h : -9223372036854775808 ≤ a - b ∧ a - b ≤ 9223372036854775807) : IntKind.wrap .i64 (a - b) = a - b := by
  rw [IntKind.wrap_i64]; omega
def chk : List (List Int) → List Bool → List Int → Bool
  | l :: ls, b :: bs, fr => (!b || l.take fr.length == fr) && chk ls bs fr
  | _, _, _ => true
theorem go_chk : ∀ (args : List (List Int)) (ranks fr0 : List Int) (fd0 : List Bool) (eq0 : Bool) {fr : List Int} {fd : List Bool} {eq : Bool}, args.length = ranks.length → (∀ k ∈ ranks, 0 ≤ k) → go args ranks fr0 fd0 eq0 = some (fr, fd, eq) →
    ∃ fds, fd = fd0 ++ fds ∧ fds.length = args.length ∧ (0 < fr0.length → fr = fr0) ∧ eq = (eq0 && chk args fds fr) ∧ ∀ (i : Nat) (l : List Int), args[i]? = some l → fds[i]? = some true → fr.length ≤ l.length := by
  intro args
  induction args with
  | nil =>
    intro ranks fr0 fd0 eq0 fr fd eq _ _ h
    simp only [go, Option.some.injEq, Prod.mk.injEq] at h
    obtain ⟨rfl, rfl, rfl⟩ := h
    exact ⟨[], by simp, rfl, fun _ => rfl, by simp [chk], by simp⟩
  | cons l ls ih =>
    intro ranks fr0 fd0 eq0 fr fd eq hlen hk h
    cases ranks with
    | nil => simp at hlen
    | cons k ks =>
      have hk0 : 0 ≤ k := hk k List.mem_cons_self
      by_cases hn : (l.length : Int) < k
      · rw [go, if_pos hn] at h; cases h
      · obtain ⟨m, hm⟩ : ∃ m : Nat, (m : Int) = l.length - k := ⟨l.length - k.toNat, by omega⟩
        rw [go_cons hk0 hm] at h
        split at h
        · cases h
        · rename_i hc
          obtain ⟨fds, e1, e2, e3, e4, e5⟩ := ih ks _ _ _ (by simpa using hlen) (fun q hq => hk q (List.mem_cons_of_mem _ hq)) h
          have hml : m ≤ l.length := by omega
          by_cases hm0 : m = 0
          · have b0 : iLt 0 (Int.ofNat m) = false := f_lt (by simp only [Int.ofNat_eq_natCast]; omega)
            rw [b0] at e1
            rw [if_neg (by omega)] at e3 e4
            refine ⟨false :: fds, by simpa using e1, by simp [e2], e3, ?_, ?_⟩
            · rw [e4]; simp [hm0, chk]
            · intro i l' h1 h2
              cases i with
              | zero => simp at h2
              | succ i => exact e5 i l' (by simpa using h1) (by simpa using h2)
          · have b1 : iLt 0 (Int.ofNat m) = true := t_lt (by simp only [Int.ofNat_eq_natCast]; omega)
            rw [b1] at e1
            have hfr1 : (if 0 < m ∧ fr0.length = 0 then l.take m else fr0).length = m := by
              split
              · simp; omega
              · omega
            have hfr := e3 (by omega)
            have hfl : fr.length = m := by rw [hfr]; exact hfr1
            refine ⟨true :: fds, by simpa using e1, by simp [e2], fun hp => ?_, ?_, ?_⟩
            · rw [hfr, if_neg (by omega)]
            · rw [e4]
              rw [← hfr]
              simp only [chk, hfl, decide_eq_false hm0, Bool.false_or, Bool.not_true, Bool.and_assoc]
              rw [show (l.take m == fr) = (fr == l.take m) from by rw [Bool.eq_iff_iff]; simp only [beq_iff_eq]; exact ⟨fun h => h.symm, fun h => h.symm⟩]
            · intro i l' h1 h2
              cases i with
              | zero => simp at h1; subst h1; omega
              | succ i => exact e5 i l' (by simpa using h1) (by simpa using h2)
theorem pc_dims_ref (hW : W0 W) (args : List (List Int)) (ranks : List Int) (hl : args.length < 1048576) (_hk : ranks.length < 1048576) (ha : ∀ r ∈ args, r.length < 1048576) (hr : ∀ k ∈ ranks, k ≤ 9223372036854775807) :
    PC P (gl W) 35 [.d (.list (args.map encL)), .d (.list (ranks.map Dm.encI))] (dimsF args ranks) := by
  refine CG.start is35 ca35 rfl ?_
  have bad1 : badD args ranks = true → dimsF args ranks = outV [] [] 1 := fun h => by rw [dimsF, h]; rfl
  refine st hW 5 6 [] (.ops (List.drop 6 f35.r1)) [.seq (.cond (Opd.t 23) (.seq (.region f35.r2) .ret) .skip), .seq (.seq (.seq (.region f35.r3) (.block 0 (.loop f35.l14))) (.seq (.region f35.r15) (.seq (.region f35.r16) (.seq (.seq (.region f35.r17) (.block 4 (.loop f35.l26))) (.seq (.seq (.region f35.r27) (.block 6 (.loop f35.l32))) (.seq (.region f35.r33) .ret))))))] [(0, (.d (.list (List.map encL args)))), (1, (.d (.list (List.map Dm.encI ranks)))), (4, .nils), (5, .nils), (6, (.d (.int .i64 0))), (19, (.d (.bool (!iEq (Int.ofNat (List.length (List.map encL args))) (Int.ofNat (List.length (List.map Dm.encI ranks)))))))] ([]) (by kernel_rfl) (by kernel_rfl) ?_
  refine (Bool.eq_false_or_eq_true (iEq (Int.ofNat (List.length (List.map encL args))) (Int.ofNat (List.length (List.map Dm.encI ranks))))).elim (fun q11 => ?_) (fun q11 => ?_)
  have p11 := eqT q11
  simp only [Int.ofNat_eq_natCast, List.length_map, List.length_append, List.length_cons, List.length_nil, List.length_take, List.length_drop] at p11
  rotate_left
  have p11 := eqF q11
  simp only [Int.ofNat_eq_natCast, List.length_map, List.length_append, List.length_cons, List.length_nil, List.length_take, List.length_drop] at p11
  rotate_right
  rw [q11]
  refine st hW 2 0 [] (.code (.cond (Opd.t 23) (.seq (.region f35.r2) .ret) .skip)) [.seq (.seq (.seq (.region f35.r3) (.block 0 (.loop f35.l14))) (.seq (.region f35.r15) (.seq (.region f35.r16) (.seq (.seq (.region f35.r17) (.block 4 (.loop f35.l26))) (.seq (.seq (.region f35.r27) (.block 6 (.loop f35.l32))) (.seq (.region f35.r33) .ret))))))] [(0, (.d (.list (List.map encL args)))), (1, (.d (.list (List.map Dm.encI ranks)))), (4, .nils), (5, .nils), (6, (.d (.int .i64 0))), (23, (.d (.bool (iLt 16 (Int.ofNat (List.length (List.map encL args)))))))] ([]) (by kernel_rfl) (by kernel_rfl) ?_
  refine (Bool.eq_false_or_eq_true (iLt 16 (Int.ofNat (List.length (List.map encL args))))).elim (fun q13 => ?_) (fun q13 => ?_)
  have p13 := ltT q13
  simp only [Int.ofNat_eq_natCast, List.length_map, List.length_append, List.length_cons, List.length_nil, List.length_take, List.length_drop] at p13
  rotate_left
  have p13 := ltF q13
  simp only [Int.ofNat_eq_natCast, List.length_map, List.length_append, List.length_cons, List.length_nil, List.length_take, List.length_drop] at p13
  rotate_right
  refine CG.condT (b := (iLt 16 (Int.ofNat (List.length (List.map encL args))))) q13 (by kernel_rfl) ?_
  refine st hW 3 0 [] (.code .ret) [.seq (.seq (.seq (.region f35.r3) (.block 0 (.loop f35.l14))) (.seq (.region f35.r15) (.seq (.region f35.r16) (.seq (.seq (.region f35.r17) (.block 4 (.loop f35.l26))) (.seq (.seq (.region f35.r27) (.block 6 (.loop f35.l32))) (.seq (.region f35.r33) .ret))))))] [(0, (.d (.list (List.map encL args)))), (1, (.d (.list (List.map Dm.encI ranks)))), (4, .nils), (5, .nils), (6, (.d (.int .i64 1)))] ([]) (by kernel_rfl) (by kernel_rfl) ?_
  refine CG.ret (v' := (.tuple [(.d (.list [])), (.d (.list [])), (.d (.int .i64 1))])) (by kernel_rfl) ?_
  rotate_left
  refine CG.condF (b := (iLt 16 (Int.ofNat (List.length (List.map encL args))))) q13 (by kernel_rfl) ?_
  refine st hW 7 0 [] (.code (.loop f35.l14)) [.block 0, .seq (.seq (.region f35.r15) (.seq (.region f35.r16) (.seq (.seq (.region f35.r17) (.block 4 (.loop f35.l26))) (.seq (.seq (.region f35.r27) (.block 6 (.loop f35.l32))) (.seq (.region f35.r33) .ret)))))] [(0, (.d (.list (List.map encL args)))), (1, (.d (.list (List.map Dm.encI ranks)))), (4, .nils), (5, .nils), (6, (.d (.int .i64 0))), (7, (.d (.int .i64 0)))] ([]) (by kernel_rfl) (by kernel_rfl) ?_
  rotate_left
  rw [q11]
  refine st hW 6 0 [true] (.code .ret) [.seq (.seq (.seq (.region f35.r3) (.block 0 (.loop f35.l14))) (.seq (.region f35.r15) (.seq (.region f35.r16) (.seq (.seq (.region f35.r17) (.block 4 (.loop f35.l26))) (.seq (.seq (.region f35.r27) (.block 6 (.loop f35.l32))) (.seq (.region f35.r33) .ret))))))] [(0, (.d (.list (List.map encL args)))), (1, (.d (.list (List.map Dm.encI ranks)))), (4, .nils), (5, .nils), (6, (.d (.int .i64 1)))] ([]) (by kernel_rfl) (by kernel_rfl) ?_
  refine CG.ret (v' := (.tuple [(.d (.list [])), (.d (.list [])), (.d (.int .i64 1))])) (by kernel_rfl) ?_
  rotate_left
  · rw [bad1 (by simp only [badD, Bool.or_eq_true, decide_eq_true_eq]; exact .inl (.inl (.inr (by omega))))]; rfl
  · refine CG.loopL args (fun i u => [(0, (.d (.list (List.map encL args)))), (1, (.d (.list (List.map Dm.encI ranks)))), (4, .nils), (5, .nils), (6, (.d (.int .i64 0))), (7, .d (.int .i64 (.ofNat i)))]) (fun i u => []) (fun i u r => (badD args ranks = (r.any (fun r => r.any neg) || (ranks.drop i).any neg))) () ?_ (Tidy.refl _ _) ?_ ?_
    · simp only [badD, decide_eq_false (show ¬ args.length ≠ ranks.length by omega), decide_eq_false (show ¬ 16 < args.length by omega), Bool.false_or, List.drop_zero, Bool.or_comm]
    · intro i u hi hd hinv
      rw [List.drop_of_length_le (show ranks.length ≤ i by omega)] at hinv
      have hb : badD args ranks = false := by simpa using hinv
      have hneg : ∀ k ∈ ranks, 0 ≤ k := by
        have h2 := hb
        simp only [badD, Bool.or_eq_false_iff] at h2
        intro k hk
        have h3 := h2.1.2
        rw [List.any_eq_false] at h3
        exact ltF (by simpa [neg] using h3 k hk)
      have hF : dimsF args ranks = dimsV (go args ranks [] [] true) := by rw [dimsF, hb]; rfl
      rw [hF]
      refine st hW 4 0 [] (.code (.cond (Opd.t 27) .skip (.exit 0))) [.seq (.seq (.block 1 (.seq (.seq (.region f35.r5) (.block 2 (.loop f35.l10))) (.seq (.region f35.r11) (.cond (Opd.t 51) (.seq (.region f35.r12) .ret) .skip)))) (.region f35.r13))] [(0, (.d (.list (List.map encL args)))), (1, (.d (.list (List.map Dm.encI ranks)))), (4, .nils), (5, .nils), (6, (.d (.int .i64 0))), (7, (.d (.int .i64 (.ofNat i)))), (27, (.d (.bool (iLt (Int.ofNat i) (Int.ofNat (List.length (List.map encL args)))))))] ([]) (by kernel_rfl) (by kernel_rfl) ?_
      have q22 : (iLt (Int.ofNat i) (Int.ofNat (List.length (List.map encL args)))) = false := f_lt (by (try simp only [Int.ofNat_eq_natCast, List.length_map, List.length_append, List.length_cons, List.length_nil, List.length_take, List.length_drop] at *) <;> omega)
      refine CG.condF (b := (iLt (Int.ofNat i) (Int.ofNat (List.length (List.map encL args))))) q22 (by kernel_rfl) ?_
      refine CG.exitL (by decide) ?_
      refine st hW 13 0 [] (.code (.loop f35.l26)) [.block 4, .seq (.seq (.seq (.region f35.r27) (.block 6 (.loop f35.l32))) (.seq (.region f35.r33) .ret))] [(0, (.d (.list (List.map encL args)))), (1, (.d (.list (List.map Dm.encI ranks)))), (4, .nils), (5, .nils), (6, (.d (.int .i64 0))), (9, .nils), (10, .nils), (11, (.d (.int .i64 0)))] ([]) (by kernel_rfl) (by kernel_rfl) ?_
      rotate_left
      refine CG.tidy (Tidy.nilD 9 (tm' := [(0, (.d (.list (List.map encL args)))), (1, (.d (.list (List.map Dm.encI ranks)))), (4, .nils), (5, .nils), (6, (.d (.int .i64 0))), (9, .d (.list [])), (10, .nils), (11, (.d (.int .i64 0)))]) (by kernel_rfl) (by kernel_rfl)) ?_
      refine CG.tidy (Tidy.nilS 10 1 (tm' := [(0, (.d (.list (List.map encL args)))), (1, (.d (.list (List.map Dm.encI ranks)))), (4, .nils), (5, .nils), (6, (.d (.int .i64 0))), (9, (.d (.list []))), (10, .sl 0 0 0 0 1), (11, (.d (.int .i64 0)))]) (Nat.le_refl _) (by kernel_rfl) (by kernel_rfl)) ?_
      show CG _ _ _ _ _ _ ([some .nil]) _
      show CG _ _ _ _ _ ([(0, (.d (.list (List.map encL args)))), (1, (.d (.list (List.map Dm.encI ranks)))), (4, .nils), (5, .nils), (6, (.d (.int .i64 0))), (9, (.d (.list []))), (10, .sl 0 (List.length ([] : List Bool) * 1) 0 (List.length ([] : List Bool)) 1), (11, (.d (.int .i64 0)))]) ([some (rowE encB ([] : List Bool))]) _
      refine CG.loopL args (fun i a => [(0, (.d (.list (List.map encL args)))), (1, (.d (.list (List.map Dm.encI ranks)))), (4, .nils), (5, .nils), (6, (.d (.int .i64 0))), (9, .d (.list (a.1.map Dm.encI))), (10, .sl 0 (a.2.1.length * 1) 0 a.2.1.length 1), (11, .d (.int .i64 (.ofNat i)))]) (fun i a => [some (rowE encB a.2.1)]) (fun i a r => (go args ranks [] [] true = go r (ranks.drop i) a.1 a.2.1 a.2.2 ∧ a.2.1.length = i)) (([], [], true) : List Int × List Bool × Bool) ?_ (Tidy.refl _ _) ?_ ?_
      · exact ⟨rfl, rfl⟩
      · rintro i ⟨fr, fd, eq⟩ hi hd ⟨hinv, hfd⟩
        dsimp only at hinv hfd ⊢
        have hgo : go args ranks [] [] true = some (fr, fd, eq) := by rw [hinv]; simp [go]
        obtain ⟨fds, e1, e2, -, e4, e5⟩ := go_chk args ranks [] [] true (by omega) hneg hgo
        rw [List.nil_append] at e1
        subst e1
        rw [hgo]
        refine st hW 4 0 [] (.code (.cond (Opd.t 55) .skip (.exit 4))) [.seq (.seq (.block 5 (.seq (.draw f35.r19) (.seq (.seq (.region f35.r20) (.cond (Opd.t 84) (.seq (.region f35.r21) .ret) .skip)) (.seq (.seq (.region f35.r22) (.cond (Opd.t 91) (.region f35.r23) .skip)) (.region f35.r24))))) (.region f35.r25))] [(0, (.d (.list (List.map encL args)))), (1, (.d (.list (List.map Dm.encI ranks)))), (4, .nils), (5, .nils), (6, (.d (.int .i64 0))), (9, (.d (.list (List.map Dm.encI fr)))), (10, (.sl 0 (List.length fd * 1) 0 (List.length fd) 1)), (11, (.d (.int .i64 (.ofNat i)))), (55, (.d (.bool (iLt (Int.ofNat i) (Int.ofNat (List.length (List.map encL args)))))))] ([some (rowE encB fd)]) (by kernel_rfl) (by kernel_rfl) ?_
        have q35 : (iLt (Int.ofNat i) (Int.ofNat (List.length (List.map encL args)))) = false := f_lt (by (try simp only [Int.ofNat_eq_natCast, List.length_map, List.length_append, List.length_cons, List.length_nil, List.length_take, List.length_drop] at *) <;> omega)
        refine CG.condF (b := (iLt (Int.ofNat i) (Int.ofNat (List.length (List.map encL args))))) q35 (by kernel_rfl) ?_
        refine CG.exitL (by decide) ?_
        refine st hW 7 0 [] (.code (.loop f35.l32)) [.block 6, .seq (.seq (.region f35.r33) .ret)] [(0, (.d (.list (List.map encL args)))), (4, .nils), (5, .nils), (6, (.d (.int .i64 0))), (9, (.d (.list (List.map Dm.encI fr)))), (10, (.sl 0 (List.length fd * 1) 0 (List.length fd) 1)), (13, (.d (.int .i64 0)))] ([some (rowE encB fd)]) (by kernel_rfl) (by kernel_rfl) ?_
        rotate_left
        refine CG.tidy (Tidy.frzE encB fd 0 10 (tm' := [(0, (.d (.list (List.map encL args)))), (4, .nils), (5, .nils), (6, (.d (.int .i64 0))), (9, (.d (.list (List.map Dm.encI fr)))), (10, (.d (.list (List.map encB fd)))), (13, (.d (.int .i64 0)))]) (H' := [none]) (fun _ => rfl) (by kernel_rfl) (by kernel_rfl) ⟨.inl rfl, trivial⟩ (by kernel_rfl) (by kernel_rfl)) ?_
        refine CG.loopL args (fun j u => [(0, (.d (.list (List.map encL args)))), (4, .nils), (5, .nils), (6, (.d (.int .i64 0))), (9, (.d (.list (List.map Dm.encI fr)))), (10, (.d (.list (List.map encB fd)))), (13, .d (.int .i64 (.ofNat j)))]) (fun j u => [none]) (fun j u r => (eq = chk r (fd.drop j) fr)) () ?_ (Tidy.refl _ _) ?_ ?_
        · simpa using e4
        · intro j u hj hdj hinv2
          have he : eq = true := by simpa [chk] using hinv2
          subst he
          refine st hW 4 0 [] (.code (.cond (Opd.t 108) .skip (.exit 6))) [.seq (.seq (.block 7 (.seq (.region f35.r29) (.cond (Opd.t 126) (.seq (.region f35.r30) .ret) .skip))) (.region f35.r31))] [(0, (.d (.list (List.map encL args)))), (4, .nils), (5, .nils), (6, (.d (.int .i64 0))), (9, (.d (.list (List.map Dm.encI fr)))), (10, (.d (.list (List.map encB fd)))), (13, (.d (.int .i64 (.ofNat j)))), (108, (.d (.bool (iLt (Int.ofNat j) (Int.ofNat (List.length (List.map encL args)))))))] ([none]) (by kernel_rfl) (by kernel_rfl) ?_
          have q40 : (iLt (Int.ofNat j) (Int.ofNat (List.length (List.map encL args)))) = false := f_lt (by (try simp only [Int.ofNat_eq_natCast, List.length_map, List.length_append, List.length_cons, List.length_nil, List.length_take, List.length_drop] at *) <;> omega)
          refine CG.condF (b := (iLt (Int.ofNat j) (Int.ofNat (List.length (List.map encL args))))) q40 (by kernel_rfl) ?_
          refine CG.exitL (by decide) ?_
          refine st hW 5 0 [] (.code .ret) [] [(4, (.d (.list (List.map Dm.encI fr)))), (5, (.d (.list (List.map encB fd)))), (6, (.d (.int .i64 0)))] ([none]) (by kernel_rfl) (by kernel_rfl) ?_
          refine CG.ret (v' := (.tuple [(.d (.list (List.map Dm.encI fr))), (.d (.list (List.map encB fd))), (.d (.int .i64 0))])) (by kernel_rfl) ?_
          rfl
        · intro j u x r hdj hx hlt hinv2
          obtain ⟨b, hb1⟩ : ∃ b, fd[j]? = some b := ⟨_, List.getElem?_eq_getElem (by omega)⟩
          have hxl := ha x (List.mem_of_getElem? hx)
          rw [drop_at hb1, chk] at hinv2
          cases b with
          | false =>
            refine st hW 4 0 [] (.code (.cond (Opd.t 108) .skip (.exit 6))) [.seq (.seq (.block 7 (.seq (.region f35.r29) (.cond (Opd.t 126) (.seq (.region f35.r30) .ret) .skip))) (.region f35.r31))] [(0, (.d (.list (List.map encL args)))), (4, .nils), (5, .nils), (6, (.d (.int .i64 0))), (9, (.d (.list (List.map Dm.encI fr)))), (10, (.d (.list (List.map encB fd)))), (13, (.d (.int .i64 (.ofNat j)))), (108, (.d (.bool (iLt (Int.ofNat j) (Int.ofNat (List.length (List.map encL args)))))))] ([none]) (by kernel_rfl) (by kernel_rfl) ?_
            have q46 : (iLt (Int.ofNat j) (Int.ofNat (List.length (List.map encL args)))) = true := t_lt (by (try simp only [Int.ofNat_eq_natCast, List.length_map, List.length_append, List.length_cons, List.length_nil, List.length_take, List.length_drop] at *) <;> omega)
            refine CG.condT (b := (iLt (Int.ofNat j) (Int.ofNat (List.length (List.map encL args))))) q46 (by kernel_rfl) ?_
            refine st hW 5 2 [] (.ops (List.drop 2 f35.r29)) [.seq (.cond (Opd.t 126) (.seq (.region f35.r30) .ret) .skip), .block 7, .seq (.region f35.r31)] [(0, (.d (.list (List.map encL args)))), (4, .nils), (5, .nils), (6, (.d (.int .i64 0))), (9, (.d (.list (List.map Dm.encI fr)))), (10, (.d (.list (List.map encB fd)))), (13, (.d (.int .i64 (.ofNat j)))), (111, (.d (.list (List.map encB fd)))), (112, (.d (.int .i64 (.ofNat j))))] ([none]) (by kernel_rfl) (by kernel_rfl) ?_
            refine CG.idx (es := fd.map encB) (j := j) (e := encB false) (idx_map hb1) rfl (by kernel_rfl) (by kernel_rfl) (by kernel_rfl) rfl ?_
            refine st hW 6 3 [false] (.ops (List.drop 3 f35.r31)) [] [(0, (.d (.list (List.map encL args)))), (4, .nils), (5, .nils), (6, (.d (.int .i64 0))), (9, (.d (.list (List.map Dm.encI fr)))), (10, (.d (.list (List.map encB fd)))), (13, (.d (.int .i64 (wrapF IntKind.i64 (iAdd (Int.ofNat j) 1)))))] ([none]) (by kernel_rfl) (by kernel_rfl) ?_
            refine CG.endL rfl ?_
            rw [wrapI (by omega)]
            rotate_left
            exact ⟨(), by rw [hinv2]; rfl, Tidy.refl _ _⟩
          | true =>
            have hfl := e5 j x hx hb1
            refine st hW 4 0 [] (.code (.cond (Opd.t 108) .skip (.exit 6))) [.seq (.seq (.block 7 (.seq (.region f35.r29) (.cond (Opd.t 126) (.seq (.region f35.r30) .ret) .skip))) (.region f35.r31))] [(0, (.d (.list (List.map encL args)))), (4, .nils), (5, .nils), (6, (.d (.int .i64 0))), (9, (.d (.list (List.map Dm.encI fr)))), (10, (.d (.list (List.map encB fd)))), (13, (.d (.int .i64 (.ofNat j)))), (108, (.d (.bool (iLt (Int.ofNat j) (Int.ofNat (List.length (List.map encL args)))))))] ([none]) (by kernel_rfl) (by kernel_rfl) ?_
            have q47 : (iLt (Int.ofNat j) (Int.ofNat (List.length (List.map encL args)))) = true := t_lt (by (try simp only [Int.ofNat_eq_natCast, List.length_map, List.length_append, List.length_cons, List.length_nil, List.length_take, List.length_drop] at *) <;> omega)
            refine CG.condT (b := (iLt (Int.ofNat j) (Int.ofNat (List.length (List.map encL args))))) q47 (by kernel_rfl) ?_
            refine st hW 5 2 [] (.ops (List.drop 2 f35.r29)) [.seq (.cond (Opd.t 126) (.seq (.region f35.r30) .ret) .skip), .block 7, .seq (.region f35.r31)] [(0, (.d (.list (List.map encL args)))), (4, .nils), (5, .nils), (6, (.d (.int .i64 0))), (9, (.d (.list (List.map Dm.encI fr)))), (10, (.d (.list (List.map encB fd)))), (13, (.d (.int .i64 (.ofNat j)))), (111, (.d (.list (List.map encB fd)))), (112, (.d (.int .i64 (.ofNat j))))] ([none]) (by kernel_rfl) (by kernel_rfl) ?_
            refine CG.idx (es := fd.map encB) (j := j) (e := encB true) (idx_map hb1) rfl (by kernel_rfl) (by kernel_rfl) (by kernel_rfl) rfl ?_
            refine st hW 0 4 [] (.ops (List.drop 4 (List.drop 1 (List.drop 2 f35.r29)))) [.seq (.cond (Opd.t 126) (.seq (.region f35.r30) .ret) .skip), .block 7, .seq (.region f35.r31)] [(0, (.d (.list (List.map encL args)))), (4, .nils), (5, .nils), (6, (.d (.int .i64 0))), (9, (.d (.list (List.map Dm.encI fr)))), (10, (.d (.list (List.map encB fd)))), (13, (.d (.int .i64 (.ofNat j)))), (115, (.d (.bool true))), (116, (.d (.list (List.map encL args)))), (117, (.d (.int .i64 (.ofNat j))))] ([none]) (by kernel_rfl) (by kernel_rfl) ?_
            refine CG.idx (es := args.map encL) (j := j) (e := encL x) (idx_map hx) rfl (by kernel_rfl) (by kernel_rfl) (by kernel_rfl) rfl ?_
            refine st hW 0 3 [] (.ops (List.drop 3 (List.drop 1 (List.drop 4 (List.drop 1 (List.drop 2 f35.r29)))))) [.seq (.cond (Opd.t 126) (.seq (.region f35.r30) .ret) .skip), .block 7, .seq (.region f35.r31)] [(0, (.d (.list (List.map encL args)))), (4, .nils), (5, .nils), (6, (.d (.int .i64 0))), (9, (.d (.list (List.map Dm.encI fr)))), (10, (.d (.list (List.map encB fd)))), (13, (.d (.int .i64 (.ofNat j)))), (115, (.d (.bool true))), (119, (.d (.list (List.map Dm.encI x)))), (121, (.d (.int .i64 (.ofNat (List.length (List.map Dm.encI fr))))))] ([none]) (by kernel_rfl) (by kernel_rfl) ?_
            refine CG.lsl Dm.encI x 0 (List.length (List.map Dm.encI fr)) (fun _ => rfl) rfl (by kernel_rfl) (by kernel_rfl) (by kernel_rfl) (by kernel_rfl) (by (try simp only [Int.ofNat_eq_natCast, List.length_map, List.length_append, List.length_cons, List.length_nil, List.length_take, List.length_drop] at *) <;> omega) rfl ?_
            refine st hW 0 1 [] (.ops (List.drop 1 (List.drop 1 (List.drop 3 (List.drop 1 (List.drop 4 (List.drop 1 (List.drop 2 f35.r29)))))))) [.seq (.cond (Opd.t 126) (.seq (.region f35.r30) .ret) .skip), .block 7, .seq (.region f35.r31)] [(0, (.d (.list (List.map encL args)))), (4, .nils), (5, .nils), (6, (.d (.int .i64 0))), (9, (.d (.list (List.map Dm.encI fr)))), (10, (.d (.list (List.map encB fd)))), (13, (.d (.int .i64 (.ofNat j)))), (115, (.d (.bool true))), (122, (.d (.list (List.map Dm.encI (List.drop 0 (List.take (List.length (List.map Dm.encI fr)) x)))))), (123, (.d (.list (List.map Dm.encI fr))))] ([none]) (by kernel_rfl) (by kernel_rfl) ?_
            refine CG.pcG ((pc_sameInts hW (List.drop 0 (List.take (List.length (List.map Dm.encI fr)) x)) fr) (by first | assumption | exact (by (try simp only [Int.ofNat_eq_natCast, List.length_map, List.length_append, List.length_cons, List.length_nil, List.length_take, List.length_drop] at *) <;> omega))) rfl (by kernel_rfl) (by kernel_rfl) rfl ?_
            refine st hW 2 0 [] (.code (.cond (Opd.t 126) (.seq (.region f35.r30) .ret) .skip)) [.block 7, .seq (.region f35.r31)] [(0, (.d (.list (List.map encL args)))), (4, .nils), (5, .nils), (6, (.d (.int .i64 0))), (9, (.d (.list (List.map Dm.encI fr)))), (10, (.d (.list (List.map encB fd)))), (13, (.d (.int .i64 (.ofNat j)))), (126, (.d (.bool (!List.drop 0 (List.take (List.length (List.map Dm.encI fr)) x) == fr))))] ([none]) (by kernel_rfl) (by kernel_rfl) ?_
            refine (Bool.eq_false_or_eq_true (List.drop 0 (List.take (List.length (List.map Dm.encI fr)) x) == fr)).elim (fun q48 => ?_) (fun q48 => ?_)
            refine CG.condF (b := (!List.drop 0 (List.take (List.length (List.map Dm.encI fr)) x) == fr)) (by rw [q48]; rfl) (by kernel_rfl) ?_
            refine st hW 3 3 [] (.ops (List.drop 3 f35.r31)) [] [(0, (.d (.list (List.map encL args)))), (4, .nils), (5, .nils), (6, (.d (.int .i64 0))), (9, (.d (.list (List.map Dm.encI fr)))), (10, (.d (.list (List.map encB fd)))), (13, (.d (.int .i64 (wrapF IntKind.i64 (iAdd (Int.ofNat j) 1)))))] ([none]) (by kernel_rfl) (by kernel_rfl) ?_
            refine CG.endL rfl ?_
            rw [wrapI (by omega)]
            rotate_left
            refine CG.condT (b := (!List.drop 0 (List.take (List.length (List.map Dm.encI fr)) x) == fr)) (by rw [q48]; rfl) (by kernel_rfl) ?_
            refine st hW 3 0 [] (.code .ret) [.block 7, .seq (.region f35.r31)] [(0, (.d (.list (List.map encL args)))), (4, .nils), (5, .nils), (6, (.d (.int .i64 14))), (9, (.d (.list (List.map Dm.encI fr)))), (10, (.d (.list (List.map encB fd)))), (13, (.d (.int .i64 (.ofNat j))))] ([none]) (by kernel_rfl) (by kernel_rfl) ?_
            refine CG.retL (v' := (.tuple [(.d (.list [])), (.d (.list [])), (.d (.int .i64 14))])) (by kernel_rfl) ?_
            rotate_left
            · have h : (List.drop 0 (List.take (List.map Dm.encI fr).length x) == fr) = true := by assumption
              rw [List.length_map, List.drop_zero] at h
              exact ⟨(), by rw [hinv2, h]; rfl, Tidy.refl _ _⟩
            · have h : (List.drop 0 (List.take (List.map Dm.encI fr).length x) == fr) = false := by assumption
              rw [List.length_map, List.drop_zero] at h
              rw [hinv2, h]; rfl
      · rintro i ⟨fr, fd, eq⟩ x r hd hx hlt ⟨hinv, hfd⟩
        dsimp only at hinv hfd ⊢
        obtain ⟨k, hk1⟩ : ∃ k, ranks[i]? = some k := ⟨_, List.getElem?_eq_getElem (by omega)⟩
        have hxl := ha x (List.mem_of_getElem? hx)
        have hk2 := hr k (List.mem_of_getElem? hk1)
        have hk0 := hneg k (List.mem_of_getElem? hk1)
        rw [drop_at hk1] at hinv
        refine st hW 4 0 [] (.code (.cond (Opd.t 55) .skip (.exit 4))) [.seq (.seq (.block 5 (.seq (.draw f35.r19) (.seq (.seq (.region f35.r20) (.cond (Opd.t 84) (.seq (.region f35.r21) .ret) .skip)) (.seq (.seq (.region f35.r22) (.cond (Opd.t 91) (.region f35.r23) .skip)) (.region f35.r24))))) (.region f35.r25))] [(0, (.d (.list (List.map encL args)))), (1, (.d (.list (List.map Dm.encI ranks)))), (4, .nils), (5, .nils), (6, (.d (.int .i64 0))), (9, (.d (.list (List.map Dm.encI fr)))), (10, (.sl 0 (List.length fd * 1) 0 (List.length fd) 1)), (11, (.d (.int .i64 (.ofNat i)))), (55, (.d (.bool (iLt (Int.ofNat i) (Int.ofNat (List.length (List.map encL args)))))))] ([some (rowE encB fd)]) (by kernel_rfl) (by kernel_rfl) ?_
        have q39 : (iLt (Int.ofNat i) (Int.ofNat (List.length (List.map encL args)))) = true := t_lt (by (try simp only [Int.ofNat_eq_natCast, List.length_map, List.length_append, List.length_cons, List.length_nil, List.length_take, List.length_drop] at *) <;> omega)
        refine CG.condT (b := (iLt (Int.ofNat i) (Int.ofNat (List.length (List.map encL args))))) q39 (by kernel_rfl) ?_
        refine st hW 5 0 [] (.code (.draw f35.r19)) [.seq (.seq (.seq (.region f35.r20) (.cond (Opd.t 84) (.seq (.region f35.r21) .ret) .skip)) (.seq (.seq (.region f35.r22) (.cond (Opd.t 91) (.region f35.r23) .skip)) (.region f35.r24))), .block 5, .seq (.region f35.r25)] [(0, (.d (.list (List.map encL args)))), (1, (.d (.list (List.map Dm.encI ranks)))), (4, .nils), (5, .nils), (6, (.d (.int .i64 0))), (9, (.d (.list (List.map Dm.encI fr)))), (10, (.sl 0 (List.length fd * 1) 0 (List.length fd) 1)), (11, (.d (.int .i64 (.ofNat i))))] ([some (rowE encB fd)]) (by kernel_rfl) (by kernel_rfl) ?_
        refine CG.drawA orders (by kernel_rfl) (by simp [heapLt, boxLt_row, boxLt_cell, boxLt_cs, boxLt_nil, refsLtL, refsLt]) ?_
        refine AO.run 2 (tm' := [(0, (.d (.list (List.map encL args)))), (1, (.d (.list (List.map Dm.encI ranks)))), (4, .nils), (5, .nils), (6, (.d (.int .i64 0))), (9, (.d (.list (List.map Dm.encI fr)))), (10, (.sl 0 (List.length fd * 1) 0 (List.length fd) 1)), (11, (.d (.int .i64 (.ofNat i)))), (58, (.d (.list (List.map encL args)))), (59, (.d (.int .i64 (.ofNat i))))]) (by kernel_rfl) ?_
        refine AO.idx (es := args.map encL) (j := i) (e := encL x) (idx_map hx) rfl (by kernel_rfl) (by kernel_rfl) (by kernel_rfl) rfl ?_
        refine AO.run 4 (tm' := [(0, (.d (.list (List.map encL args)))), (1, (.d (.list (List.map Dm.encI ranks)))), (4, .nils), (5, .nils), (6, (.d (.int .i64 0))), (9, (.d (.list (List.map Dm.encI fr)))), (10, (.sl 0 (List.length fd * 1) 0 (List.length fd) 1)), (11, (.d (.int .i64 (.ofNat i)))), (58, (.d (.list (List.map encL args)))), (59, (.d (.int .i64 (.ofNat i)))), (60, (.cptr [(.list (List.map Dm.encI x))])), (61, (.d (.list (List.map Dm.encI x)))), (62, (.d (.int .i64 (.ofNat (List.length (List.map Dm.encI x)))))), (63, (.d (.list (List.map Dm.encI ranks)))), (64, (.d (.int .i64 (.ofNat i))))]) (by kernel_rfl) ?_
        refine AO.idx (es := ranks.map Dm.encI) (j := i) (e := Dm.encI k) (idx_map hk1) rfl (by kernel_rfl) (by kernel_rfl) (by kernel_rfl) rfl ?_
        refine AO.run 3 (tm' := [(0, (.d (.list (List.map encL args)))), (1, (.d (.list (List.map Dm.encI ranks)))), (4, .nils), (5, .nils), (6, (.d (.int .i64 0))), (9, (.d (.list (List.map Dm.encI fr)))), (10, (.sl 0 (List.length fd * 1) 0 (List.length fd) 1)), (11, (.d (.int .i64 (.ofNat i)))), (12, (.d (.int .i64 (IntKind.wrap IntKind.i64 (Int.ofNat (List.length (List.map Dm.encI x)) - k))))), (58, (.d (.list (List.map encL args)))), (59, (.d (.int .i64 (.ofNat i)))), (60, (.cptr [(.list (List.map Dm.encI x))])), (61, (.d (.list (List.map Dm.encI x)))), (62, (.d (.int .i64 (.ofNat (List.length (List.map Dm.encI x)))))), (63, (.d (.list (List.map Dm.encI ranks)))), (64, (.d (.int .i64 (.ofNat i)))), (65, (.cptr [(.int .i64 k)])), (66, (.d (.int .i64 k))), (67, (.d (.int .i64 (IntKind.wrap IntKind.i64 (Int.ofNat (List.length (List.map Dm.encI x)) - k)))))]) (by kernel_rfl) ?_
        refine AO.done (tm2 := [(0, (.d (.list (List.map encL args)))), (1, (.d (.list (List.map Dm.encI ranks)))), (4, .nils), (5, .nils), (6, (.d (.int .i64 0))), (9, (.d (.list (List.map Dm.encI fr)))), (10, (.sl 0 (List.length fd * 1) 0 (List.length fd) 1)), (11, (.d (.int .i64 (.ofNat i)))), (12, (.d (.int .i64 (IntKind.wrap IntKind.i64 (Int.ofNat (List.length (List.map Dm.encI x)) - k)))))]) [0, 1, 4, 5, 6, 9, 10, 11, 12] rfl (by kernel_rfl) (by kernel_rfl) ?_
        refine st hW 3 3 [] (.ops (List.drop 3 f35.r20)) [.seq (.cond (Opd.t 84) (.seq (.region f35.r21) .ret) .skip), .seq (.seq (.seq (.region f35.r22) (.cond (Opd.t 91) (.region f35.r23) .skip)) (.region f35.r24)), .block 5, .seq (.region f35.r25)] [(0, (.d (.list (List.map encL args)))), (1, (.d (.list (List.map Dm.encI ranks)))), (4, .nils), (5, .nils), (6, (.d (.int .i64 0))), (9, (.d (.list (List.map Dm.encI fr)))), (10, (.sl 0 (List.length fd * 1) 0 (List.length fd) 1)), (11, (.d (.int .i64 (.ofNat i)))), (12, (.d (.int .i64 (IntKind.wrap IntKind.i64 (Int.ofNat (List.length (List.map Dm.encI x)) - k))))), (70, (.d (.bool (iLt (IntKind.wrap IntKind.i64 (Int.ofNat (List.length (List.map Dm.encI x)) - k)) 0))))] ([some (rowE encB fd)]) (by kernel_rfl) (by kernel_rfl) ?_
        rw [wrapU (by simp only [Int.ofNat_eq_natCast, List.length_map]; omega)]
        by_cases hn : (x.length : Int) < k
        · have q41 : (iLt (Int.ofNat (List.length (List.map Dm.encI x)) - k) 0) = true := t_lt (by (try simp only [Int.ofNat_eq_natCast, List.length_map, List.length_append, List.length_cons, List.length_nil, List.length_take, List.length_drop] at *) <;> omega)
          rw [q41]
          refine st hW 6 0 [true] (.code .ret) [.seq (.seq (.seq (.region f35.r22) (.cond (Opd.t 91) (.region f35.r23) .skip)) (.region f35.r24)), .block 5, .seq (.region f35.r25)] [(0, (.d (.list (List.map encL args)))), (1, (.d (.list (List.map Dm.encI ranks)))), (4, .nils), (5, .nils), (6, (.d (.int .i64 13))), (9, (.d (.list (List.map Dm.encI fr)))), (10, (.sl 0 (List.length fd * 1) 0 (List.length fd) 1)), (11, (.d (.int .i64 (.ofNat i)))), (12, (.d (.int .i64 (Int.ofNat (List.length (List.map Dm.encI x)) - k))))] ([some (rowE encB fd)]) (by kernel_rfl) (by kernel_rfl) ?_
          refine CG.retL (v' := (.tuple [(.d (.list [])), (.d (.list [])), (.d (.int .i64 13))])) (by kernel_rfl) ?_
          rotate_left
          rw [hinv, go, if_pos hn]; rfl
        · obtain ⟨m, hm⟩ : ∃ m : Nat, Int.ofNat (List.length (List.map Dm.encI x)) - k = Int.ofNat m := ⟨x.length - k.toNat, by simp only [Int.ofNat_eq_natCast, List.length_map]; omega⟩
          have hm2 : (m : Int) = x.length - k := by simp only [Int.ofNat_eq_natCast, List.length_map] at hm; omega
          rw [hm]
          rw [go_cons hk0 hm2] at hinv
          refine st hW 0 3 [] (.ops (List.drop 3 (List.drop 3 f35.r20))) [.seq (.cond (Opd.t 84) (.seq (.region f35.r21) .ret) .skip), .seq (.seq (.seq (.region f35.r22) (.cond (Opd.t 91) (.region f35.r23) .skip)) (.region f35.r24)), .block 5, .seq (.region f35.r25)] [(0, (.d (.list (List.map encL args)))), (1, (.d (.list (List.map Dm.encI ranks)))), (4, .nils), (5, .nils), (6, (.d (.int .i64 0))), (9, (.d (.list (List.map Dm.encI fr)))), (10, (.sl 0 (List.length fd * 1) 0 (List.length fd) 1)), (11, (.d (.int .i64 (.ofNat i)))), (12, (.d (.int .i64 (.ofNat m)))), (70, (.d (.bool false))), (73, (.d (.bool (iLt 0 (Int.ofNat m)))))] ([some (rowE encB fd)]) (by kernel_rfl) (by kernel_rfl) ?_
          refine (Bool.eq_false_or_eq_true (iLt 0 (Int.ofNat m))).elim (fun q45 => ?_) (fun q45 => ?_)
          have p45 := ltT q45
          simp only [Int.ofNat_eq_natCast, List.length_map, List.length_append, List.length_cons, List.length_nil, List.length_take, List.length_drop] at p45
          rotate_left
          have p45 := ltF q45
          simp only [Int.ofNat_eq_natCast, List.length_map, List.length_append, List.length_cons, List.length_nil, List.length_take, List.length_drop] at p45
          rotate_right
          rw [q45]
          refine st hW 0 5 [] (.ops (List.drop 5 (List.drop 3 (List.drop 3 f35.r20)))) [.seq (.cond (Opd.t 84) (.seq (.region f35.r21) .ret) .skip), .seq (.seq (.seq (.region f35.r22) (.cond (Opd.t 91) (.region f35.r23) .skip)) (.region f35.r24)), .block 5, .seq (.region f35.r25)] [(0, (.d (.list (List.map encL args)))), (1, (.d (.list (List.map Dm.encI ranks)))), (4, .nils), (5, .nils), (6, (.d (.int .i64 0))), (9, (.d (.list (List.map Dm.encI fr)))), (10, (.sl 0 (List.length fd * 1) 0 (List.length fd) 1)), (11, (.d (.int .i64 (.ofNat i)))), (12, (.d (.int .i64 (.ofNat m)))), (70, (.d (.bool false))), (78, (.d (.bool (iLt 0 (Int.ofNat (List.length (List.map Dm.encI fr)))))))] ([some (rowE encB fd)]) (by kernel_rfl) (by kernel_rfl) ?_
          refine (Bool.eq_false_or_eq_true (iLt 0 (Int.ofNat (List.length (List.map Dm.encI fr))))).elim (fun q47 => ?_) (fun q47 => ?_)
          have p47 := ltT q47
          simp only [Int.ofNat_eq_natCast, List.length_map, List.length_append, List.length_cons, List.length_nil, List.length_take, List.length_drop] at p47
          rotate_left
          have p47 := ltF q47
          simp only [Int.ofNat_eq_natCast, List.length_map, List.length_append, List.length_cons, List.length_nil, List.length_take, List.length_drop] at p47
          rotate_right
          rw [q47]
          refine st hW 2 0 [] (.code (.cond (Opd.t 84) (.seq (.region f35.r21) .ret) .skip)) [.seq (.seq (.seq (.region f35.r22) (.cond (Opd.t 91) (.region f35.r23) .skip)) (.region f35.r24)), .block 5, .seq (.region f35.r25)] [(0, (.d (.list (List.map encL args)))), (1, (.d (.list (List.map Dm.encI ranks)))), (4, .nils), (5, .nils), (6, (.d (.int .i64 0))), (9, (.d (.list (List.map Dm.encI fr)))), (10, (.sl 0 (List.length fd * 1) 0 (List.length fd) 1)), (11, (.d (.int .i64 (.ofNat i)))), (12, (.d (.int .i64 (.ofNat m)))), (84, (.d (.bool (!iEq (Int.ofNat m) (Int.ofNat (List.length (List.map Dm.encI fr)))))))] ([some (rowE encB fd)]) (by kernel_rfl) (by kernel_rfl) ?_
          refine (Bool.eq_false_or_eq_true (iEq (Int.ofNat m) (Int.ofNat (List.length (List.map Dm.encI fr))))).elim (fun q49 => ?_) (fun q49 => ?_)
          have p49 := eqT q49
          simp only [Int.ofNat_eq_natCast, List.length_map, List.length_append, List.length_cons, List.length_nil, List.length_take, List.length_drop] at p49
          rotate_left
          have p49 := eqF q49
          simp only [Int.ofNat_eq_natCast, List.length_map, List.length_append, List.length_cons, List.length_nil, List.length_take, List.length_drop] at p49
          rotate_right
          refine CG.condF (b := (!iEq (Int.ofNat m) (Int.ofNat (List.length (List.map Dm.encI fr))))) (by rw [q49]; rfl) (by kernel_rfl) ?_
          refine st hW 4 3 [] (.ops (List.drop 3 f35.r22)) [.seq (.cond (Opd.t 91) (.region f35.r23) .skip), .seq (.region f35.r24), .block 5, .seq (.region f35.r25)] [(0, (.d (.list (List.map encL args)))), (1, (.d (.list (List.map Dm.encI ranks)))), (4, .nils), (5, .nils), (6, (.d (.int .i64 0))), (9, (.d (.list (List.map Dm.encI fr)))), (10, (.sl 0 (List.length fd * 1) 0 (List.length fd) 1)), (11, (.d (.int .i64 (.ofNat i)))), (12, (.d (.int .i64 (.ofNat m)))), (87, (.d (.bool (iLt 0 (Int.ofNat m)))))] ([some (rowE encB fd)]) (by kernel_rfl) (by kernel_rfl) ?_
          rw [q45]
          refine st hW 2 0 [] (.code (.cond (Opd.t 91) (.region f35.r23) .skip)) [.seq (.region f35.r24), .block 5, .seq (.region f35.r25)] [(0, (.d (.list (List.map encL args)))), (1, (.d (.list (List.map Dm.encI ranks)))), (4, .nils), (5, .nils), (6, (.d (.int .i64 0))), (9, (.d (.list (List.map Dm.encI fr)))), (10, (.sl 0 (List.length fd * 1) 0 (List.length fd) 1)), (11, (.d (.int .i64 (.ofNat i)))), (12, (.d (.int .i64 (.ofNat m)))), (91, (.d (.bool (iEq (Int.ofNat (List.length (List.map Dm.encI fr))) 0))))] ([some (rowE encB fd)]) (by kernel_rfl) (by kernel_rfl) ?_
          have q50 : (iEq (Int.ofNat (List.length (List.map Dm.encI fr))) 0) = false := f_eq (by (try simp only [Int.ofNat_eq_natCast, List.length_map, List.length_append, List.length_cons, List.length_nil, List.length_take, List.length_drop] at *) <;> omega)
          refine CG.condF (b := (iEq (Int.ofNat (List.length (List.map Dm.encI fr))) 0)) q50 (by kernel_rfl) ?_
          refine st hW 2 4 [] (.ops (List.drop 4 f35.r24)) [.block 5, .seq (.region f35.r25)] [(0, (.d (.list (List.map encL args)))), (1, (.d (.list (List.map Dm.encI ranks)))), (4, .nils), (5, .nils), (6, (.d (.int .i64 0))), (9, (.d (.list (List.map Dm.encI fr)))), (10, (.sl 0 (List.length fd * 1) 0 (List.length fd) 1)), (11, (.d (.int .i64 (.ofNat i)))), (100, (.sl 0 (List.length fd * 1) 0 (List.length fd) 1)), (103, (.d (.list [[(.bool (iLt 0 (Int.ofNat m)))]])))] ([some (rowE encB fd)]) (by kernel_rfl) (by kernel_rfl) ?_
          refine CG.appE encB fd ((iLt 0 (Int.ofNat m)) :: []) (b := 0) (H' := [some (rowE encB (fd ++ ((iLt 0 (Int.ofNat m)) :: [])))]) (fun _ => rfl) rfl rfl (by kernel_rfl) (by kernel_rfl) (by kernel_rfl) (by kernel_rfl) (by (try simp only [Int.ofNat_eq_natCast, List.length_map, List.length_append, List.length_cons, List.length_nil, List.length_take, List.length_drop] at *) <;> omega) rfl (by kernel_rfl) ?_
          refine st hW 3 3 [] (.ops (List.drop 3 f35.r25)) [] [(0, (.d (.list (List.map encL args)))), (1, (.d (.list (List.map Dm.encI ranks)))), (4, .nils), (5, .nils), (6, (.d (.int .i64 0))), (9, (.d (.list (List.map Dm.encI fr)))), (10, (.sl 0 (List.length (fd ++ [iLt 0 (Int.ofNat m)]) * 1) 0 (List.length (fd ++ [iLt 0 (Int.ofNat m)])) 1)), (11, (.d (.int .i64 (wrapF IntKind.i64 (iAdd (Int.ofNat i) 1)))))] ([some (rowE encB (fd ++ [iLt 0 (Int.ofNat m)]))]) (by kernel_rfl) (by kernel_rfl) ?_
          refine CG.endL rfl ?_
          rw [wrapI (by omega)]
          rotate_left
          refine CG.condT (b := (!iEq (Int.ofNat m) (Int.ofNat (List.length (List.map Dm.encI fr))))) (by rw [q49]; rfl) (by kernel_rfl) ?_
          refine st hW 3 0 [] (.code .ret) [.seq (.seq (.seq (.region f35.r22) (.cond (Opd.t 91) (.region f35.r23) .skip)) (.region f35.r24)), .block 5, .seq (.region f35.r25)] [(0, (.d (.list (List.map encL args)))), (1, (.d (.list (List.map Dm.encI ranks)))), (4, .nils), (5, .nils), (6, (.d (.int .i64 13))), (9, (.d (.list (List.map Dm.encI fr)))), (10, (.sl 0 (List.length fd * 1) 0 (List.length fd) 1)), (11, (.d (.int .i64 (.ofNat i)))), (12, (.d (.int .i64 (.ofNat m))))] ([some (rowE encB fd)]) (by kernel_rfl) (by kernel_rfl) ?_
          refine CG.retL (v' := (.tuple [(.d (.list [])), (.d (.list [])), (.d (.int .i64 13))])) (by kernel_rfl) ?_
          rotate_left
          rw [q47]
          refine st hW 7 3 [false] (.ops (List.drop 3 f35.r22)) [.seq (.cond (Opd.t 91) (.region f35.r23) .skip), .seq (.region f35.r24), .block 5, .seq (.region f35.r25)] [(0, (.d (.list (List.map encL args)))), (1, (.d (.list (List.map Dm.encI ranks)))), (4, .nils), (5, .nils), (6, (.d (.int .i64 0))), (9, (.d (.list (List.map Dm.encI fr)))), (10, (.sl 0 (List.length fd * 1) 0 (List.length fd) 1)), (11, (.d (.int .i64 (.ofNat i)))), (12, (.d (.int .i64 (.ofNat m)))), (87, (.d (.bool (iLt 0 (Int.ofNat m)))))] ([some (rowE encB fd)]) (by kernel_rfl) (by kernel_rfl) ?_
          rw [q45]
          refine st hW 2 0 [] (.code (.cond (Opd.t 91) (.region f35.r23) .skip)) [.seq (.region f35.r24), .block 5, .seq (.region f35.r25)] [(0, (.d (.list (List.map encL args)))), (1, (.d (.list (List.map Dm.encI ranks)))), (4, .nils), (5, .nils), (6, (.d (.int .i64 0))), (9, (.d (.list (List.map Dm.encI fr)))), (10, (.sl 0 (List.length fd * 1) 0 (List.length fd) 1)), (11, (.d (.int .i64 (.ofNat i)))), (12, (.d (.int .i64 (.ofNat m)))), (91, (.d (.bool (iEq (Int.ofNat (List.length (List.map Dm.encI fr))) 0))))] ([some (rowE encB fd)]) (by kernel_rfl) (by kernel_rfl) ?_
          have q51 : (iEq (Int.ofNat (List.length (List.map Dm.encI fr))) 0) = true := t_eq (by (try simp only [Int.ofNat_eq_natCast, List.length_map, List.length_append, List.length_cons, List.length_nil, List.length_take, List.length_drop] at *) <;> omega)
          refine CG.condT (b := (iEq (Int.ofNat (List.length (List.map Dm.encI fr))) 0)) q51 (by kernel_rfl) ?_
          refine st hW 0 3 [] (.ops (List.drop 3 f35.r23)) [.seq (.region f35.r24), .block 5, .seq (.region f35.r25)] [(0, (.d (.list (List.map encL args)))), (1, (.d (.list (List.map Dm.encI ranks)))), (4, .nils), (5, .nils), (6, (.d (.int .i64 0))), (9, (.d (.list (List.map Dm.encI fr)))), (10, (.sl 0 (List.length fd * 1) 0 (List.length fd) 1)), (11, (.d (.int .i64 (.ofNat i)))), (12, (.d (.int .i64 (.ofNat m)))), (92, (.sl 1 0 0 0 1)), (93, (.d (.list (List.map encL args)))), (94, (.d (.int .i64 (.ofNat i))))] ([some (rowE encB fd), some (.cells [])]) (by kernel_rfl) (by kernel_rfl) ?_
          refine CG.idx (es := args.map encL) (j := i) (e := encL x) (idx_map hx) rfl (by kernel_rfl) (by kernel_rfl) (by kernel_rfl) rfl ?_
          refine st hW 0 2 [] (.ops (List.drop 2 (List.drop 1 (List.drop 3 f35.r23)))) [.seq (.region f35.r24), .block 5, .seq (.region f35.r25)] [(0, (.d (.list (List.map encL args)))), (1, (.d (.list (List.map Dm.encI ranks)))), (4, .nils), (5, .nils), (6, (.d (.int .i64 0))), (9, (.d (.list (List.map Dm.encI fr)))), (10, (.sl 0 (List.length fd * 1) 0 (List.length fd) 1)), (11, (.d (.int .i64 (.ofNat i)))), (12, (.d (.int .i64 (.ofNat m)))), (92, (.sl 1 0 0 0 1)), (96, (.d (.list (List.map Dm.encI x)))), (97, (.d (.int .i64 (.ofNat m))))] ([some (rowE encB fd), some (.cells [])]) (by kernel_rfl) (by kernel_rfl) ?_
          refine CG.lsl Dm.encI x 0 m (fun _ => rfl) rfl (by kernel_rfl) (by kernel_rfl) (by kernel_rfl) (by kernel_rfl) (by (try simp only [Int.ofNat_eq_natCast, List.length_map, List.length_append, List.length_cons, List.length_nil, List.length_take, List.length_drop] at *) <;> omega) rfl ?_
          rotate_left
          rw [q45]
          refine st hW 7 3 [false] (.ops (List.drop 3 f35.r22)) [.seq (.cond (Opd.t 91) (.region f35.r23) .skip), .seq (.region f35.r24), .block 5, .seq (.region f35.r25)] [(0, (.d (.list (List.map encL args)))), (1, (.d (.list (List.map Dm.encI ranks)))), (4, .nils), (5, .nils), (6, (.d (.int .i64 0))), (9, (.d (.list (List.map Dm.encI fr)))), (10, (.sl 0 (List.length fd * 1) 0 (List.length fd) 1)), (11, (.d (.int .i64 (.ofNat i)))), (12, (.d (.int .i64 (.ofNat m)))), (87, (.d (.bool (iLt 0 (Int.ofNat m)))))] ([some (rowE encB fd)]) (by kernel_rfl) (by kernel_rfl) ?_
          rw [q45]
          refine st hW 5 4 [false] (.ops (List.drop 4 f35.r24)) [.block 5, .seq (.region f35.r25)] [(0, (.d (.list (List.map encL args)))), (1, (.d (.list (List.map Dm.encI ranks)))), (4, .nils), (5, .nils), (6, (.d (.int .i64 0))), (9, (.d (.list (List.map Dm.encI fr)))), (10, (.sl 0 (List.length fd * 1) 0 (List.length fd) 1)), (11, (.d (.int .i64 (.ofNat i)))), (100, (.sl 0 (List.length fd * 1) 0 (List.length fd) 1)), (103, (.d (.list [[(.bool (iLt 0 (Int.ofNat m)))]])))] ([some (rowE encB fd)]) (by kernel_rfl) (by kernel_rfl) ?_
          refine CG.appE encB fd ((iLt 0 (Int.ofNat m)) :: []) (b := 0) (H' := [some (rowE encB (fd ++ ((iLt 0 (Int.ofNat m)) :: [])))]) (fun _ => rfl) rfl rfl (by kernel_rfl) (by kernel_rfl) (by kernel_rfl) (by kernel_rfl) (by (try simp only [Int.ofNat_eq_natCast, List.length_map, List.length_append, List.length_cons, List.length_nil, List.length_take, List.length_drop] at *) <;> omega) rfl (by kernel_rfl) ?_
          refine st hW 3 3 [] (.ops (List.drop 3 f35.r25)) [] [(0, (.d (.list (List.map encL args)))), (1, (.d (.list (List.map Dm.encI ranks)))), (4, .nils), (5, .nils), (6, (.d (.int .i64 0))), (9, (.d (.list (List.map Dm.encI fr)))), (10, (.sl 0 (List.length (fd ++ [iLt 0 (Int.ofNat m)]) * 1) 0 (List.length (fd ++ [iLt 0 (Int.ofNat m)])) 1)), (11, (.d (.int .i64 (wrapF IntKind.i64 (iAdd (Int.ofNat i) 1)))))] ([some (rowE encB (fd ++ [iLt 0 (Int.ofNat m)]))]) (by kernel_rfl) (by kernel_rfl) ?_
          refine CG.endL rfl ?_
          rw [wrapI (by omega)]
          rotate_left
          · refine ⟨(fr, _, (eq && (decide (m = 0) || fr == x.take m))), ⟨?_, by simp [hfd]⟩, Tidy.refl _ _⟩
            rw [hinv, if_neg (by omega), if_neg (by omega)]
          · rw [hinv, if_pos (by omega)]; rfl
          · show CG _ _ _ _ _ ([(0, (.d (.list (List.map encL args)))), (1, (.d (.list (List.map Dm.encI ranks)))), (4, .nils), (5, .nils), (6, (.d (.int .i64 0))), (9, (.d (.list (List.map Dm.encI fr)))), (10, (.sl 0 (List.length fd * 1) 0 (List.length fd) 1)), (11, (.d (.int .i64 (.ofNat i)))), (12, (.d (.int .i64 (.ofNat m)))), (92, .sl 1 (List.length ([] : List Int) * 1) 0 (List.length ([] : List Int)) 1), (96, (.d (.list (List.map Dm.encI x)))), (97, (.d (.int .i64 (.ofNat m)))), (98, (.d (.list (List.map Dm.encI (List.drop 0 (List.take m x))))))]) ([some (rowE encB fd), some (cellE Dm.encI ([] : List Int))]) _
            refine CG.appC Dm.encI [] (List.drop 0 (List.take m x)) (b := 1) (H' := [some (rowE encB fd), some (cellE Dm.encI ([] ++ (List.drop 0 (List.take m x))))]) (fun _ => rfl) rfl rfl (by kernel_rfl) (by kernel_rfl) (by kernel_rfl) (sliceC_map (enc := Dm.encI) (fun _ => rfl) _ (List.drop 0 (List.take m x))) (by (try simp only [Int.ofNat_eq_natCast, List.length_map, List.length_append, List.length_cons, List.length_nil, List.length_take, List.length_drop] at *) <;> omega) rfl (by kernel_rfl) ?_
            refine st hW 2 4 [] (.ops (List.drop 4 f35.r24)) [.block 5, .seq (.region f35.r25)] [(0, (.d (.list (List.map encL args)))), (1, (.d (.list (List.map Dm.encI ranks)))), (4, .nils), (5, .nils), (6, (.d (.int .i64 0))), (9, (.sl 1 (List.length ([] ++ List.drop 0 (List.take m x)) * 1) 0 (List.length ([] ++ List.drop 0 (List.take m x))) 1)), (10, (.sl 0 (List.length fd * 1) 0 (List.length fd) 1)), (11, (.d (.int .i64 (.ofNat i)))), (100, (.sl 0 (List.length fd * 1) 0 (List.length fd) 1)), (103, (.d (.list [[(.bool (iLt 0 (Int.ofNat m)))]])))] ([some (rowE encB fd), some (cellE Dm.encI ([] ++ List.drop 0 (List.take m x)))]) (by kernel_rfl) (by kernel_rfl) ?_
            refine CG.tidyO (Tidy.frzC Dm.encI ([] ++ List.drop 0 (List.take m x)) 1 9 (tm' := [(0, (.d (.list (List.map encL args)))), (1, (.d (.list (List.map Dm.encI ranks)))), (4, .nils), (5, .nils), (6, (.d (.int .i64 0))), (9, (.d (.list (List.map Dm.encI ([] ++ List.drop 0 (List.take m x)))))), (10, (.sl 0 (List.length fd * 1) 0 (List.length fd) 1)), (11, (.d (.int .i64 (.ofNat i)))), (100, (.sl 0 (List.length fd * 1) 0 (List.length fd) 1)), (103, (.d (.list [[(.bool (iLt 0 (Int.ofNat m)))]])))]) (H' := [some (rowE encB fd), none]) (fun _ => rfl) (by kernel_rfl) (by kernel_rfl) ⟨.inr (noref_row _ _ _), ⟨.inl rfl, trivial⟩⟩ (by kernel_rfl) (by kernel_rfl)) ?_
            refine CG.appE encB fd ((iLt 0 (Int.ofNat m)) :: []) (b := 0) (H' := [some (rowE encB (fd ++ ((iLt 0 (Int.ofNat m)) :: []))), none]) (fun _ => rfl) rfl rfl (by kernel_rfl) (by kernel_rfl) (by kernel_rfl) (by kernel_rfl) (by (try simp only [Int.ofNat_eq_natCast, List.length_map, List.length_append, List.length_cons, List.length_nil, List.length_take, List.length_drop] at *) <;> omega) rfl (by kernel_rfl) ?_
            refine st hW 3 3 [] (.ops (List.drop 3 f35.r25)) [] [(0, (.d (.list (List.map encL args)))), (1, (.d (.list (List.map Dm.encI ranks)))), (4, .nils), (5, .nils), (6, (.d (.int .i64 0))), (9, (.d (.list (List.map Dm.encI ([] ++ List.drop 0 (List.take m x)))))), (10, (.sl 0 (List.length (fd ++ [iLt 0 (Int.ofNat m)]) * 1) 0 (List.length (fd ++ [iLt 0 (Int.ofNat m)])) 1)), (11, (.d (.int .i64 (wrapF IntKind.i64 (iAdd (Int.ofNat i) 1)))))] ([some (rowE encB (fd ++ [iLt 0 (Int.ofNat m)])), none]) (by kernel_rfl) (by kernel_rfl) ?_
            refine CG.endL rfl ?_
            rw [wrapI (by omega)]
            rotate_left
            refine ⟨(x.take m, fd ++ [iLt 0 (Int.ofNat m)], (eq && (decide (m = 0) || x.take m == x.take m))), ⟨?_, by simp [hfd]⟩, Tidy.trim 1 [0, 1, 4, 5, 6, 9, 10, 11] rfl rfl rfl rfl (by simp [heapLt, boxLt_row])⟩
            rw [hinv, if_neg (by omega), if_pos (by omega)]
          · refine ⟨(fr, _, (eq && (decide (m = 0) || fr == x.take m))), ⟨?_, by simp [hfd]⟩, Tidy.refl _ _⟩
            rw [hinv, if_neg (by omega), if_neg (by omega)]
    · intro i u x r hd hx hlt hinv
      obtain ⟨k, hk1⟩ : ∃ k, ranks[i]? = some k := ⟨_, List.getElem?_eq_getElem (by omega)⟩
      have hxl := ha x (List.mem_of_getElem? hx)
      rw [drop_at hk1, List.any_cons, List.any_cons] at hinv
      refine st hW 4 0 [] (.code (.cond (Opd.t 27) .skip (.exit 0))) [.seq (.seq (.block 1 (.seq (.seq (.region f35.r5) (.block 2 (.loop f35.l10))) (.seq (.region f35.r11) (.cond (Opd.t 51) (.seq (.region f35.r12) .ret) .skip)))) (.region f35.r13))] [(0, (.d (.list (List.map encL args)))), (1, (.d (.list (List.map Dm.encI ranks)))), (4, .nils), (5, .nils), (6, (.d (.int .i64 0))), (7, (.d (.int .i64 (.ofNat i)))), (27, (.d (.bool (iLt (Int.ofNat i) (Int.ofNat (List.length (List.map encL args)))))))] ([]) (by kernel_rfl) (by kernel_rfl) ?_
      have q25 : (iLt (Int.ofNat i) (Int.ofNat (List.length (List.map encL args)))) = true := t_lt (by (try simp only [Int.ofNat_eq_natCast, List.length_map, List.length_append, List.length_cons, List.length_nil, List.length_take, List.length_drop] at *) <;> omega)
      refine CG.condT (b := (iLt (Int.ofNat i) (Int.ofNat (List.length (List.map encL args))))) q25 (by kernel_rfl) ?_
      refine st hW 9 0 [] (.code (.loop f35.l10)) [.block 2, .seq (.seq (.region f35.r11) (.cond (Opd.t 51) (.seq (.region f35.r12) .ret) .skip)), .block 1, .seq (.region f35.r13)] [(0, (.d (.list (List.map encL args)))), (1, (.d (.list (List.map Dm.encI ranks)))), (4, .nils), (5, .nils), (6, (.d (.int .i64 0))), (7, (.d (.int .i64 (.ofNat i)))), (8, (.d (.int .i64 0)))] ([]) (by kernel_rfl) (by kernel_rfl) ?_
      rotate_left
      refine CG.loopL x (fun j u2 => [(0, (.d (.list (List.map encL args)))), (1, (.d (.list (List.map Dm.encI ranks)))), (4, .nils), (5, .nils), (6, (.d (.int .i64 0))), (7, (.d (.int .i64 (.ofNat i)))), (8, .d (.int .i64 (.ofNat j)))]) (fun j u2 => []) (fun j u2 r2 => (x.any neg = r2.any neg)) () ?_ (Tidy.refl _ _) ?_ ?_
      · rfl
      · intro j u2 hj hdj hinv2
        refine st hW 2 3 [] (.ops (List.drop 3 f35.r6)) [.seq (.cond (Opd.t 36) .skip (.exit 2)), .seq (.seq (.block 3 (.seq (.region f35.r7) (.cond (Opd.t 46) (.seq (.region f35.r8) .ret) .skip))) (.region f35.r9))] [(0, (.d (.list (List.map encL args)))), (1, (.d (.list (List.map Dm.encI ranks)))), (4, .nils), (5, .nils), (6, (.d (.int .i64 0))), (7, (.d (.int .i64 (.ofNat i)))), (8, (.d (.int .i64 (.ofNat j)))), (30, (.d (.int .i64 (.ofNat j)))), (31, (.d (.list (List.map encL args)))), (32, (.d (.int .i64 (.ofNat i))))] ([]) (by kernel_rfl) (by kernel_rfl) ?_
        refine CG.idx (es := args.map encL) (j := i) (e := encL x) (idx_map hx) rfl (by kernel_rfl) (by kernel_rfl) (by kernel_rfl) rfl ?_
        refine st hW 2 0 [] (.code (.cond (Opd.t 36) .skip (.exit 2))) [.seq (.seq (.block 3 (.seq (.region f35.r7) (.cond (Opd.t 46) (.seq (.region f35.r8) .ret) .skip))) (.region f35.r9))] [(0, (.d (.list (List.map encL args)))), (1, (.d (.list (List.map Dm.encI ranks)))), (4, .nils), (5, .nils), (6, (.d (.int .i64 0))), (7, (.d (.int .i64 (.ofNat i)))), (8, (.d (.int .i64 (.ofNat j)))), (36, (.d (.bool (iLt (Int.ofNat j) (Int.ofNat (List.length (List.map Dm.encI x)))))))] ([]) (by kernel_rfl) (by kernel_rfl) ?_
        have q31 : (iLt (Int.ofNat j) (Int.ofNat (List.length (List.map Dm.encI x)))) = false := f_lt (by (try simp only [Int.ofNat_eq_natCast, List.length_map, List.length_append, List.length_cons, List.length_nil, List.length_take, List.length_drop] at *) <;> omega)
        refine CG.condF (b := (iLt (Int.ofNat j) (Int.ofNat (List.length (List.map Dm.encI x))))) q31 (by kernel_rfl) ?_
        refine CG.exitL (by decide) ?_
        refine st hW 3 2 [] (.ops (List.drop 2 f35.r11)) [.seq (.cond (Opd.t 51) (.seq (.region f35.r12) .ret) .skip), .block 1, .seq (.region f35.r13)] [(0, (.d (.list (List.map encL args)))), (1, (.d (.list (List.map Dm.encI ranks)))), (4, .nils), (5, .nils), (6, (.d (.int .i64 0))), (7, (.d (.int .i64 (.ofNat i)))), (47, (.d (.list (List.map Dm.encI ranks)))), (48, (.d (.int .i64 (.ofNat i))))] ([]) (by kernel_rfl) (by kernel_rfl) ?_
        refine CG.idx (es := ranks.map Dm.encI) (j := i) (e := Dm.encI k) (idx_map hk1) rfl (by kernel_rfl) (by kernel_rfl) (by kernel_rfl) rfl ?_
        refine st hW 2 0 [] (.code (.cond (Opd.t 51) (.seq (.region f35.r12) .ret) .skip)) [.block 1, .seq (.region f35.r13)] [(0, (.d (.list (List.map encL args)))), (1, (.d (.list (List.map Dm.encI ranks)))), (4, .nils), (5, .nils), (6, (.d (.int .i64 0))), (7, (.d (.int .i64 (.ofNat i)))), (51, (.d (.bool (iLt k 0))))] ([]) (by kernel_rfl) (by kernel_rfl) ?_
        refine (Bool.eq_false_or_eq_true (iLt k 0)).elim (fun q33 => ?_) (fun q33 => ?_)
        have p33 := ltT q33
        rotate_left
        have p33 := ltF q33
        rotate_right
        refine CG.condT (b := (iLt k 0)) q33 (by kernel_rfl) ?_
        refine st hW 3 0 [] (.code .ret) [.block 1, .seq (.region f35.r13)] [(0, (.d (.list (List.map encL args)))), (1, (.d (.list (List.map Dm.encI ranks)))), (4, .nils), (5, .nils), (6, (.d (.int .i64 1))), (7, (.d (.int .i64 (.ofNat i))))] ([]) (by kernel_rfl) (by kernel_rfl) ?_
        refine CG.retL (v' := (.tuple [(.d (.list [])), (.d (.list [])), (.d (.int .i64 1))])) (by kernel_rfl) ?_
        rotate_left
        refine CG.condF (b := (iLt k 0)) q33 (by kernel_rfl) ?_
        refine st hW 3 3 [] (.ops (List.drop 3 f35.r13)) [] [(0, (.d (.list (List.map encL args)))), (1, (.d (.list (List.map Dm.encI ranks)))), (4, .nils), (5, .nils), (6, (.d (.int .i64 0))), (7, (.d (.int .i64 (wrapF IntKind.i64 (iAdd (Int.ofNat i) 1)))))] ([]) (by kernel_rfl) (by kernel_rfl) ?_
        refine CG.endL rfl ?_
        rw [wrapI (by omega)]
        rotate_left
        · rw [bad1 (by rw [hinv, show neg k = true by assumption]; simp)]; rfl
        · exact ⟨(), by rw [hinv, hinv2, show neg k = false by assumption]; simp, Tidy.refl _ _⟩
      · intro j u2 y r2 hdj hy hltj hinv2
        rw [List.any_cons] at hinv2
        refine st hW 2 3 [] (.ops (List.drop 3 f35.r6)) [.seq (.cond (Opd.t 36) .skip (.exit 2)), .seq (.seq (.block 3 (.seq (.region f35.r7) (.cond (Opd.t 46) (.seq (.region f35.r8) .ret) .skip))) (.region f35.r9))] [(0, (.d (.list (List.map encL args)))), (1, (.d (.list (List.map Dm.encI ranks)))), (4, .nils), (5, .nils), (6, (.d (.int .i64 0))), (7, (.d (.int .i64 (.ofNat i)))), (8, (.d (.int .i64 (.ofNat j)))), (30, (.d (.int .i64 (.ofNat j)))), (31, (.d (.list (List.map encL args)))), (32, (.d (.int .i64 (.ofNat i))))] ([]) (by kernel_rfl) (by kernel_rfl) ?_
        refine CG.idx (es := args.map encL) (j := i) (e := encL x) (idx_map hx) rfl (by kernel_rfl) (by kernel_rfl) (by kernel_rfl) rfl ?_
        refine st hW 2 0 [] (.code (.cond (Opd.t 36) .skip (.exit 2))) [.seq (.seq (.block 3 (.seq (.region f35.r7) (.cond (Opd.t 46) (.seq (.region f35.r8) .ret) .skip))) (.region f35.r9))] [(0, (.d (.list (List.map encL args)))), (1, (.d (.list (List.map Dm.encI ranks)))), (4, .nils), (5, .nils), (6, (.d (.int .i64 0))), (7, (.d (.int .i64 (.ofNat i)))), (8, (.d (.int .i64 (.ofNat j)))), (36, (.d (.bool (iLt (Int.ofNat j) (Int.ofNat (List.length (List.map Dm.encI x)))))))] ([]) (by kernel_rfl) (by kernel_rfl) ?_
        have q34 : (iLt (Int.ofNat j) (Int.ofNat (List.length (List.map Dm.encI x)))) = true := t_lt (by (try simp only [Int.ofNat_eq_natCast, List.length_map, List.length_append, List.length_cons, List.length_nil, List.length_take, List.length_drop] at *) <;> omega)
        refine CG.condT (b := (iLt (Int.ofNat j) (Int.ofNat (List.length (List.map Dm.encI x))))) q34 (by kernel_rfl) ?_
        refine st hW 5 2 [] (.ops (List.drop 2 f35.r7)) [.seq (.cond (Opd.t 46) (.seq (.region f35.r8) .ret) .skip), .block 3, .seq (.region f35.r9)] [(0, (.d (.list (List.map encL args)))), (1, (.d (.list (List.map Dm.encI ranks)))), (4, .nils), (5, .nils), (6, (.d (.int .i64 0))), (7, (.d (.int .i64 (.ofNat i)))), (8, (.d (.int .i64 (.ofNat j)))), (39, (.d (.list (List.map encL args)))), (40, (.d (.int .i64 (.ofNat i))))] ([]) (by kernel_rfl) (by kernel_rfl) ?_
        refine CG.idx (es := args.map encL) (j := i) (e := encL x) (idx_map hx) rfl (by kernel_rfl) (by kernel_rfl) (by kernel_rfl) rfl ?_
        refine st hW 0 2 [] (.ops (List.drop 2 (List.drop 1 (List.drop 2 f35.r7)))) [.seq (.cond (Opd.t 46) (.seq (.region f35.r8) .ret) .skip), .block 3, .seq (.region f35.r9)] [(0, (.d (.list (List.map encL args)))), (1, (.d (.list (List.map Dm.encI ranks)))), (4, .nils), (5, .nils), (6, (.d (.int .i64 0))), (7, (.d (.int .i64 (.ofNat i)))), (8, (.d (.int .i64 (.ofNat j)))), (42, (.d (.list (List.map Dm.encI x)))), (43, (.d (.int .i64 (.ofNat j))))] ([]) (by kernel_rfl) (by kernel_rfl) ?_
        refine CG.idx (es := x.map Dm.encI) (j := j) (e := Dm.encI y) (idx_map hy) rfl (by kernel_rfl) (by kernel_rfl) (by kernel_rfl) rfl ?_
        refine st hW 2 0 [] (.code (.cond (Opd.t 46) (.seq (.region f35.r8) .ret) .skip)) [.block 3, .seq (.region f35.r9)] [(0, (.d (.list (List.map encL args)))), (1, (.d (.list (List.map Dm.encI ranks)))), (4, .nils), (5, .nils), (6, (.d (.int .i64 0))), (7, (.d (.int .i64 (.ofNat i)))), (8, (.d (.int .i64 (.ofNat j)))), (46, (.d (.bool (iLt y 0))))] ([]) (by kernel_rfl) (by kernel_rfl) ?_
        refine (Bool.eq_false_or_eq_true (iLt y 0)).elim (fun q36 => ?_) (fun q36 => ?_)
        have p36 := ltT q36
        rotate_left
        have p36 := ltF q36
        rotate_right
        refine CG.condT (b := (iLt y 0)) q36 (by kernel_rfl) ?_
        refine st hW 3 0 [] (.code .ret) [.block 3, .seq (.region f35.r9)] [(0, (.d (.list (List.map encL args)))), (1, (.d (.list (List.map Dm.encI ranks)))), (4, .nils), (5, .nils), (6, (.d (.int .i64 1))), (7, (.d (.int .i64 (.ofNat i)))), (8, (.d (.int .i64 (.ofNat j))))] ([]) (by kernel_rfl) (by kernel_rfl) ?_
        refine CG.retD (LQ.ret (LQ.ret (RetQ.ret (v' := (.tuple [(.d (.list [])), (.d (.list [])), (.d (.int .i64 1))])) (by kernel_rfl) ?_)))
        rotate_left
        refine CG.condF (b := (iLt y 0)) q36 (by kernel_rfl) ?_
        refine st hW 3 3 [] (.ops (List.drop 3 f35.r9)) [] [(0, (.d (.list (List.map encL args)))), (1, (.d (.list (List.map Dm.encI ranks)))), (4, .nils), (5, .nils), (6, (.d (.int .i64 0))), (7, (.d (.int .i64 (.ofNat i)))), (8, (.d (.int .i64 (wrapF IntKind.i64 (iAdd (Int.ofNat j) 1)))))] ([]) (by kernel_rfl) (by kernel_rfl) ?_
        refine CG.endL rfl ?_
        rw [wrapI (by omega)]
        rotate_left
        · rw [bad1 (by rw [hinv, hinv2, show neg y = true by assumption]; simp)]; rfl
        · exact ⟨(), by rw [hinv2, show neg y = false by assumption]; rfl, Tidy.refl _ _⟩
  · rw [bad1 (by simp only [badD, Bool.or_eq_true, decide_eq_true_eq]; exact .inl (.inl (.inl (by omega))))]; rfl
end Fw.Tz.Dr

/-
  AgreeDims: the call returns true.
-/
set_option linter.unusedSimpArgs false
set_option maxRecDepth 1000000
set_option maxHeartbeats 4000000
namespace Fw.Tz.Ld
open Go Go.Proofs Fw.X Fw.Tz Fw.Tz.Dm Fw.Tz.Da Fw.Tz.Dr
variable {W : World}
noncomputable def rd (W : World) (ov : List (Nat × Bool)) (sp : List (Nat × V)) (n : Nat) (l : List IOper) (ks : List Nat) (tm : List (Nat × V)) (H : Heap) : Option (List V × Heap × List (Bool × Bool) × CallL) :=
  runDX [] (gl W) (dcallOf (pcallX kt0 .e (rawX W kt0 .e 40)) (callX W kt0 .e (rawX W kt0 .e 40))) ov sp n l ks tm H
noncomputable def rg (W : World) (n : Nat) (N j : Nat) (bs : List Bool) (cur : Cur) (K : List Fr) (ks : List Nat) (tm : List (Nat × V)) (H : Heap) : Option XR :=
  runG [] (gl W) (callX W kt0 .e (rawX W kt0 .e 40)) (pcallX kt0 .e (rawX W kt0 .e 40)) n N j bs cur K ks tm H
theorem st (hW : W0 W) (N j : Nat) (bs : List Bool) {cur : Cur} {K : List Fr} {n : Nat} {tm : List (Nat × V)} {H : Heap} {Q : Ex → St → Prop} (c' : Cur) (K' : List Fr) (tm' : List (Nat × V)) (H' : Heap)
    (h1 : ctlJ N j bs cur K = some (c', K')) (h2 : rg W n N j bs cur K (tm'.map Prod.fst) tm H = some (.tuple (tm'.map Prod.snd), H')) (hq : CG P (gl W) c' K' n tm' H' Q) : CG P (gl W) cur K n tm H Q :=
  CG.st orders (callX_ok hW (ex0) _ (rawX_ok hW (ex0) 40)) (pcallX_ok hW (ex0) _ (rawX_ok hW (ex0) 40)) N j bs h1 h2 hq
theorem go_len : ∀ (args : List (List Int)) (ranks fr0 : List Int) (fd0 : List Bool) (eq0 : Bool) {fr : List Int} {fd : List Bool} {eq : Bool}, (∀ l ∈ args, l.length ≤ 8) → fr0.length ≤ 8 → go args ranks fr0 fd0 eq0 = some (fr, fd, eq) →
    fr.length ≤ 8 ∧ fd.length ≤ fd0.length + args.length := by
  intro args
  induction args with
  | nil =>
    intro ranks fr0 fd0 eq0 fr fd eq _ h0 h
    simp only [go, Option.some.injEq, Prod.mk.injEq] at h
    obtain ⟨rfl, rfl, rfl⟩ := h
    exact ⟨h0, by simp⟩
  | cons l ls ih =>
    intro ranks fr0 fd0 eq0 fr fd eq ha h0 h
    cases ranks with
    | nil =>
      simp only [go, Option.some.injEq, Prod.mk.injEq] at h
      obtain ⟨rfl, rfl, rfl⟩ := h
      exact ⟨h0, by simp⟩
    | cons k ks =>
      rw [go] at h
      split at h
      · cases h
      · split at h
        · cases h
        · have hl := ha l List.mem_cons_self
          obtain ⟨e1, e2⟩ := ih ks _ _ _ (fun q hq => ha q (List.mem_cons_of_mem _ hq)) (by split <;> first | (simp; omega) | omega) h
          refine ⟨e1, ?_⟩
          simp only [List.length_append, List.length_cons, List.length_nil] at e2 ⊢
          omega
theorem dimsF_cases (args : List (List Int)) (ranks : List Int) (ha : ∀ l ∈ args, l.length ≤ 8) (hl : args.length ≤ 17) : ∃ fr fd e, dimsF args ranks = outV fr fd e ∧ fr.length ≤ 8 ∧ fd.length ≤ 17 := by
  unfold dimsF
  cases badD args ranks with
  | true => exact ⟨[], [], 1, rfl, by simp, by simp⟩
  | false =>
    rw [cond_false]
    cases h : go args ranks [] [] true with
    | none => exact ⟨[], [], 13, rfl, by simp, by simp⟩
    | some p =>
      obtain ⟨fr, fd, eq⟩ := p
      obtain ⟨h1, h2⟩ := go_len args ranks [] [] true ha (by simp) h
      cases eq with
      | true => exact ⟨fr, fd, 0, rfl, h1, by simp at h2; omega⟩
      | false => exact ⟨[], [], 14, rfl, by simp, by simp⟩
theorem law_dims (hW : W0 W) (args : List (List Int)) (ranks : List Int) (hr : ∀ k ∈ ranks, k ≤ 9223372036854775807) :
    PC P (gl W) 8 [.d (.list (args.map encL)), .d (.list (ranks.map Dm.encI))] (.d (.bool true)) := by
  refine CG.start is8 ca8 rfl ?_
  refine st hW 5 8 [] (.ops (List.drop 8 f8.r1)) [.seq (.cond (Opd.t 24) (.seq (.region f8.r2) .ret) .skip), .seq (.seq (.seq (.region f8.r3) (.block 0 (.loop f8.l9))) (.seq (.region f8.r10) (.seq (.region f8.r11) (.seq (.region f8.r12) .ret))))] [(0, (.d (.list (List.map encL args)))), (1, (.d (.list (List.map Dm.encI ranks)))), (4, (.d (.bool false))), (20, (.d (.bool (iLt 17 (Int.ofNat (List.length (List.map encL args)))))))] ([]) (by kernel_rfl) (by kernel_rfl) ?_
  refine (Bool.eq_false_or_eq_true (iLt 17 (Int.ofNat (List.length (List.map encL args))))).elim (fun q7 => ?_) (fun q7 => ?_)
  have p7 := ltT q7
  simp only [Int.ofNat_eq_natCast, List.length_map, List.length_append, List.length_cons, List.length_nil, List.length_take, List.length_drop] at p7
  rotate_left
  have p7 := ltF q7
  simp only [Int.ofNat_eq_natCast, List.length_map, List.length_append, List.length_cons, List.length_nil, List.length_take, List.length_drop] at p7
  rotate_right
  rw [q7]
  refine st hW 6 0 [true] (.code .ret) [.seq (.seq (.seq (.region f8.r3) (.block 0 (.loop f8.l9))) (.seq (.region f8.r10) (.seq (.region f8.r11) (.seq (.region f8.r12) .ret))))] [(0, (.d (.list (List.map encL args)))), (1, (.d (.list (List.map Dm.encI ranks)))), (4, (.d (.bool true)))] ([]) (by kernel_rfl) (by kernel_rfl) ?_
  refine CG.ret (v' := (.d (.bool true))) (by kernel_rfl) ?_
  with_reducible rfl
  rw [q7]
  refine st hW 2 0 [] (.code (.cond (Opd.t 24) (.seq (.region f8.r2) .ret) .skip)) [.seq (.seq (.seq (.region f8.r3) (.block 0 (.loop f8.l9))) (.seq (.region f8.r10) (.seq (.region f8.r11) (.seq (.region f8.r12) .ret))))] [(0, (.d (.list (List.map encL args)))), (1, (.d (.list (List.map Dm.encI ranks)))), (4, (.d (.bool false))), (24, (.d (.bool (iLt 17 (Int.ofNat (List.length (List.map Dm.encI ranks)))))))] ([]) (by kernel_rfl) (by kernel_rfl) ?_
  refine (Bool.eq_false_or_eq_true (iLt 17 (Int.ofNat (List.length (List.map Dm.encI ranks))))).elim (fun q9 => ?_) (fun q9 => ?_)
  have p9 := ltT q9
  simp only [Int.ofNat_eq_natCast, List.length_map, List.length_append, List.length_cons, List.length_nil, List.length_take, List.length_drop] at p9
  rotate_left
  have p9 := ltF q9
  simp only [Int.ofNat_eq_natCast, List.length_map, List.length_append, List.length_cons, List.length_nil, List.length_take, List.length_drop] at p9
  rotate_right
  refine CG.condT (b := (iLt 17 (Int.ofNat (List.length (List.map Dm.encI ranks))))) q9 (by kernel_rfl) ?_
  refine st hW 3 0 [] (.code .ret) [.seq (.seq (.seq (.region f8.r3) (.block 0 (.loop f8.l9))) (.seq (.region f8.r10) (.seq (.region f8.r11) (.seq (.region f8.r12) .ret))))] [(0, (.d (.list (List.map encL args)))), (1, (.d (.list (List.map Dm.encI ranks)))), (4, (.d (.bool true)))] ([]) (by kernel_rfl) (by kernel_rfl) ?_
  refine CG.ret (v' := (.d (.bool true))) (by kernel_rfl) ?_
  with_reducible rfl
  refine CG.condF (b := (iLt 17 (Int.ofNat (List.length (List.map Dm.encI ranks))))) q9 (by kernel_rfl) ?_
  refine st hW 7 0 [] (.code (.loop f8.l9)) [.block 0, .seq (.seq (.region f8.r10) (.seq (.region f8.r11) (.seq (.region f8.r12) .ret)))] [(0, (.d (.list (List.map encL args)))), (1, (.d (.list (List.map Dm.encI ranks)))), (4, (.d (.bool false))), (26, (.d (.list (List.map encL args)))), (27, (.d (.int .i64 (.ofNat (List.length (List.map encL args)))))), (28, (.d (.int .i64 0)))] ([]) (by kernel_rfl) (by kernel_rfl) ?_
  rotate_left
  refine CG.loopL args (fun i u => [(0, (.d (.list (List.map encL args)))), (1, (.d (.list (List.map Dm.encI ranks)))), (4, (.d (.bool false))), (26, (.d (.list (List.map encL args)))), (27, (.d (.int .i64 (.ofNat (List.length (List.map encL args)))))), (28, .d (.int .i64 (.ofNat i)))]) (fun i u => []) (fun i u r => ((∀ l ∈ r, l.length ≤ 8) → ∀ l ∈ args, l.length ≤ 8)) () ?_ (Tidy.refl _ _) ?_ ?_
  · exact fun h => h
  · intro i u hi hd hinv
    have ha := hinv (by simp)
    obtain ⟨fr, fd, e, hF, hf1, hf2⟩ := dimsF_cases args ranks ha (by omega)
    have h1 := pc_dims hW args ranks (by omega) (by omega) (fun r h => by have := ha r h; omega) hr
    have h2 := pc_dims_ref hW args ranks (by omega) (by omega) (fun r h => by have := ha r h; omega) hr
    rw [hF] at h1 h2
    unfold outV at h1 h2
    refine st hW 4 0 [] (.code (.cond (Opd.t 29) .skip (.exit 0))) [.seq (.seq (.block 1 (.seq (.region f8.r5) (.seq (.region f8.r6) (.cond (Opd.t 34) (.seq (.region f8.r7) .ret) .skip)))) (.region f8.r8))] [(0, (.d (.list (List.map encL args)))), (1, (.d (.list (List.map Dm.encI ranks)))), (4, (.d (.bool false))), (26, (.d (.list (List.map encL args)))), (28, (.d (.int .i64 (.ofNat i)))), (29, (.d (.bool (iLt (Int.ofNat i) (Int.ofNat (List.length (List.map encL args)))))))] ([]) (by kernel_rfl) (by kernel_rfl) ?_
    have q24 : (iLt (Int.ofNat i) (Int.ofNat (List.length (List.map encL args)))) = false := f_lt (by (try simp only [Int.ofNat_eq_natCast, List.length_map, List.length_append, List.length_cons, List.length_nil, List.length_take, List.length_drop] at *) <;> omega)
    refine CG.condF (b := (iLt (Int.ofNat i) (Int.ofNat (List.length (List.map encL args))))) q24 (by kernel_rfl) ?_
    refine CG.exitL (by decide) ?_
    refine st hW 3 2 [] (.ops (List.drop 2 f8.r10)) [.seq (.seq (.region f8.r11) (.seq (.region f8.r12) .ret))] [(0, (.d (.list (List.map encL args)))), (1, (.d (.list (List.map Dm.encI ranks)))), (4, (.d (.bool false))), (37, (.d (.list (List.map encL args)))), (38, (.d (.list (List.map Dm.encI ranks))))] ([]) (by kernel_rfl) (by kernel_rfl) ?_
    refine CG.pc (h1) rfl (by kernel_rfl) rfl ?_
    refine st hW 3 2 [] (.ops (List.drop 2 f8.r11)) [.seq (.seq (.region f8.r12) .ret)] [(4, (.d (.bool false))), (7, (.d (.list (List.map Dm.encI fr)))), (8, (.d (.list (List.map encB fd)))), (9, (.d (.int .i64 e))), (44, (.d (.list (List.map encL args)))), (45, (.d (.list (List.map Dm.encI ranks))))] ([]) (by kernel_rfl) (by kernel_rfl) ?_
    refine CG.pc (h2) rfl (by kernel_rfl) rfl ?_
    refine st hW 3 2 [] (.ops (List.drop 2 f8.r12)) [.seq .ret] [(4, (.d (.bool false))), (8, (.d (.list (List.map encB fd)))), (9, (.d (.int .i64 e))), (11, (.d (.list (List.map encB fd)))), (12, (.d (.int .i64 e))), (50, (.d (.list (List.map Dm.encI fr)))), (51, (.d (.list (List.map Dm.encI fr))))] ([]) (by kernel_rfl) (by kernel_rfl) ?_
    refine CG.pc ((pc_sameInts hW fr fr) (by first | assumption | exact (by (try simp only [Int.ofNat_eq_natCast, List.length_map, List.length_append, List.length_cons, List.length_nil, List.length_take, List.length_drop] at *) <;> omega))) rfl (by kernel_rfl) rfl ?_
    refine st hW 0 1 [] (.ops (List.drop 1 (List.drop 1 (List.drop 2 f8.r12)))) [.seq .ret] [(4, (.d (.bool false))), (8, (.d (.list (List.map encB fd)))), (9, (.d (.int .i64 e))), (11, (.d (.list (List.map encB fd)))), (12, (.d (.int .i64 e))), (53, (.d (.bool (fr == fr))))] ([]) (by kernel_rfl) (by kernel_rfl) ?_
    refine (Bool.eq_false_or_eq_true (fr == fr)).elim (fun q25 => ?_) (fun q25 => ?_)
    rw [q25]
    refine st hW 0 2 [] (.ops (List.drop 2 (List.drop 1 (List.drop 1 (List.drop 2 f8.r12))))) [.seq .ret] [(4, (.d (.bool false))), (9, (.d (.int .i64 e))), (12, (.d (.int .i64 e))), (53, (.d (.bool true))), (54, (.d (.list (List.map encB fd)))), (55, (.d (.list (List.map encB fd))))] ([]) (by kernel_rfl) (by kernel_rfl) ?_
    refine CG.pcG ((pc_sameFramed hW fd fd) (by first | assumption | exact (by (try simp only [Int.ofNat_eq_natCast, List.length_map, List.length_append, List.length_cons, List.length_nil, List.length_take, List.length_drop] at *) <;> omega))) rfl (by kernel_rfl) (by kernel_rfl) rfl ?_
    refine st hW 0 2 [] (.ops (List.drop 2 (List.drop 1 (List.drop 2 (List.drop 1 (List.drop 1 (List.drop 2 f8.r12))))))) [.seq .ret] [(4, (.d (.bool false))), (9, (.d (.int .i64 e))), (12, (.d (.int .i64 e))), (58, (.d (.bool (fd == fd))))] ([]) (by kernel_rfl) (by kernel_rfl) ?_
    refine (Bool.eq_false_or_eq_true (fd == fd)).elim (fun q26 => ?_) (fun q26 => ?_)
    rw [q26]
    refine st hW 2 0 [] (.code .ret) [] [(4, (.d (.bool (iEq e e))))] ([]) (by kernel_rfl) (by kernel_rfl) ?_
    refine CG.ret (v' := (.d (.bool (iEq e e)))) (by kernel_rfl) ?_
    rotate_left
    rw [q26]
    refine st hW 2 0 [] (.code .ret) [] [(4, (.d (.bool false)))] ([]) (by kernel_rfl) (by kernel_rfl) ?_
    refine CG.ret (v' := (.d (.bool false))) (by kernel_rfl) ?_
    rotate_left
    rw [q25]
    refine st hW 2 0 [] (.code .ret) [] [(4, (.d (.bool false)))] ([]) (by kernel_rfl) (by kernel_rfl) ?_
    refine CG.ret (v' := (.d (.bool false))) (by kernel_rfl) ?_
    rotate_left
    · rw [show iEq e e = true from t_eq rfl]
    · exact absurd (by assumption : (fd == fd) = false) (by simp)
    · exact absurd (by assumption : (fr == fr) = false) (by simp)
  · intro i u x r hd hx hlt hinv
    refine st hW 4 0 [] (.code (.cond (Opd.t 29) .skip (.exit 0))) [.seq (.seq (.block 1 (.seq (.region f8.r5) (.seq (.region f8.r6) (.cond (Opd.t 34) (.seq (.region f8.r7) .ret) .skip)))) (.region f8.r8))] [(0, (.d (.list (List.map encL args)))), (1, (.d (.list (List.map Dm.encI ranks)))), (4, (.d (.bool false))), (26, (.d (.list (List.map encL args)))), (27, (.d (.int .i64 (.ofNat (List.length (List.map encL args)))))), (28, (.d (.int .i64 (.ofNat i)))), (29, (.d (.bool (iLt (Int.ofNat i) (Int.ofNat (List.length (List.map encL args)))))))] ([]) (by kernel_rfl) (by kernel_rfl) ?_
    have q18 : (iLt (Int.ofNat i) (Int.ofNat (List.length (List.map encL args)))) = true := t_lt (by (try simp only [Int.ofNat_eq_natCast, List.length_map, List.length_append, List.length_cons, List.length_nil, List.length_take, List.length_drop] at *) <;> omega)
    refine CG.condT (b := (iLt (Int.ofNat i) (Int.ofNat (List.length (List.map encL args))))) q18 (by kernel_rfl) ?_
    refine st hW 5 0 [] (.code (.region f8.r5)) [.seq (.seq (.region f8.r6) (.cond (Opd.t 34) (.seq (.region f8.r7) .ret) .skip)), .block 1, .seq (.region f8.r8)] [(0, (.d (.list (List.map encL args)))), (1, (.d (.list (List.map Dm.encI ranks)))), (4, (.d (.bool false))), (26, (.d (.list (List.map encL args)))), (27, (.d (.int .i64 (.ofNat (List.length (List.map encL args)))))), (28, (.d (.int .i64 (.ofNat i))))] ([]) (by kernel_rfl) (by kernel_rfl) ?_
    refine CG.reg ?_
    refine CG.idx (es := args.map encL) (j := i) (e := encL x) (idx_map hx) rfl (by kernel_rfl) (by kernel_rfl) (by kernel_rfl) rfl ?_
    refine st hW 5 0 [] (.code (.cond (Opd.t 34) (.seq (.region f8.r7) .ret) .skip)) [.block 1, .seq (.region f8.r8)] [(0, (.d (.list (List.map encL args)))), (1, (.d (.list (List.map Dm.encI ranks)))), (4, (.d (.bool false))), (26, (.d (.list (List.map encL args)))), (27, (.d (.int .i64 (.ofNat (List.length (List.map encL args)))))), (28, (.d (.int .i64 (.ofNat i)))), (34, (.d (.bool (iLt 8 (Int.ofNat (List.length (List.map Dm.encI x)))))))] ([]) (by kernel_rfl) (by kernel_rfl) ?_
    refine (Bool.eq_false_or_eq_true (iLt 8 (Int.ofNat (List.length (List.map Dm.encI x))))).elim (fun q20 => ?_) (fun q20 => ?_)
    have p20 := ltT q20
    simp only [Int.ofNat_eq_natCast, List.length_map, List.length_append, List.length_cons, List.length_nil, List.length_take, List.length_drop] at p20
    rotate_left
    have p20 := ltF q20
    simp only [Int.ofNat_eq_natCast, List.length_map, List.length_append, List.length_cons, List.length_nil, List.length_take, List.length_drop] at p20
    rotate_right
    refine CG.condT (b := (iLt 8 (Int.ofNat (List.length (List.map Dm.encI x))))) q20 (by kernel_rfl) ?_
    refine st hW 3 0 [] (.code .ret) [.block 1, .seq (.region f8.r8)] [(0, (.d (.list (List.map encL args)))), (1, (.d (.list (List.map Dm.encI ranks)))), (4, (.d (.bool true))), (26, (.d (.list (List.map encL args)))), (27, (.d (.int .i64 (.ofNat (List.length (List.map encL args)))))), (28, (.d (.int .i64 (.ofNat i))))] ([]) (by kernel_rfl) (by kernel_rfl) ?_
    refine CG.retL (v' := (.d (.bool true))) (by kernel_rfl) ?_
    with_reducible rfl
    refine CG.condF (b := (iLt 8 (Int.ofNat (List.length (List.map Dm.encI x))))) q20 (by kernel_rfl) ?_
    refine st hW 3 2 [] (.ops (List.drop 2 f8.r8)) [] [(0, (.d (.list (List.map encL args)))), (1, (.d (.list (List.map Dm.encI ranks)))), (4, (.d (.bool false))), (26, (.d (.list (List.map encL args)))), (27, (.d (.int .i64 (.ofNat (List.length (List.map encL args)))))), (28, (.d (.int .i64 (wrapF IntKind.i64 (iAdd (Int.ofNat i) 1)))))] ([]) (by kernel_rfl) (by kernel_rfl) ?_
    refine CG.endL rfl ?_
    rw [wrapI (by omega)]
    rotate_left
    exact ⟨(), fun h => hinv fun l hl => by
      rcases List.mem_cons.1 hl with rfl | hl
      · omega
      · exact h l hl, Tidy.refl _ _⟩
end Fw.Tz.Ld
