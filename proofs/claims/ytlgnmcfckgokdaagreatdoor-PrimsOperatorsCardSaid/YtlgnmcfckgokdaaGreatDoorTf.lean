import Derived.Test.YtlgnmcfckgokdaaGreatDoorSe
import Derived.Test.YtlgnmcfckgokdaaGreatDoorTd
import Derived.Test.YtlgnmcfckgokdaaGreatDoorTe
/-
  PrimsOperators: the call returns true.
-/
set_option linter.unusedSimpArgs false
set_option maxRecDepth 1000000
set_option maxHeartbeats 1000000
namespace Fw.Tz
open Go Go.Proofs Fw.X
variable {W : World}

/-- the operators: sign, unary, name, level -/
def opT : List (List UInt8 × Bool × List UInt8 × Nat) := [([124, 124], false, [111, 114], 1), ([38, 38], false, [97, 110, 100], 2), ([61, 61], false, [101, 113], 3), ([33, 61], false, [110, 101], 3), ([60], false, [108, 116], 3), ([60, 61], false, [108, 101], 3), ([62], false, [103, 116], 3), ([62, 61], false, [103, 101], 3), ([43], false, [97, 100, 100], 4), ([45], false, [115, 117, 98], 4), ([42], false, [109, 117, 108], 5), ([47], false, [100, 105, 118], 5), ([37], false, [109, 111, 100], 5), ([45], true, [110, 101, 103], 6), ([33], true, [110, 111, 116], 6)]
def opF : List (List UInt8 × Bool × List UInt8 × Nat) → List UInt8 → Bool → List UInt8 × Nat × Bool
  | [], _, _ => ([], 0, false)
  | (c, b, nm, lv) :: l, s, u => bif Fw.bytesEq c s && (b == u) then (nm, lv, true) else opF l s u
def opV (r : List UInt8 × Nat × Bool) : V := .tuple [.d (.str r.1), .d (.int .i64 r.2.1), .d (.bool r.2.2)]
def chk32 (W : World) (s : List UInt8) (u : Bool) : Prop := pcT W 40 32 [.d (.str s), .d (.bool u)] = some (opV (opF opT s u))
theorem op_known (W : World) : ∀ s ∈ known, ∀ u, chk32 W s u := by
  intro s hs u
  unfold chk32
  simp only [known, List.mem_cons, List.not_mem_nil, or_false] at hs
  rcases hs with rfl | rfl | rfl | rfl | rfl | rfl | rfl | rfl | rfl | rfl | rfl | rfl | rfl | rfl | rfl | rfl | rfl | rfl | rfl | rfl | rfl | rfl | rfl <;> cases u <;> kernel_rfl
theorem opF_un : ∀ {l : List (List UInt8 × Bool × List UInt8 × Nat)} {s : List UInt8} {u : Bool}, (∀ e ∈ l, e.1 ∈ known) → nC s = true → opF l s u = ([], 0, false)
  | [], _, _, _, _ => rfl
  | (c, b, nm, lv) :: l, s, u, hl, h => by
    have hc := hl _ List.mem_cons_self
    have h1 := List.all_eq_true.1 h c hc
    have h2 : Fw.bytesEq c s = false := by rw [bytesEq_comm]; simpa using h1
    simp only [opF, h2, Bool.false_and, cond_false]
    exact opF_un (fun e he => hl e (List.mem_cons_of_mem _ he)) h
theorem op_spec (hW : W0 W) (s : List UInt8) (u : Bool) : PC P (gl W) 32 [.d (.str s), .d (.bool u)] (opV (opF opT s u)) := by
  cases h : nC s with
  | true =>
    rw [opF_un (by decide) h]
    exact n32 hW u h
  | false =>
    have : ¬ ∀ c ∈ known, (!Fw.bytesEq s c) = true := by
      intro hall
      have : nC s = true := List.all_eq_true.2 hall
      rw [h] at this; cases this
    simp only [Classical.not_forall] at this
    obtain ⟨c, hc, hn⟩ := this
    have hb : Fw.bytesEq s c = true := by simpa using hn
    rw [bytesEq_eq hb]
    exact pcT_ok hW 40 _ _ _ (op_known W c hc u)

def syT : List (List UInt8 × V) := ([], .tuple [.d (.str []), .d (.bool false), .d (.bool false)]) :: opT.map fun e => (e.2.2.1, .tuple [.d (.str e.1), .d (.bool e.2.1), .d (.bool true)])
theorem sy_known (W : World) : ∀ q ∈ syT, pcT W 40 27 [.d (.str q.1)] = some q.2 := by
  intro q hq
  simp only [syT, opT, List.map_cons, List.map_nil, List.mem_cons, List.not_mem_nil, or_false] at hq
  rcases hq with rfl | rfl | rfl | rfl | rfl | rfl | rfl | rfl | rfl | rfl | rfl | rfl | rfl | rfl | rfl | rfl <;> kernel_rfl

/-- what the law asks of an operator that is there -/
def opGood (s : List UInt8) (u : Bool) (r : List UInt8 × Nat × Bool) : Prop := ∃ sy un is, (r.1, V.tuple [.d (.str sy), .d (.bool un), .d (.bool is)]) ∈ syT ∧ (r.2.2 = true → is = true ∧ sy = s ∧ un = u ∧ 1 ≤ r.2.1 ∧ r.2.1 ≤ 6 ∧ (decide (r.2.1 = 6) = u))
theorem op_good (s : List UInt8) (u : Bool) : opGood s u (opF opT s u) := by
  have key : ∀ (l : List (List UInt8 × Bool × List UInt8 × Nat)), (∀ e ∈ l, e ∈ opT) → opGood s u (opF l s u) := by
    intro l
    induction l with
    | nil => intro _; exact ⟨[], false, false, List.mem_cons_self, fun h => by cases h⟩
    | cons e l ih =>
      intro hl
      obtain ⟨c, b, nm, lv⟩ := e
      simp only [opF]
      cases hb : (Fw.bytesEq c s && (b == u)) with
      | false => exact ih fun e he => hl e (List.mem_cons_of_mem _ he)
      | true =>
        simp only [Bool.and_eq_true, beq_iff_eq] at hb
        obtain ⟨h1, rfl⟩ := hb
        obtain rfl := bytesEq_eq h1
        have hm := hl _ List.mem_cons_self
        refine ⟨c, b, true, List.mem_cons_of_mem _ (List.mem_map.2 ⟨_, hm, rfl⟩), fun _ => ⟨rfl, rfl, rfl, ?_⟩⟩
        have : ∀ e ∈ opT, 1 ≤ e.2.2.2 ∧ e.2.2.2 ≤ 6 ∧ decide (e.2.2.2 = 6) = e.2.1 := by decide
        exact this _ hm
  exact key opT fun _ h => h

def rest8 : IR := .seq (.region f8.r9) (.seq (.region f8.r10) (.seq (.region f8.r11) (.seq (.region f8.r12) (.seq (.region f8.r13) (.seq (.region f8.r14) .ret)))))
def noSy : V := .tuple [.d (.str []), .d (.bool false), .d (.bool false)]
/-- Symbol at each of the 34 names -/
def syN : List (List UInt8 × V) := nmT.map fun s => (s, (atS syT s).getD noSy)
theorem syN_known (W : World) : ∀ q ∈ syN, pcT W 40 27 [.d (.str q.1)] = some q.2 := by
  intro q hq
  simp only [syN, nmT, List.map_cons, List.map_nil, List.mem_cons, List.not_mem_nil, or_false] at hq
  rcases hq with rfl | rfl | rfl | rfl | rfl | rfl | rfl | rfl | rfl | rfl | rfl | rfl | rfl | rfl | rfl | rfl | rfl | rfl | rfl | rfl | rfl | rfl | rfl | rfl | rfl | rfl | rfl | rfl | rfl | rfl | rfl | rfl | rfl | rfl <;> kernel_rfl
def tabO : List V → Option V
  | [.d (.str s), .d (.bool u)] => some (opV (opF opT s u))
  | _ => none
theorem tabO_ok (hW : W0 W) : ∀ args r, tabO args = some r → PC P (gl W) 32 args r := by
  intro args r h
  unfold tabO at h
  split at h
  · simp only [Option.some.injEq] at h; subst h; exact op_spec hW _ _
  · cases h
def ex8 : Extra := .n (.n .e 16 (tab0 v16) .e) 17 (tabS sgT) (.n (.n .e 27 (tabS syN) .e) 32 tabO .e)
theorem ex8_ok (hW : W0 W) : ExOk P (gl W) ex8 :=
  ⟨⟨trivial, tab0_ok (pcT_ok hW 40 _ _ _ (k16 W)), trivial⟩, tabS_ok (sgT_ok hW), ⟨trivial, tabS_ok (fun q hq => pcT_ok hW 40 _ _ _ (syN_known W q hq)), trivial⟩, tabO_ok hW, trivial⟩
def kt8 : FT Nat := (.n (.n (.n (.n (.n (.n .e 15 0 .e) 16 0 .e) 17 0 (.n (.n .e 19 0 .e) 23 0 .e)) 27 0 (.n (.n (.n .e 32 0 .e) 47 0 .e) 48 0 (.n .e 53 0 .e))) 54 0 (.n (.n (.n (.n .e 58 0 .e) 61 0 .e) 64 0 (.n .e 79 0 .e)) 81 0 (.n (.n (.n .e 86 0 .e) 87 0 .e) 96 0 (.n .e 97 0 .e)))) 100 0 (.n (.n (.n (.n (.n .e 102 0 .e) 106 0 .e) 122 0 (.n .e 123 0 .e)) 125 0 (.n (.n (.n .e 129 0 .e) 131 0 .e) 135 0 (.n .e 138 0 .e))) 156 0 (.n (.n (.n (.n .e 165 0 .e) 175 0 .e) 181 0 (.n .e 182 0 .e)) 193 0 (.n (.n (.n .e 202 0 .e) 204 0 .e) 206 0 (.n .e 224 0 .e)))))
theorem run8_all (W : World) : ((List.range 256).all fun a => isT (runRX W kt8 ex8 [] 120 rest8 f8.res [(2, .d (.int .u8 (Int.ofNat a)))] [])) = true := by kernel_rfl
theorem rest8_ok (hW : W0 W) (a : Nat) (ha : a < 256) : WC P (gl W) rest8 ⟨120, [(2, .d (.int .u8 (Int.ofNat a)))], []⟩ (fun e σ => match e with | .exit _ => False | _ => (resV f8.res σ).bind (deepV σ.hp) = some (.d (.bool true))) :=
  WC.runT hW (ex8_ok hW) (by decide) rfl (List.all_eq_true.1 (run8_all W) a (List.mem_range.2 ha))

theorem bytesEq_refl : ∀ (s : List UInt8), Fw.bytesEq s s = true
  | [] => rfl
  | a :: s => by simp [Fw.bytesEq, bytesEq_refl s]

theorem facts8 (hW : W0 W) (s : List UInt8) (u : Bool) : ∃ (nm : List UInt8) (lv : Nat) (ok : Bool) (sy : List UInt8) (un is : Bool),
    PC P (gl W) 32 [.d (.str s), .d (.bool u)] (.tuple [.d (.str nm), .d (.int .i64 lv), .d (.bool ok)]) ∧ PC P (gl W) 27 [.d (.str nm)] (.tuple [.d (.str sy), .d (.bool un), .d (.bool is)]) ∧
    (ok = true → is = true ∧ sy = s ∧ un = u ∧ 1 ≤ lv ∧ lv ≤ 6 ∧ (decide (lv = 6) = u)) := by
  have h32 := op_spec hW s u
  have hgood := op_good s u
  generalize opF opT s u = r at h32 hgood
  obtain ⟨nm, lv, ok⟩ := r
  obtain ⟨sy, un, is, hm, hg⟩ := hgood
  have h27 := sy_known W _ hm
  exact ⟨nm, lv, ok, sy, un, is, h32, pcT_ok hW 40 _ _ _ h27, hg⟩

theorem law8 (hW : W0 W) (s : List UInt8) (u : Bool) (a : Nat) (ha : a < 256) : PC P (gl W) 8 [.d (.str s), .d (.bool u), .d (.int .u8 (Int.ofNat a))] (.d (.bool true)) := by
  obtain ⟨nm, lv, ok, sy, un, is, h32, h27, hg⟩ := facts8 hW s u
  refine PC.body is8 ca8 (by simp [f8]) rfl ?_
  show WC P (gl W) (.seq (.region f8.r0) (.seq (.seq (.region f8.r1) (.cond (.t 24) (.seq (.region f8.r2) .ret) .skip)) (.seq (.seq (.region f8.r3) (.cond (.t 27) (.seq (.region f8.r4) .ret) .skip)) (.seq (.region f8.r5) (.seq (.seq (.region f8.r6) (.seq (.region f8.r7) (.cond (.t 69) (.seq (.region f8.r8) .ret) .skip))) rest8))))) ⟨120, [(0, .d (.str s)), (1, .d (.bool u)), (2, .d (.int .u8 (Int.ofNat a)))], []⟩ _
  refine WC.seq (WC.reg (own := []) (by simp [f8.r0, runO, asData, guardB, eff, evo, get_cons, put_cons, put_nil, stput_some, stput_none, happ, binD, binS, binI, eqV, unV, lenV, opV]; rfl) ?_)
  refine WC.seq (WC.seq (WC.region (WO.callPC rfl rfl (awake hW) (by simp [f8.r1, runO, asData, guardB, eff, evo, get_cons, put_cons, put_nil, stput_some, stput_none, happ, binD, binS, binI, eqV, unV, lenV, opV]; rfl) ?_)))
  refine runO_ok (own := []) noC_ok (by simp [runO, asData, guardB, eff, evo, get_cons, put_cons, put_nil, stput_some, stput_none, happ, binD, binS, binI, eqV, unV, lenV, opV]; rfl) ?_
  refine WC.cond (t := false) (by simp [evo, get_cons]) (WC.skip ?_)
  refine WC.seq (WC.seq (WC.reg (own := []) (by simp [f8.r3, runO, asData, guardB, eff, evo, get_cons, put_cons, put_nil, stput_some, stput_none, happ, binD, binS, binI, eqV, unV, lenV, opV]; rfl) ?_))
  by_cases h40 : 40 < s.length
  · refine WC.cond (t := true) (by simp [evo, get_cons]; omega) ?_
    refine WC.seq (WC.reg (own := []) (by simp [f8.r4, runO, asData, guardB, eff, evo, get_cons, put_cons, put_nil, stput_some, stput_none, happ, binD, binS, binI, eqV, unV, lenV, opV]; rfl) (WC.ret ?_))
    simp [resV, f8, mapO, resOne, get_cons, deepV, deepA]
    rfl
  refine WC.cond (t := false) (by simp [evo, get_cons]; omega) (WC.skip ?_)
  refine WC.keep [0, 1, 2] ?_
  change WC P (gl W) _ ⟨120, [(0, .d (.str s)), (1, .d (.bool u)), (2, .d (.int .u8 (Int.ofNat a)))], []⟩ _
  refine WC.seq (WC.regN 2 (own := []) (by simp [f8.r5, runO, asData, guardB, eff, evo, get_cons, put_cons, put_nil, stput_some, stput_none, happ, binD, binS, binI, eqV, unV, lenV, opV]; rfl) ?_)
  refine WO.callPC rfl rfl h32 (by simp [f8.r5, runO, asData, guardB, eff, evo, get_cons, put_cons, put_nil, stput_some, stput_none, happ, binD, binS, binI, eqV, unV, lenV, opV]; rfl) ?_
  refine runO_ok (own := []) noC_ok (by simp [runO, asData, guardB, eff, evo, get_cons, put_cons, put_nil, stput_some, stput_none, happ, binD, binS, binI, eqV, unV, lenV, opV]; rfl) ?_
  refine WC.seq (WC.seq (WC.regN 1 (own := []) (by simp [f8.r6, runO, asData, guardB, eff, evo, get_cons, put_cons, put_nil, stput_some, stput_none, happ, binD, binS, binI, eqV, unV, lenV, opV]; rfl) ?_))
  refine WO.callPC rfl rfl h27 (by simp [f8.r6, runO, asData, guardB, eff, evo, get_cons, put_cons, put_nil, stput_some, stput_none, happ, binD, binS, binI, eqV, unV, lenV, opV]; rfl) ?_
  refine runO_ok (own := []) noC_ok (by simp [runO, asData, guardB, eff, evo, get_cons, put_cons, put_nil, stput_some, stput_none, happ, binD, binS, binI, eqV, unV, lenV, opV]; rfl) ?_
  refine WC.keep [0, 1, 2, 7, 8, 9, 10, 11, 12] ?_
  change WC P (gl W) _ ⟨120, [(0, .d (.str s)), (1, .d (.bool u)), (2, .d (.int .u8 (Int.ofNat a))), (7, .d (.str nm)), (8, .d (.int .i64 lv)), (9, .d (.bool ok)), (10, .d (.str sy)), (11, .d (.bool un)), (12, .d (.bool is))], []⟩ _
  have hrest := rest8_ok hW a ha
  cases ok with
  | false =>
    refine WC.seq (WC.runKX hW ex0 (kt := kt0) (own := []) [2, 69] (vals := [.d (.int .u8 (Int.ofNat a)), .d (.bool false)]) (H' := []) (by decide) (by kernel_rfl) (by kernel_rfl) ?_)
    refine WC.cond (t := false) rfl (WC.skip ?_)
    exact WC.keep [2] hrest
  | true =>
    obtain ⟨rfl, rfl, rfl, g1, g2, g3⟩ := hg rfl
    have g4 : ¬ ((lv : Int) < 1) := by omega
    have g5 : ¬ ((6 : Int) < lv) := by omega
    have g6 : ((lv : Int) == 6) = un := by rw [← g3, Bool.eq_iff_iff]; simp; omega
    refine WC.seq (WC.region ?_)
    refine WO.preN 6 (own := []) noC_ok (by simp [f8.r7, runO, asData, guardB, eff, evo, get_cons, put_cons, put_nil, stput_some, stput_none, happ, binD, binS, binI, eqV, unV, lenV, bytesEq_refl, g4, g5, g6]; rfl) ?_
    simp only [f8.r7, List.drop_succ_cons, List.drop_zero]
    refine WO.preN 6 (own := []) noC_ok (by simp [runO, asData, guardB, eff, evo, get_cons, put_cons, put_nil, stput_some, stput_none, happ, binD, binS, binI, eqV, unV, lenV, bytesEq_refl, g4, g5, g6]; rfl) ?_
    simp only [List.drop_succ_cons, List.drop_zero]
    refine WO.preN 6 (own := []) noC_ok (by simp [runO, asData, guardB, eff, evo, get_cons, put_cons, put_nil, stput_some, stput_none, happ, binD, binS, binI, eqV, unV, lenV, bytesEq_refl, g4, g5, g6]; rfl) ?_
    simp only [List.drop_succ_cons, List.drop_zero]
    refine WO.preN 6 (own := []) noC_ok (by simp [runO, asData, guardB, eff, evo, get_cons, put_cons, put_nil, stput_some, stput_none, happ, binD, binS, binI, eqV, unV, lenV, bytesEq_refl, g4, g5, g6]; rfl) ?_
    simp only [List.drop_succ_cons, List.drop_zero]
    refine runO_ok (own := []) noC_ok (by simp [runO, asData, guardB, eff, evo, get_cons, put_cons, put_nil, stput_some, stput_none, happ, binD, binS, binI, eqV, unV, lenV, bytesEq_refl, g4, g5, g6]; rfl) ?_
    refine WC.cond (t := false) (by simp [evo, get_cons]) (WC.skip ?_)
    exact WC.keep [2] hrest
end Fw.Tz
