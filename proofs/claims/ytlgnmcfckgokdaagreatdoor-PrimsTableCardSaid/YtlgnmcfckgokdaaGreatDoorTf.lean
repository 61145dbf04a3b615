/-
  What Index, Contains, has and Sig answer of a name that no primitive has.
-/
import Derived.Test.YtlgnmcfckgokdaaGreatDoorSe
import Derived.Test.YtlgnmcfckgokdaaGreatDoorTc

set_option linter.unusedSimpArgs false
set_option maxRecDepth 1000000
set_option maxHeartbeats 1000000
namespace Fw.Tz
open Go Go.Proofs Fw.X
variable {W : World}
def nN (s : List UInt8) : Bool := nmT.all fun c => !Fw.bytesEq s c
theorem bytesEq_sym : ∀ (x y : List UInt8), Fw.bytesEq x y = Fw.bytesEq y x
  | [], [] => rfl
  | [], _ :: _ => rfl
  | _ :: _, [] => rfl
  | a :: x, b :: y => by
    simp only [Fw.bytesEq]
    rw [bytesEq_sym x y]
    have : Nat.beq a.toNat b.toNat = Nat.beq b.toNat a.toNat := by
      rw [Bool.eq_iff_iff]
      constructor <;> intro h <;> (rw [Nat.eq_of_beq_eq_true h]; exact Nat.beq_refl _)
    rw [this]
theorem nN_mem {s c : List UInt8} (h : nN s = true) (hc : c ∈ nmT) : Fw.bytesEq s c = false := by
  have := List.all_eq_true.1 h c hc
  simpa using this
theorem nN_mem' {s c : List UInt8} (h : nN s = true) (hc : c ∈ nmT) : Fw.bytesEq c s = false := by rw [bytesEq_sym]; exact nN_mem h hc
def I153 (l : List (List UInt8)) (s : List UInt8) (i : Nat) : St := ⟨19, [(0, .d (strsD l)), (1, .d (.str s)), (7, .d (.int .i64 (l.length : Int))), (8, .d (.int .i64 (i : Int)))], []⟩
theorem n153 (l : List (List UInt8)) (s : List UInt8) (hl : ∀ c ∈ l, Fw.bytesEq s c = false) (hlen : l.length < 4611686018427387904) : PC P (gl W) 153 [.d (strsD l), .d (.str s)] (.d (.int .i64 (-1))) := by
  refine PC.body is153 ca153 (by simp [f153]) rfl ?_
  show WC P (gl W) (.seq (.region f153.r0) (.seq (.seq (.region f153.r1) (.block 0 (.loop f153.l7))) (.seq (.region f153.r8) .ret))) ⟨19, [(0, .d (strsD l)), (1, .d (.str s))], []⟩ _
  refine WC.seq (WC.reg (own := []) (by simp [f153.r0, runO, asData, guardB, eff, evo, get_cons, put_cons, put_nil, stput_some, happ]; rfl) ?_)
  refine WC.seq (WC.seq (WC.reg (own := []) (by simp [f153.r1, strsD, runO, asData, guardB, eff, evo, get_cons, put_cons, put_nil, stput_some, happ, lenV]; rfl) ?_))
  refine WC.block (WC.loopK (α := {i : Nat // i ≤ l.length}) [0, 1, 7, 8] (fun i => I153 l s i.1) (fun i => l.length - i.1) ?_ ⟨0, by omega⟩ (by rfl))
  rintro ⟨i, hi⟩
  show WC P (gl W) (.seq (.region f153.r2) (.seq (.cond (.t 9) .skip (.exit 0)) (.seq (.block 1 (.seq (.region f153.r3) (.seq (.region f153.r4) (.cond (.t 16) (.seq (.region f153.r5) .ret) .skip)))) (.region f153.r6)))) (I153 l s i) _
  unfold I153
  refine WC.seq (WC.reg (own := []) (by simp [f153.r2, runO, asData, guardB, eff, evo, get_cons, put_cons, put_nil, stput_some, happ, binD, binI]; rfl) ?_)
  by_cases hlt : i < l.length
  · refine WC.seq (WC.cond (t := true) (by simp [evo, get_cons]; omega) (WC.skip ?_))
    have hne : Fw.bytesEq s l[i] = false := hl _ (List.getElem_mem hlt)
    have hw : IntKind.i64.wrap ((i : Int) + 1) = ((i + 1 : Nat) : Int) := by rw [IntKind.wrap_i64]; omega
    refine WC.seq (WC.block (WC.seq (WC.reg (own := []) (by simp [f153.r3, runO, asData, guardB, eff, evo, get_cons, put_cons, put_nil, stput_some, happ]; rfl) ?_)))
    refine WC.seq (WC.reg (own := []) (by simp [f153.r4, strsD, runO, asData, guardB, eff, evo, get_cons, put_cons, put_nil, stput_some, happ, natOf, nbeq, hlt, loadC, mkV, binD, binS, hne]; rfl) ?_)
    refine WC.cond (t := false) (by simp [evo, get_cons, hne]) (WC.skip ?_)
    refine WC.reg (own := []) (by simp [f153.r6, runO, asData, guardB, eff, evo, get_cons, put_cons, put_nil, stput_some, happ, binD, binI, hw]; rfl) ?_
    exact ⟨⟨i + 1, by omega⟩, by simp; omega, rfl⟩
  · refine WC.seq (WC.cond (t := false) (by simp [evo, get_cons]; omega) (WC.exit ?_))
    refine (if_pos rfl).mpr ?_
    refine WC.seq (WC.reg (own := []) (by simp [f153.r8, runO, asData, guardB, eff, evo, get_cons, put_cons, put_nil, stput_some, happ]; rfl) (WC.ret ?_))
    simp [resV, f153, mapO, resOne, get_cons, deepV, deepA]
    rfl
theorem n95 (l : List (List UInt8)) (s : List UInt8) (hl : ∀ c ∈ l, Fw.bytesEq s c = false) (hlen : l.length < 4611686018427387904) : PC P (gl W) 95 [.d (strsD l), .d (.str s)] (.d (.bool false)) := by
  refine PC.body is95 ca95 (by simp [f95]) rfl ?_
  show WC P (gl W) (.seq (.region f95.r0) (.seq (.region f95.r1) .ret)) ⟨9, [(0, .d (strsD l)), (1, .d (.str s))], []⟩ _
  refine WC.seq (WC.reg (own := []) (by simp [f95.r0, runO, asData, guardB, eff, evo, get_cons, put_cons, put_nil, stput_some, happ]; rfl) ?_)
  refine WC.seq (WC.regN 2 (own := []) (by simp [f95.r1, runO, asData, guardB, eff, evo, get_cons, put_cons, put_nil, stput_some, happ]; rfl) ?_)
  refine WO.callPC rfl rfl (n153 l s hl hlen) (by simp [get_cons, put_cons, put_nil, stput_some]; rfl) ?_
  refine runO_ok (own := []) noC_ok (by simp [runO, asData, guardB, eff, evo, get_cons, put_cons, put_nil, stput_some, happ, binD, binI]; rfl) (WC.ret ?_)
  simp [resV, f95, mapO, resOne, get_cons, deepV, deepA]
  rfl
def rowD (r : List UInt8 × List UInt8) : List D := [.str r.1, .str r.2]
def I62 (rows : List (List UInt8 × List UInt8)) (s : List UInt8) (i : Nat) : St := ⟨22, [(1, .d (.str s)), (8, .d (.list (rows.map rowD))), (9, .d (.int .i64 (rows.length : Int))), (10, .d (.int .i64 (i : Int)))], []⟩
theorem n62 (rows : List (List UInt8 × List UInt8)) (s : List UInt8) (hr : ∀ r ∈ rows, ∃ fl, PC P (gl W) 58 [.d (.str r.1)] (.d (strsD fl)) ∧ (∀ c ∈ fl, Fw.bytesEq s c = false) ∧ fl.length < 4611686018427387904) (hlen : rows.length < 4611686018427387904) :
    PC P (gl W) 62 [.d (.list (rows.map rowD)), .d (.str s)] (.tuple [.d (.str []), .d (.bool false)]) := by
  refine PC.body is62 ca62 (by simp [f62]) rfl ?_
  show WC P (gl W) (.seq (.region f62.r0) (.seq (.seq (.region f62.r1) (.block 0 (.loop f62.l7))) (.seq (.region f62.r8) .ret))) ⟨22, [(0, .d (.list (rows.map rowD))), (1, .d (.str s))], []⟩ _
  refine WC.seq (WC.reg (own := []) (by simp [f62.r0, runO, asData, guardB, eff, evo, get_cons, put_cons, put_nil, stput_some, happ]; rfl) ?_)
  refine WC.seq (WC.seq (WC.reg (own := []) (by simp [f62.r1, runO, asData, guardB, eff, evo, get_cons, put_cons, put_nil, stput_some, happ, lenV]; rfl) ?_))
  refine WC.block (WC.loopK (α := {i : Nat // i ≤ rows.length}) [1, 8, 9, 10] (fun i => I62 rows s i.1) (fun i => rows.length - i.1) ?_ ⟨0, by omega⟩ (by rfl))
  rintro ⟨i, hi⟩
  show WC P (gl W) (.seq (.region f62.r2) (.seq (.cond (.t 11) .skip (.exit 0)) (.seq (.block 1 (.seq (.region f62.r3) (.seq (.region f62.r4) (.cond (.t 18) (.seq (.region f62.r5) .ret) .skip)))) (.region f62.r6)))) (I62 rows s i) _
  unfold I62
  refine WC.seq (WC.reg (own := []) (by simp [f62.r2, runO, asData, guardB, eff, evo, get_cons, put_cons, put_nil, stput_some, happ, binD, binI]; rfl) ?_)
  by_cases hlt : i < rows.length
  · refine WC.seq (WC.cond (t := true) (by simp [evo, get_cons]; omega) (WC.skip ?_))
    obtain ⟨fl, h58, hfl, hfn⟩ := hr _ (List.getElem_mem hlt)
    have hw : IntKind.i64.wrap ((i : Int) + 1) = ((i + 1 : Nat) : Int) := by rw [IntKind.wrap_i64]; omega
    refine WC.seq (WC.block (WC.seq (WC.reg (own := []) (by simp [f62.r3, rowD, runO, asData, guardB, eff, evo, get_cons, put_cons, put_nil, stput_some, stput_none, happ, natOf, nbeq, nble, hlt, loadC, mkV, hput, hget, storeC, putCells, cellsV, okC]; rfl) ?_)))
    refine WC.seq (WC.regN 2 (own := []) (by simp [f62.r4, runO, asData, guardB, eff, evo, get_cons, put_cons, put_nil, stput_some, happ, loadC, hget, mkV, nbeq, nble]; rfl) ?_)
    refine WO.callPC rfl rfl h58 (by simp [get_cons, put_cons, put_nil, stput_some]; rfl) ?_
    refine WO.preN 1 (own := []) noC_ok (by simp [runO, asData, guardB, eff, evo, get_cons, put_cons, put_nil, stput_some, happ]; rfl) ?_
    refine WO.callPC rfl rfl (n95 fl s hfl hfn) (by simp [get_cons, put_cons, put_nil, stput_some]; rfl) ?_
    refine WO.nil ?_
    refine WC.cond (t := false) (by simp [evo, get_cons]) (WC.skip ?_)
    refine WC.reg (own := []) (by simp [f62.r6, runO, asData, guardB, eff, evo, get_cons, put_cons, put_nil, stput_some, happ, binD, binI, hw]; rfl) ?_
    exact ⟨⟨i + 1, by omega⟩, by simp; omega, rfl⟩
  · refine WC.seq (WC.cond (t := false) (by simp [evo, get_cons]; omega) (WC.exit ?_))
    refine (if_pos rfl).mpr ?_
    refine WC.seq (WC.reg (own := []) (by simp [f62.r8, runO, asData, guardB, eff, evo, get_cons, put_cons, put_nil, stput_some, happ]; rfl) (WC.ret ?_))
    simp [resV, f62, mapO, resOne, get_cons, deepV, deepA]
    rfl
end Fw.Tz

/-
  What scalar and structural answer of a name that no primitive has.
-/
set_option linter.unusedSimpArgs false
set_option maxRecDepth 1000000
set_option maxHeartbeats 1000000
namespace Fw.Tz
open Go Go.Proofs Fw.X
variable {W : World}
attribute [local simp] runO asData guardB eff evo get_cons put_cons put_nil stput_some stput_none happ binD binS binI eqV unV fillC putCells cellsV okC storeC hget hput nbeq nble loadC mkV
theorem nN_eqs {s : List UInt8} (h : nN s = true) : (Fw.bytesEq s [97, 98, 115] = false ∧ Fw.bytesEq [97, 98, 115] s = false) ∧ (Fw.bytesEq s [97, 100, 100] = false ∧ Fw.bytesEq [97, 100, 100] s = false) ∧ (Fw.bytesEq s [97, 110, 100] = false ∧ Fw.bytesEq [97, 110, 100] s = false) ∧ (Fw.bytesEq s [97, 112, 112, 101, 110, 100] = false ∧ Fw.bytesEq [97, 112, 112, 101, 110, 100] s = false) ∧ (Fw.bytesEq s [99, 104, 117, 110, 107] = false ∧ Fw.bytesEq [99, 104, 117, 110, 107] s = false) ∧ (Fw.bytesEq s [100, 105, 97, 103, 111, 110, 97, 108] = false ∧ Fw.bytesEq [100, 105, 97, 103, 111, 110, 97, 108] s = false) ∧ (Fw.bytesEq s [100, 105, 118] = false ∧ Fw.bytesEq [100, 105, 118] s = false) ∧ (Fw.bytesEq s [100, 114, 111, 112] = false ∧ Fw.bytesEq [100, 114, 111, 112] s = false) ∧ (Fw.bytesEq s [101, 113] = false ∧ Fw.bytesEq [101, 113] s = false) ∧ (Fw.bytesEq s [102, 105, 108, 108] = false ∧ Fw.bytesEq [102, 105, 108, 108] s = false) ∧ (Fw.bytesEq s [103, 101] = false ∧ Fw.bytesEq [103, 101] s = false) ∧ (Fw.bytesEq s [103, 116] = false ∧ Fw.bytesEq [103, 116] s = false) ∧ (Fw.bytesEq s [105, 110, 100, 101, 120] = false ∧ Fw.bytesEq [105, 110, 100, 101, 120] s = false) ∧ (Fw.bytesEq s [105, 111, 116, 97] = false ∧ Fw.bytesEq [105, 111, 116, 97] s = false) ∧ (Fw.bytesEq s [108, 101] = false ∧ Fw.bytesEq [108, 101] s = false) ∧ (Fw.bytesEq s [108, 116] = false ∧ Fw.bytesEq [108, 116] s = false) ∧ (Fw.bytesEq s [109, 97, 120] = false ∧ Fw.bytesEq [109, 97, 120] s = false) ∧ (Fw.bytesEq s [109, 105, 110] = false ∧ Fw.bytesEq [109, 105, 110] s = false) ∧ (Fw.bytesEq s [109, 111, 100] = false ∧ Fw.bytesEq [109, 111, 100] s = false) ∧ (Fw.bytesEq s [109, 117, 108] = false ∧ Fw.bytesEq [109, 117, 108] s = false) ∧ (Fw.bytesEq s [110, 101] = false ∧ Fw.bytesEq [110, 101] s = false) ∧ (Fw.bytesEq s [110, 101, 103] = false ∧ Fw.bytesEq [110, 101, 103] s = false) ∧ (Fw.bytesEq s [110, 111, 116] = false ∧ Fw.bytesEq [110, 111, 116] s = false) ∧ (Fw.bytesEq s [111, 114] = false ∧ Fw.bytesEq [111, 114] s = false) ∧ (Fw.bytesEq s [114, 101, 118, 101, 114, 115, 101] = false ∧ Fw.bytesEq [114, 101, 118, 101, 114, 115, 101] s = false) ∧ (Fw.bytesEq s [115, 101, 108, 101, 99, 116] = false ∧ Fw.bytesEq [115, 101, 108, 101, 99, 116] s = false) ∧ (Fw.bytesEq s [115, 105, 103, 110] = false ∧ Fw.bytesEq [115, 105, 103, 110] s = false) ∧ (Fw.bytesEq s [115, 117, 98] = false ∧ Fw.bytesEq [115, 117, 98] s = false) ∧ (Fw.bytesEq s [116, 97, 107, 101] = false ∧ Fw.bytesEq [116, 97, 107, 101] s = false) ∧ (Fw.bytesEq s [116, 111, 105, 110, 116] = false ∧ Fw.bytesEq [116, 111, 105, 110, 116] s = false) ∧ (Fw.bytesEq s [116, 114, 97, 110, 115, 112, 111, 115, 101] = false ∧ Fw.bytesEq [116, 114, 97, 110, 115, 112, 111, 115, 101] s = false) ∧ (Fw.bytesEq s [117, 112, 100, 97, 116, 101] = false ∧ Fw.bytesEq [117, 112, 100, 97, 116, 101] s = false) ∧ (Fw.bytesEq s [119, 105, 110, 100, 111, 119, 115] = false ∧ Fw.bytesEq [119, 105, 110, 100, 111, 119, 115] s = false) ∧ (Fw.bytesEq s [120, 111, 114] = false ∧ Fw.bytesEq [120, 111, 114] s = false) :=
  ⟨⟨nN_mem h (by simp [nmT]), nN_mem' h (by simp [nmT])⟩, ⟨nN_mem h (by simp [nmT]), nN_mem' h (by simp [nmT])⟩, ⟨nN_mem h (by simp [nmT]), nN_mem' h (by simp [nmT])⟩, ⟨nN_mem h (by simp [nmT]), nN_mem' h (by simp [nmT])⟩, ⟨nN_mem h (by simp [nmT]), nN_mem' h (by simp [nmT])⟩, ⟨nN_mem h (by simp [nmT]), nN_mem' h (by simp [nmT])⟩, ⟨nN_mem h (by simp [nmT]), nN_mem' h (by simp [nmT])⟩, ⟨nN_mem h (by simp [nmT]), nN_mem' h (by simp [nmT])⟩, ⟨nN_mem h (by simp [nmT]), nN_mem' h (by simp [nmT])⟩, ⟨nN_mem h (by simp [nmT]), nN_mem' h (by simp [nmT])⟩, ⟨nN_mem h (by simp [nmT]), nN_mem' h (by simp [nmT])⟩, ⟨nN_mem h (by simp [nmT]), nN_mem' h (by simp [nmT])⟩, ⟨nN_mem h (by simp [nmT]), nN_mem' h (by simp [nmT])⟩, ⟨nN_mem h (by simp [nmT]), nN_mem' h (by simp [nmT])⟩, ⟨nN_mem h (by simp [nmT]), nN_mem' h (by simp [nmT])⟩, ⟨nN_mem h (by simp [nmT]), nN_mem' h (by simp [nmT])⟩, ⟨nN_mem h (by simp [nmT]), nN_mem' h (by simp [nmT])⟩, ⟨nN_mem h (by simp [nmT]), nN_mem' h (by simp [nmT])⟩, ⟨nN_mem h (by simp [nmT]), nN_mem' h (by simp [nmT])⟩, ⟨nN_mem h (by simp [nmT]), nN_mem' h (by simp [nmT])⟩, ⟨nN_mem h (by simp [nmT]), nN_mem' h (by simp [nmT])⟩, ⟨nN_mem h (by simp [nmT]), nN_mem' h (by simp [nmT])⟩, ⟨nN_mem h (by simp [nmT]), nN_mem' h (by simp [nmT])⟩, ⟨nN_mem h (by simp [nmT]), nN_mem' h (by simp [nmT])⟩, ⟨nN_mem h (by simp [nmT]), nN_mem' h (by simp [nmT])⟩, ⟨nN_mem h (by simp [nmT]), nN_mem' h (by simp [nmT])⟩, ⟨nN_mem h (by simp [nmT]), nN_mem' h (by simp [nmT])⟩, ⟨nN_mem h (by simp [nmT]), nN_mem' h (by simp [nmT])⟩, ⟨nN_mem h (by simp [nmT]), nN_mem' h (by simp [nmT])⟩, ⟨nN_mem h (by simp [nmT]), nN_mem' h (by simp [nmT])⟩, ⟨nN_mem h (by simp [nmT]), nN_mem' h (by simp [nmT])⟩, ⟨nN_mem h (by simp [nmT]), nN_mem' h (by simp [nmT])⟩, ⟨nN_mem h (by simp [nmT]), nN_mem' h (by simp [nmT])⟩, ⟨nN_mem h (by simp [nmT]), nN_mem' h (by simp [nmT])⟩⟩
def H71_0 : Heap := [some (.cells [.nils, (.d (.str [])), (.d (.str [])), .nils, .nils])]
def H72_1 : Heap := [some (.cells [.nils, (.d (.str [])), (.d (.str [])), .nils, .nils]), some (.cells [(.d (.int .i64 0)), (.d (.list [[(.str [107]), (.int .i64 1)]]))]), some (.cells [(.d (.int .i64 0)), (.d (.list [[(.str [110]), (.int .i64 1)]]))]), some (.cells [(.d (.int .i64 0)), (.d (.list [[(.str [109]), (.int .i64 1)]]))])]
def H72_2 : Heap := [some (.cells [.nils, (.d (.str [])), (.d (.str [])), .nils, .nils]), some (.cells [(.d (.int .i64 0)), (.d (.list [[(.str [107]), (.int .i64 1)]]))]), some (.cells [(.d (.int .i64 0)), (.d (.list [[(.str [110]), (.int .i64 1)]]))]), some (.cells [(.d (.int .i64 0)), (.d (.list [[(.str [109]), (.int .i64 1)]]))]), none, none, none, none, none, some (.cells [(.d (.str [65])), (.d (.str [])), (.d (.list []))]), some (.cells [(.d (.str [105, 110, 116])), (.d (.str [])), (.d (.list []))]), some (.cells [(.d (.str [65])), (.d (.str [])), (.d (.list [[(.int .i64 0), (.list [[(.str [110]), (.int .i64 1)]])]]))]), none, none, none]
def H72_3 : Heap := [some (.cells [.nils, (.d (.str [])), (.d (.str [])), .nils, .nils]), some (.cells [(.d (.int .i64 0)), (.d (.list [[(.str [107]), (.int .i64 1)]]))]), some (.cells [(.d (.int .i64 0)), (.d (.list [[(.str [110]), (.int .i64 1)]]))]), some (.cells [(.d (.int .i64 0)), (.d (.list [[(.str [109]), (.int .i64 1)]]))]), none, none, none, none, none, some (.cells [(.d (.str [65])), (.d (.str [])), (.d (.list []))]), some (.cells [(.d (.str [105, 110, 116])), (.d (.str [])), (.d (.list []))]), some (.cells [(.d (.str [65])), (.d (.str [])), (.d (.list [[(.int .i64 0), (.list [[(.str [110]), (.int .i64 1)]])]]))]), none, none, none, some (.cells [(.d (.int .i64 0)), (.d (.list [[(.str [109]), (.int .i64 1)], [(.str [110]), (.int .i64 1)]]))])]
def H71 : Heap := [some (.cells [.nils, (.d (.str [])), (.d (.str [])), .nils, .nils]), some (.cells [(.d (.str [105, 110, 116])), (.d (.str [])), (.d (.list []))]), some (.cells [(.d (.str [98, 111, 111, 108])), (.d (.str [])), (.d (.list []))]), some (.cells [(.d (.str [65])), (.d (.str [])), (.d (.list []))])]
def H72 : Heap := [some (.cells [.nils, (.d (.str [])), (.d (.str [])), .nils, .nils]), some (.cells [(.d (.int .i64 0)), (.d (.list [[(.str [107]), (.int .i64 1)]]))]), some (.cells [(.d (.int .i64 0)), (.d (.list [[(.str [110]), (.int .i64 1)]]))]), some (.cells [(.d (.int .i64 0)), (.d (.list [[(.str [109]), (.int .i64 1)]]))]), none, none, none, none, none, some (.cells [(.d (.str [65])), (.d (.str [])), (.d (.list []))]), some (.cells [(.d (.str [105, 110, 116])), (.d (.str [])), (.d (.list []))]), some (.cells [(.d (.str [65])), (.d (.str [])), (.d (.list [[(.int .i64 0), (.list [[(.str [110]), (.int .i64 1)]])]]))]), none, none, none, some (.cells [(.d (.int .i64 0)), (.d (.list [[(.str [109]), (.int .i64 1)], [(.str [110]), (.int .i64 1)]]))]), none, none, none, none]
def zSch : V := .tuple [.agg [.d (.list []), .d (.str []), .d (.str []), .d (.list []), .d (.list [])], .d (.bool false)]
theorem n71 (hW : W0 W) {s : List UInt8} (h : nN s = true) : PC P (gl W) 71 [.d (.str s)] zSch := by
  obtain ⟨⟨h0, g0⟩, ⟨h1, g1⟩, ⟨h2, g2⟩, ⟨h3, g3⟩, ⟨h4, g4⟩, ⟨h5, g5⟩, ⟨h6, g6⟩, ⟨h7, g7⟩, ⟨h8, g8⟩, ⟨h9, g9⟩, ⟨h10, g10⟩, ⟨h11, g11⟩, ⟨h12, g12⟩, ⟨h13, g13⟩, ⟨h14, g14⟩, ⟨h15, g15⟩, ⟨h16, g16⟩, ⟨h17, g17⟩, ⟨h18, g18⟩, ⟨h19, g19⟩, ⟨h20, g20⟩, ⟨h21, g21⟩, ⟨h22, g22⟩, ⟨h23, g23⟩, ⟨h24, g24⟩, ⟨h25, g25⟩, ⟨h26, g26⟩, ⟨h27, g27⟩, ⟨h28, g28⟩, ⟨h29, g29⟩, ⟨h30, g30⟩, ⟨h31, g31⟩, ⟨h32, g32⟩, ⟨h33, g33⟩⟩ := nN_eqs h
  refine PC.body is71 ca71 (by simp [f71]) rfl ?_
  show WC P (gl W) (.seq (.region f71.r0) (.seq (.region f71.r1) (.seq (.seq (.region f71.r2) (.block 0 (.seq (.seq (.region f71.r3) (.cond (.t 11) .skip (.seq (.region f71.r4) (.cond (.t 11) .skip (.seq (.region f71.r5) (.cond (.t 11) .skip (.seq (.region f71.r6) (.cond (.t 11) .skip (.seq (.region f71.r7) (.cond (.t 11) .skip (.seq (.region f71.r8) (.cond (.t 11) .skip (.region f71.r9))))))))))))) (.cond (.t 11) (.seq (.region f71.r10) .ret) (.seq (.seq (.region f71.r11) (.cond (.t 24) .skip (.seq (.region f71.r12) (.cond (.t 24) .skip (.region f71.r13))))) (.cond (.t 24) (.seq (.region f71.r14) .ret) (.seq (.seq (.region f71.r15) (.cond (.t 32) .skip (.seq (.region f71.r16) (.cond (.t 32) .skip (.seq (.region f71.r17) (.cond (.t 32) .skip (.region f71.r18))))))) (.cond (.t 32) (.seq (.region f71.r19) .ret) (.seq (.seq (.region f71.r20) (.cond (.t 42) .skip (.region f71.r21))) (.cond (.t 42) (.seq (.region f71.r22) .ret) (.seq (.seq (.region f71.r23) (.cond (.t 50) .skip (.seq (.region f71.r24) (.cond (.t 50) .skip (.region f71.r25))))) (.cond (.t 50) (.seq (.region f71.r26) .ret) (.seq (.region f71.r27) (.cond (.t 59) (.seq (.region f71.r28) .ret) (.seq (.region f71.r29) (.cond (.t 65) (.seq (.region f71.r30) .ret) (.seq (.region f71.r31) (.cond (.t 73) (.seq (.region f71.r32) .ret) .skip)))))))))))))))))) (.seq (.region f71.r33) .ret)))) ⟨80, [(0, .d (.str s))], []⟩ _
  refine WC.seq (WC.runKX hW ex0 (kt := kt0) (own := []) [0, 2] (vals := [.d (.str s), .ptr 0 5 0]) (H' := H71_0) (by decide) (by kernel_rfl) (by kernel_rfl) ?_)
  refine WC.seq (WC.runKX hW ex0 (kt := kt0) (own := []) [0, 2] (vals := [.d (.str s), .ptr 0 5 0]) (H' := H71) (by decide) (by kernel_rfl) (by kernel_rfl) ?_)
  change WC P (gl W) _ ⟨80, [(0, .d (.str s)), (2, .ptr 0 5 0)], H71⟩ _
  refine WC.seq ?_
  refine WC.seq ?_
  refine WC.reg (own := []) (by simp [f71.r2, runO]; rfl) ?_
  refine WC.block ?_
  refine WC.seq ?_
  refine WC.seq ?_
  refine WC.reg (own := []) (by simp [f71.r3, runO, h1]; rfl) ?_
  refine WC.cond (t := false) (by simp [evo, get_cons]) ?_
  refine WC.seq ?_
  refine WC.reg (own := []) (by simp [f71.r4, runO, h27]; rfl) ?_
  refine WC.cond (t := false) (by simp [evo, get_cons]) ?_
  refine WC.seq ?_
  refine WC.reg (own := []) (by simp [f71.r5, runO, h19]; rfl) ?_
  refine WC.cond (t := false) (by simp [evo, get_cons]) ?_
  refine WC.seq ?_
  refine WC.reg (own := []) (by simp [f71.r6, runO, h6]; rfl) ?_
  refine WC.cond (t := false) (by simp [evo, get_cons]) ?_
  refine WC.seq ?_
  refine WC.reg (own := []) (by simp [f71.r7, runO, h18]; rfl) ?_
  refine WC.cond (t := false) (by simp [evo, get_cons]) ?_
  refine WC.seq ?_
  refine WC.reg (own := []) (by simp [f71.r8, runO, h17]; rfl) ?_
  refine WC.cond (t := false) (by simp [evo, get_cons]) ?_
  refine WC.reg (own := []) (by simp [f71.r9, runO, h16]; rfl) ?_
  refine WC.cond (t := false) (by simp [evo, get_cons]) ?_
  refine WC.seq ?_
  refine WC.seq ?_
  refine WC.reg (own := []) (by simp [f71.r11, runO, h21]; rfl) ?_
  refine WC.cond (t := false) (by simp [evo, get_cons]) ?_
  refine WC.seq ?_
  refine WC.reg (own := []) (by simp [f71.r12, runO, h0]; rfl) ?_
  refine WC.cond (t := false) (by simp [evo, get_cons]) ?_
  refine WC.reg (own := []) (by simp [f71.r13, runO, h26]; rfl) ?_
  refine WC.cond (t := false) (by simp [evo, get_cons]) ?_
  refine WC.seq ?_
  refine WC.seq ?_
  refine WC.reg (own := []) (by simp [f71.r15, runO, h15]; rfl) ?_
  refine WC.cond (t := false) (by simp [evo, get_cons]) ?_
  refine WC.seq ?_
  refine WC.reg (own := []) (by simp [f71.r16, runO, h14]; rfl) ?_
  refine WC.cond (t := false) (by simp [evo, get_cons]) ?_
  refine WC.seq ?_
  refine WC.reg (own := []) (by simp [f71.r17, runO, h11]; rfl) ?_
  refine WC.cond (t := false) (by simp [evo, get_cons]) ?_
  refine WC.reg (own := []) (by simp [f71.r18, runO, h10]; rfl) ?_
  refine WC.cond (t := false) (by simp [evo, get_cons]) ?_
  refine WC.seq ?_
  refine WC.seq ?_
  refine WC.reg (own := []) (by simp [f71.r20, runO, h8]; rfl) ?_
  refine WC.cond (t := false) (by simp [evo, get_cons]) ?_
  refine WC.reg (own := []) (by simp [f71.r21, runO, h20]; rfl) ?_
  refine WC.cond (t := false) (by simp [evo, get_cons]) ?_
  refine WC.seq ?_
  refine WC.seq ?_
  refine WC.reg (own := []) (by simp [f71.r23, runO, h2]; rfl) ?_
  refine WC.cond (t := false) (by simp [evo, get_cons]) ?_
  refine WC.seq ?_
  refine WC.reg (own := []) (by simp [f71.r24, runO, h23]; rfl) ?_
  refine WC.cond (t := false) (by simp [evo, get_cons]) ?_
  refine WC.reg (own := []) (by simp [f71.r25, runO, h33]; rfl) ?_
  refine WC.cond (t := false) (by simp [evo, get_cons]) ?_
  refine WC.seq ?_
  refine WC.reg (own := []) (by simp [f71.r27, runO, h22]; rfl) ?_
  refine WC.cond (t := false) (by simp [evo, get_cons]) ?_
  refine WC.seq ?_
  refine WC.reg (own := []) (by simp [f71.r29, runO, h25]; rfl) ?_
  refine WC.cond (t := false) (by simp [evo, get_cons]) ?_
  refine WC.seq ?_
  refine WC.reg (own := []) (by simp [f71.r31, runO, h29]; rfl) ?_
  refine WC.cond (t := false) (by simp [evo, get_cons]) ?_
  refine WC.skip ?_
  refine WC.seq ?_
  refine WC.reg (own := []) (by simp [f71.r33, H71, runO, fillC, putCells, cellsV, okC, storeC, hget, hput, nbeq, nble]; rfl) ?_
  refine WC.ret ?_
  simp [resV, f71, mapO, resOne, get_cons, deepV, deepA, deepC, loadC, hget, mkV, nbeq, nble, deepFuel]
  rfl
theorem n72 (hW : W0 W) {s : List UInt8} (n : Int) (h : nN s = true) : PC P (gl W) 72 [.d (.str s), .d (.int .i64 n)] zSch := by
  obtain ⟨⟨h0, g0⟩, ⟨h1, g1⟩, ⟨h2, g2⟩, ⟨h3, g3⟩, ⟨h4, g4⟩, ⟨h5, g5⟩, ⟨h6, g6⟩, ⟨h7, g7⟩, ⟨h8, g8⟩, ⟨h9, g9⟩, ⟨h10, g10⟩, ⟨h11, g11⟩, ⟨h12, g12⟩, ⟨h13, g13⟩, ⟨h14, g14⟩, ⟨h15, g15⟩, ⟨h16, g16⟩, ⟨h17, g17⟩, ⟨h18, g18⟩, ⟨h19, g19⟩, ⟨h20, g20⟩, ⟨h21, g21⟩, ⟨h22, g22⟩, ⟨h23, g23⟩, ⟨h24, g24⟩, ⟨h25, g25⟩, ⟨h26, g26⟩, ⟨h27, g27⟩, ⟨h28, g28⟩, ⟨h29, g29⟩, ⟨h30, g30⟩, ⟨h31, g31⟩, ⟨h32, g32⟩, ⟨h33, g33⟩⟩ := nN_eqs h
  refine PC.body is72 ca72 (by simp [f72]) rfl ?_
  show WC P (gl W) (.seq (.region f72.r0) (.seq (.region f72.r1) (.seq (.draw f72.r2) (.seq (.region f72.r3) (.seq (.draw f72.r4) (.seq (.seq (.region f72.r5) (.block 0 (.seq (.region f72.r6) (.cond (.t 30) (.seq (.draw f72.r7) .ret) (.seq (.region f72.r8) (.cond (.t 38) (.seq (.draw f72.r9) .ret) (.seq (.region f72.r10) (.cond (.t 48) (.seq (.draw f72.r11) .ret) (.seq (.region f72.r12) (.cond (.t 57) (.seq (.draw f72.r13) .ret) (.seq (.region f72.r14) (.cond (.t 66) (.seq (.region f72.r15) .ret) (.seq (.region f72.r16) (.cond (.t 72) (.seq (.draw f72.r17) .ret) (.seq (.region f72.r18) (.cond (.t 83) (.seq (.draw f72.r19) .ret) (.seq (.region f72.r20) (.cond (.t 95) (.seq (.draw f72.r21) .ret) (.seq (.region f72.r22) (.cond (.t 104) (.seq (.draw f72.r23) .ret) (.seq (.region f72.r24) (.cond (.t 114) (.seq (.region f72.r25) .ret) (.seq (.region f72.r26) (.cond (.t 127) (.seq (.region f72.r27) .ret) (.seq (.region f72.r28) (.cond (.t 134) (.seq (.region f72.r29) .ret) .skip)))))))))))))))))))))))))) (.seq (.region f72.r30) .ret))))))) ⟨143, [(0, .d (.str s)), (1, .d (.int .i64 n))], []⟩ _
  refine WC.seq (WC.runKX hW ex0 (kt := kt0) (own := []) [0, 4] (vals := [.d (.str s), .ptr 0 5 0]) (H' := H71_0) (by decide) (by kernel_rfl) (by kernel_rfl) ?_)
  refine WC.seq (WC.runKX hW ex0 (kt := kt0) (own := []) [0, 4, 6, 7, 8] (vals := [.d (.str s), .ptr 0 5 0, .ptr 1 2 0, .ptr 2 2 0, .ptr 3 2 0]) (H' := H72_1) (by decide) (by kernel_rfl) (by kernel_rfl) ?_)
  refine WC.seq (WC.runKX hW ex0 (kt := kt0) (own := []) [0, 4, 6, 7, 8, 9, 10, 11] (vals := [.d (.str s), .ptr 0 5 0, .ptr 1 2 0, .ptr 2 2 0, .ptr 3 2 0, .ptr 9 3 0, .ptr 10 3 0, .ptr 11 3 0]) (H' := H72_2) (by decide) (by kernel_rfl) (by kernel_rfl) ?_)
  refine WC.seq (WC.runKX hW ex0 (kt := kt0) (own := []) [0, 4, 6] (vals := [.d (.str s), .ptr 0 5 0, .ptr 1 2 0]) (H' := H72_3) (by decide) (by kernel_rfl) (by kernel_rfl) ?_)
  refine WC.seq (WC.runKX hW ex0 (kt := kt0) (own := []) [0, 4] (vals := [.d (.str s), .ptr 0 5 0]) (H' := H72) (by decide) (by kernel_rfl) (by kernel_rfl) ?_)
  change WC P (gl W) _ ⟨143, [(0, .d (.str s)), (4, .ptr 0 5 0)], H72⟩ _
  refine WC.seq ?_
  refine WC.seq ?_
  refine WC.reg (own := []) (by simp [f72.r5, runO]; rfl) ?_
  refine WC.block ?_
  refine WC.seq ?_
  refine WC.reg (own := []) (by simp [f72.r6, runO, h13]; rfl) ?_
  refine WC.cond (t := false) (by simp [evo, get_cons]) ?_
  refine WC.seq ?_
  refine WC.reg (own := []) (by simp [f72.r8, runO, h9]; rfl) ?_
  refine WC.cond (t := false) (by simp [evo, get_cons]) ?_
  refine WC.seq ?_
  refine WC.reg (own := []) (by simp [f72.r10, runO, h28]; rfl) ?_
  refine WC.cond (t := false) (by simp [evo, get_cons]) ?_
  refine WC.seq ?_
  refine WC.reg (own := []) (by simp [f72.r12, runO, h7]; rfl) ?_
  refine WC.cond (t := false) (by simp [evo, get_cons]) ?_
  refine WC.seq ?_
  refine WC.reg (own := []) (by simp [f72.r14, runO, h24]; rfl) ?_
  refine WC.cond (t := false) (by simp [evo, get_cons]) ?_
  refine WC.seq ?_
  refine WC.reg (own := []) (by simp [f72.r16, runO, h3]; rfl) ?_
  refine WC.cond (t := false) (by simp [evo, get_cons]) ?_
  refine WC.seq ?_
  refine WC.reg (own := []) (by simp [f72.r18, runO, h30]; rfl) ?_
  refine WC.cond (t := false) (by simp [evo, get_cons]) ?_
  refine WC.seq ?_
  refine WC.reg (own := []) (by simp [f72.r20, runO, h5]; rfl) ?_
  refine WC.cond (t := false) (by simp [evo, get_cons]) ?_
  refine WC.seq ?_
  refine WC.reg (own := []) (by simp [f72.r22, runO, h32]; rfl) ?_
  refine WC.cond (t := false) (by simp [evo, get_cons]) ?_
  refine WC.seq ?_
  refine WC.reg (own := []) (by simp [f72.r24, runO, h4]; rfl) ?_
  refine WC.cond (t := false) (by simp [evo, get_cons]) ?_
  refine WC.seq ?_
  refine WC.reg (own := []) (by simp [f72.r26, runO, h12]; rfl) ?_
  refine WC.cond (t := false) (by simp [evo, get_cons]) ?_
  refine WC.seq ?_
  refine WC.reg (own := []) (by simp [f72.r28, runO, h31]; rfl) ?_
  refine WC.cond (t := false) (by simp [evo, get_cons]) ?_
  refine WC.skip ?_
  refine WC.seq ?_
  refine WC.reg (own := []) (by simp [f72.r30, H72, runO, fillC, putCells, cellsV, okC, storeC, hget, hput, nbeq, nble]; rfl) ?_
  refine WC.ret ?_
  simp [resV, f72, mapO, resOne, get_cons, deepV, deepA, deepC, loadC, hget, mkV, nbeq, nble, deepFuel]
  rfl
end Fw.Tz

/-
  The operators' table.
-/
set_option maxRecDepth 1000000
namespace Fw.Tz
open Go Go.Proofs Fw.X
def cells73t : List V := [(.d (.str [124, 124])), (.d (.bool false)), (.d (.str [111, 114])), (.d (.int .i64 1)), (.d (.str [38, 38])), (.d (.bool false)), (.d (.str [97, 110, 100])), (.d (.int .i64 2)), (.d (.str [61, 61])), (.d (.bool false)), (.d (.str [101, 113])), (.d (.int .i64 3)), (.d (.str [33, 61])), (.d (.bool false)), (.d (.str [110, 101])), (.d (.int .i64 3)), (.d (.str [60])), (.d (.bool false)), (.d (.str [108, 116])), (.d (.int .i64 3)), (.d (.str [60, 61])), (.d (.bool false)), (.d (.str [108, 101])), (.d (.int .i64 3)), (.d (.str [62])), (.d (.bool false)), (.d (.str [103, 116])), (.d (.int .i64 3)), (.d (.str [62, 61])), (.d (.bool false)), (.d (.str [103, 101])), (.d (.int .i64 3)), (.d (.str [43])), (.d (.bool false)), (.d (.str [97, 100, 100])), (.d (.int .i64 4)), (.d (.str [45])), (.d (.bool false)), (.d (.str [115, 117, 98])), (.d (.int .i64 4)), (.d (.str [42])), (.d (.bool false)), (.d (.str [109, 117, 108])), (.d (.int .i64 5)), (.d (.str [47])), (.d (.bool false)), (.d (.str [100, 105, 118])), (.d (.int .i64 5)), (.d (.str [37])), (.d (.bool false)), (.d (.str [109, 111, 100])), (.d (.int .i64 5)), (.d (.str [45])), (.d (.bool true)), (.d (.str [110, 101, 103])), (.d (.int .i64 6)), (.d (.str [33])), (.d (.bool true)), (.d (.str [110, 111, 116])), (.d (.int .i64 6))]
theorem len73t : cells73t.length = 60 := rfl
theorem k73t (W : World) : pcT W 40 73 [] = some (.agg cells73t) := by kernel_rfl
end Fw.Tz

/-
  What Sig, Scheme and Symbol answer of a name that no primitive has.
-/
set_option linter.unusedSimpArgs false
set_option maxRecDepth 1000000
set_option maxHeartbeats 2000000
namespace Fw.Tz
open Go Go.Proofs Fw.X
variable {W : World}
attribute [local simp] runO asData guardB eff evo get_cons put_cons put_nil stput_some stput_none happ binD binS binI eqV unV fillC putCells cellsV okC storeC hget hput nbeq nble loadC mkV
def rowsA : List (List UInt8 × List UInt8) := [([97, 100, 100, 32, 115, 117, 98, 32, 109, 117, 108, 32, 100, 105, 118, 32, 109, 111, 100, 32, 109, 105, 110, 32, 109, 97, 120], [40, 105, 110, 116, 44, 32, 105, 110, 116, 41, 32, 45, 62, 32, 105, 110, 116]), ([110, 101, 103, 32, 97, 98, 115, 32, 115, 105, 103, 110], [40, 105, 110, 116, 41, 32, 45, 62, 32, 105, 110, 116]), ([108, 116, 32, 108, 101, 32, 103, 116, 32, 103, 101], [40, 105, 110, 116, 44, 32, 105, 110, 116, 41, 32, 45, 62, 32, 98, 111, 111, 108]), ([101, 113, 32, 110, 101], [40, 65, 44, 32, 65, 41, 32, 45, 62, 32, 98, 111, 111, 108]), ([97, 110, 100, 32, 111, 114, 32, 120, 111, 114], [40, 98, 111, 111, 108, 44, 32, 98, 111, 111, 108, 41, 32, 45, 62, 32, 98, 111, 111, 108]), ([110, 111, 116], [40, 98, 111, 111, 108, 41, 32, 45, 62, 32, 98, 111, 111, 108]), ([115, 101, 108, 101, 99, 116], [40, 98, 111, 111, 108, 44, 32, 65, 44, 32, 65, 41, 32, 45, 62, 32, 65]), ([116, 111, 105, 110, 116], [40, 98, 111, 111, 108, 41, 32, 45, 62, 32, 105, 110, 116])]
theorem k59 (W : World) : pcT W 40 59 [] = some (.d (.list (rowsA.map rowD))) := by kernel_rfl
theorem rowsA_ok (hW : W0 W) {s : List UInt8} (h : nN s = true) : ∀ r ∈ rowsA, ∃ fl, PC P (gl W) 58 [.d (.str r.1)] (.d (strsD fl)) ∧ (∀ c ∈ fl, Fw.bytesEq s c = false) ∧ fl.length < 4611686018427387904 := by
  intro r hr
  simp only [rowsA, List.mem_cons, List.not_mem_nil, or_false] at hr
  rcases hr with rfl | rfl | rfl | rfl | rfl | rfl | rfl | rfl
  · exact ⟨[[97, 100, 100], [115, 117, 98], [109, 117, 108], [100, 105, 118], [109, 111, 100], [109, 105, 110], [109, 97, 120]], pcT_ok hW 40 _ _ _ (show pcT W 40 58 [.d (.str [97, 100, 100, 32, 115, 117, 98, 32, 109, 117, 108, 32, 100, 105, 118, 32, 109, 111, 100, 32, 109, 105, 110, 32, 109, 97, 120])] = some (.d (strsD [[97, 100, 100], [115, 117, 98], [109, 117, 108], [100, 105, 118], [109, 111, 100], [109, 105, 110], [109, 97, 120]])) by kernel_rfl), fun c hc => nN_mem h (by simp only [List.mem_cons, List.not_mem_nil, or_false] at hc; rcases hc with rfl | rfl | rfl | rfl | rfl | rfl | rfl <;> simp [nmT]), by simp⟩
  · exact ⟨[[110, 101, 103], [97, 98, 115], [115, 105, 103, 110]], pcT_ok hW 40 _ _ _ (show pcT W 40 58 [.d (.str [110, 101, 103, 32, 97, 98, 115, 32, 115, 105, 103, 110])] = some (.d (strsD [[110, 101, 103], [97, 98, 115], [115, 105, 103, 110]])) by kernel_rfl), fun c hc => nN_mem h (by simp only [List.mem_cons, List.not_mem_nil, or_false] at hc; rcases hc with rfl | rfl | rfl <;> simp [nmT]), by simp⟩
  · exact ⟨[[108, 116], [108, 101], [103, 116], [103, 101]], pcT_ok hW 40 _ _ _ (show pcT W 40 58 [.d (.str [108, 116, 32, 108, 101, 32, 103, 116, 32, 103, 101])] = some (.d (strsD [[108, 116], [108, 101], [103, 116], [103, 101]])) by kernel_rfl), fun c hc => nN_mem h (by simp only [List.mem_cons, List.not_mem_nil, or_false] at hc; rcases hc with rfl | rfl | rfl | rfl <;> simp [nmT]), by simp⟩
  · exact ⟨[[101, 113], [110, 101]], pcT_ok hW 40 _ _ _ (show pcT W 40 58 [.d (.str [101, 113, 32, 110, 101])] = some (.d (strsD [[101, 113], [110, 101]])) by kernel_rfl), fun c hc => nN_mem h (by simp only [List.mem_cons, List.not_mem_nil, or_false] at hc; rcases hc with rfl | rfl <;> simp [nmT]), by simp⟩
  · exact ⟨[[97, 110, 100], [111, 114], [120, 111, 114]], pcT_ok hW 40 _ _ _ (show pcT W 40 58 [.d (.str [97, 110, 100, 32, 111, 114, 32, 120, 111, 114])] = some (.d (strsD [[97, 110, 100], [111, 114], [120, 111, 114]])) by kernel_rfl), fun c hc => nN_mem h (by simp only [List.mem_cons, List.not_mem_nil, or_false] at hc; rcases hc with rfl | rfl | rfl <;> simp [nmT]), by simp⟩
  · exact ⟨[[110, 111, 116]], pcT_ok hW 40 _ _ _ (show pcT W 40 58 [.d (.str [110, 111, 116])] = some (.d (strsD [[110, 111, 116]])) by kernel_rfl), fun c hc => nN_mem h (by simp only [List.mem_cons, List.not_mem_nil, or_false] at hc; rcases hc with rfl <;> simp [nmT]), by simp⟩
  · exact ⟨[[115, 101, 108, 101, 99, 116]], pcT_ok hW 40 _ _ _ (show pcT W 40 58 [.d (.str [115, 101, 108, 101, 99, 116])] = some (.d (strsD [[115, 101, 108, 101, 99, 116]])) by kernel_rfl), fun c hc => nN_mem h (by simp only [List.mem_cons, List.not_mem_nil, or_false] at hc; rcases hc with rfl <;> simp [nmT]), by simp⟩
  · exact ⟨[[116, 111, 105, 110, 116]], pcT_ok hW 40 _ _ _ (show pcT W 40 58 [.d (.str [116, 111, 105, 110, 116])] = some (.d (strsD [[116, 111, 105, 110, 116]])) by kernel_rfl), fun c hc => nN_mem h (by simp only [List.mem_cons, List.not_mem_nil, or_false] at hc; rcases hc with rfl <;> simp [nmT]), by simp⟩
def rowsB : List (List UInt8 × List UInt8) := [([105, 111, 116, 97], [40, 41, 32, 45, 62, 32, 91, 107, 93, 105, 110, 116, 32, 119, 104, 101, 114, 101, 32, 107]), ([102, 105, 108, 108], [40, 65, 41, 32, 45, 62, 32, 91, 107, 93, 65, 32, 119, 104, 101, 114, 101, 32, 107]), ([116, 97, 107, 101], [40, 91, 110, 93, 65, 41, 32, 45, 62, 32, 91, 107, 93, 65, 32, 119, 104, 101, 114, 101, 32, 107, 44, 32, 45, 107, 43, 110]), ([100, 114, 111, 112], [40, 91, 110, 93, 65, 41, 32, 45, 62, 32, 91, 45, 107, 43, 110, 93, 65, 32, 119, 104, 101, 114, 101, 32, 107, 44, 32, 45, 107, 43, 110]), ([114, 101, 118, 101, 114, 115, 101], [40, 91, 110, 93, 65, 41, 32, 45, 62, 32, 91, 110, 93, 65]), ([97, 112, 112, 101, 110, 100], [40, 91, 110, 93, 65, 44, 32, 91, 109, 93, 65, 41, 32, 45, 62, 32, 91, 109, 43, 110, 93, 65]), ([116, 114, 97, 110, 115, 112, 111, 115, 101], [40, 91, 110, 44, 32, 109, 93, 65, 41, 32, 45, 62, 32, 91, 109, 44, 32, 110, 93, 65]), ([100, 105, 97, 103, 111, 110, 97, 108], [40, 91, 110, 44, 32, 110, 93, 65, 41, 32, 45, 62, 32, 91, 110, 93, 65]), ([119, 105, 110, 100, 111, 119, 115], [40, 91, 110, 93, 65, 41, 32, 45, 62, 32, 91, 45, 107, 43, 110, 43, 49, 44, 32, 107, 93, 65, 32, 119, 104, 101, 114, 101, 32, 107, 44, 32, 45, 107, 43, 110]), ([105, 110, 100, 101, 120], [40, 91, 110, 93, 65, 44, 32, 105, 110, 116, 41, 32, 45, 62, 32, 65]), ([117, 112, 100, 97, 116, 101], [40, 91, 110, 93, 65, 44, 32, 105, 110, 116, 44, 32, 65, 41, 32, 45, 62, 32, 91, 110, 93, 65])]
theorem k60 (W : World) : pcT W 40 60 [] = some (.d (.list (rowsB.map rowD))) := by kernel_rfl
theorem rowsB_ok (hW : W0 W) {s : List UInt8} (h : nN s = true) : ∀ r ∈ rowsB, ∃ fl, PC P (gl W) 58 [.d (.str r.1)] (.d (strsD fl)) ∧ (∀ c ∈ fl, Fw.bytesEq s c = false) ∧ fl.length < 4611686018427387904 := by
  intro r hr
  simp only [rowsB, List.mem_cons, List.not_mem_nil, or_false] at hr
  rcases hr with rfl | rfl | rfl | rfl | rfl | rfl | rfl | rfl | rfl | rfl | rfl
  · exact ⟨[[105, 111, 116, 97]], pcT_ok hW 40 _ _ _ (show pcT W 40 58 [.d (.str [105, 111, 116, 97])] = some (.d (strsD [[105, 111, 116, 97]])) by kernel_rfl), fun c hc => nN_mem h (by simp only [List.mem_cons, List.not_mem_nil, or_false] at hc; rcases hc with rfl <;> simp [nmT]), by simp⟩
  · exact ⟨[[102, 105, 108, 108]], pcT_ok hW 40 _ _ _ (show pcT W 40 58 [.d (.str [102, 105, 108, 108])] = some (.d (strsD [[102, 105, 108, 108]])) by kernel_rfl), fun c hc => nN_mem h (by simp only [List.mem_cons, List.not_mem_nil, or_false] at hc; rcases hc with rfl <;> simp [nmT]), by simp⟩
  · exact ⟨[[116, 97, 107, 101]], pcT_ok hW 40 _ _ _ (show pcT W 40 58 [.d (.str [116, 97, 107, 101])] = some (.d (strsD [[116, 97, 107, 101]])) by kernel_rfl), fun c hc => nN_mem h (by simp only [List.mem_cons, List.not_mem_nil, or_false] at hc; rcases hc with rfl <;> simp [nmT]), by simp⟩
  · exact ⟨[[100, 114, 111, 112]], pcT_ok hW 40 _ _ _ (show pcT W 40 58 [.d (.str [100, 114, 111, 112])] = some (.d (strsD [[100, 114, 111, 112]])) by kernel_rfl), fun c hc => nN_mem h (by simp only [List.mem_cons, List.not_mem_nil, or_false] at hc; rcases hc with rfl <;> simp [nmT]), by simp⟩
  · exact ⟨[[114, 101, 118, 101, 114, 115, 101]], pcT_ok hW 40 _ _ _ (show pcT W 40 58 [.d (.str [114, 101, 118, 101, 114, 115, 101])] = some (.d (strsD [[114, 101, 118, 101, 114, 115, 101]])) by kernel_rfl), fun c hc => nN_mem h (by simp only [List.mem_cons, List.not_mem_nil, or_false] at hc; rcases hc with rfl <;> simp [nmT]), by simp⟩
  · exact ⟨[[97, 112, 112, 101, 110, 100]], pcT_ok hW 40 _ _ _ (show pcT W 40 58 [.d (.str [97, 112, 112, 101, 110, 100])] = some (.d (strsD [[97, 112, 112, 101, 110, 100]])) by kernel_rfl), fun c hc => nN_mem h (by simp only [List.mem_cons, List.not_mem_nil, or_false] at hc; rcases hc with rfl <;> simp [nmT]), by simp⟩
  · exact ⟨[[116, 114, 97, 110, 115, 112, 111, 115, 101]], pcT_ok hW 40 _ _ _ (show pcT W 40 58 [.d (.str [116, 114, 97, 110, 115, 112, 111, 115, 101])] = some (.d (strsD [[116, 114, 97, 110, 115, 112, 111, 115, 101]])) by kernel_rfl), fun c hc => nN_mem h (by simp only [List.mem_cons, List.not_mem_nil, or_false] at hc; rcases hc with rfl <;> simp [nmT]), by simp⟩
  · exact ⟨[[100, 105, 97, 103, 111, 110, 97, 108]], pcT_ok hW 40 _ _ _ (show pcT W 40 58 [.d (.str [100, 105, 97, 103, 111, 110, 97, 108])] = some (.d (strsD [[100, 105, 97, 103, 111, 110, 97, 108]])) by kernel_rfl), fun c hc => nN_mem h (by simp only [List.mem_cons, List.not_mem_nil, or_false] at hc; rcases hc with rfl <;> simp [nmT]), by simp⟩
  · exact ⟨[[119, 105, 110, 100, 111, 119, 115]], pcT_ok hW 40 _ _ _ (show pcT W 40 58 [.d (.str [119, 105, 110, 100, 111, 119, 115])] = some (.d (strsD [[119, 105, 110, 100, 111, 119, 115]])) by kernel_rfl), fun c hc => nN_mem h (by simp only [List.mem_cons, List.not_mem_nil, or_false] at hc; rcases hc with rfl <;> simp [nmT]), by simp⟩
  · exact ⟨[[105, 110, 100, 101, 120]], pcT_ok hW 40 _ _ _ (show pcT W 40 58 [.d (.str [105, 110, 100, 101, 120])] = some (.d (strsD [[105, 110, 100, 101, 120]])) by kernel_rfl), fun c hc => nN_mem h (by simp only [List.mem_cons, List.not_mem_nil, or_false] at hc; rcases hc with rfl <;> simp [nmT]), by simp⟩
  · exact ⟨[[117, 112, 100, 97, 116, 101]], pcT_ok hW 40 _ _ _ (show pcT W 40 58 [.d (.str [117, 112, 100, 97, 116, 101])] = some (.d (strsD [[117, 112, 100, 97, 116, 101]])) by kernel_rfl), fun c hc => nN_mem h (by simp only [List.mem_cons, List.not_mem_nil, or_false] at hc; rcases hc with rfl <;> simp [nmT]), by simp⟩
def zPrim : V := .tuple [.agg [.d (.str []), .d (.bool false), .d (.bool false), .d (.bool false), .d (.list []), .d (.list []), .d (.str []), .d (.str []), .d (.list []), .d (.list [])], .d (.bool false)]
def zErr (e : Int) : V := .tuple [.agg [.d (.list []), .d (.str []), .d (.str []), .d (.list []), .d (.list [])], .d (.int .i64 e)]
theorem n17 (hW : W0 W) {s : List UInt8} (h : nN s = true) : PC P (gl W) 17 [.d (.str s)] zPrim := by
  obtain ⟨⟨h0, g0⟩, ⟨h1, g1⟩, ⟨h2, g2⟩, ⟨h3, g3⟩, ⟨h4, g4⟩, ⟨h5, g5⟩, ⟨h6, g6⟩, ⟨h7, g7⟩, ⟨h8, g8⟩, ⟨h9, g9⟩, ⟨h10, g10⟩, ⟨h11, g11⟩, ⟨h12, g12⟩, ⟨h13, g13⟩, ⟨h14, g14⟩, ⟨h15, g15⟩, ⟨h16, g16⟩, ⟨h17, g17⟩, ⟨h18, g18⟩, ⟨h19, g19⟩, ⟨h20, g20⟩, ⟨h21, g21⟩, ⟨h22, g22⟩, ⟨h23, g23⟩, ⟨h24, g24⟩, ⟨h25, g25⟩, ⟨h26, g26⟩, ⟨h27, g27⟩, ⟨h28, g28⟩, ⟨h29, g29⟩, ⟨h30, g30⟩, ⟨h31, g31⟩, ⟨h32, g32⟩, ⟨h33, g33⟩⟩ := nN_eqs h
  refine PC.body is17 ca17 (by simp [f17]) rfl ?_
  show WC P (gl W) (.seq (.region f17.r0) (.seq (.region f17.r1) (.seq (.region f17.r2) (.seq (.region f17.r3) (.seq (.seq (.region f17.r4) (.cond (.t 18) (.region f17.r5) .skip)) (.seq (.seq (.region f17.r6) (.block 0 (.seq (.region f17.r7) (.cond (.t 26) (.region f17.r8) (.seq (.seq (.region f17.r9) (.cond (.t 29) .skip (.region f17.r10))) (.cond (.t 29) (.region f17.r11) (.seq (.seq (.region f17.r12) (.cond (.t 33) .skip (.seq (.region f17.r13) (.cond (.t 33) .skip (.seq (.region f17.r14) (.cond (.t 33) .skip (.seq (.region f17.r15) (.cond (.t 33) .skip (.region f17.r16))))))))) (.cond (.t 33) (.region f17.r17) .skip)))))))) (.seq (.seq (.region f17.r18) (.cond (.t 42) (.seq (.region f17.r19) .ret) .skip)) (.seq (.region f17.r20) (.seq (.region f17.r21) .ret))))))))) ⟨51, [(0, .d (.str s))], []⟩ _
  refine WC.seq ?_
  refine WC.reg (own := []) (by simp [f17.r0, runO]; rfl) ?_
  refine WC.seq ?_
  refine WC.reg (own := []) (by simp [f17.r1, runO]; rfl) ?_
  refine WC.seq ?_
  refine WC.region ?_
  refine WO.callPC rfl rfl (pcT_ok hW 40 _ _ _ (k59 W)) (by simp [f17.r2, get_cons, put_cons, put_nil, stput_some]; rfl) ?_
  refine WO.preN 1 (own := []) noC_ok (by simp [runO]; rfl) ?_
  refine WO.callPC rfl rfl (n62 rowsA s (rowsA_ok hW h) (by simp [rowsA])) (by simp [get_cons, put_cons, put_nil, stput_some]; rfl) ?_
  refine runO_ok (own := []) noC_ok (by simp [runO]; rfl) ?_
  refine WC.seq ?_
  refine WC.reg (own := []) (by simp [f17.r3, runO]; rfl) ?_
  refine WC.seq ?_
  refine WC.seq ?_
  refine WC.reg (own := []) (by simp [f17.r4, runO]; rfl) ?_
  refine WC.cond (t := true) (by simp [evo, get_cons]) ?_
  refine WC.region ?_
  refine WO.callPC rfl rfl (pcT_ok hW 40 _ _ _ (k60 W)) (by simp [f17.r5, get_cons, put_cons, put_nil, stput_some]; rfl) ?_
  refine WO.preN 1 (own := []) noC_ok (by simp [runO]; rfl) ?_
  refine WO.callPC rfl rfl (n62 rowsB s (rowsB_ok hW h) (by simp [rowsB])) (by simp [get_cons, put_cons, put_nil, stput_some]; rfl) ?_
  refine runO_ok (own := []) noC_ok (by simp [runO]; rfl) ?_
  refine WC.seq ?_
  refine WC.seq ?_
  refine WC.reg (own := []) (by simp [f17.r6, runO]; rfl) ?_
  refine WC.block ?_
  refine WC.seq ?_
  refine WC.reg (own := []) (by simp [f17.r7, runO, h4]; rfl) ?_
  refine WC.cond (t := false) (by simp [evo, get_cons]) ?_
  refine WC.seq ?_
  refine WC.seq ?_
  refine WC.reg (own := []) (by simp [f17.r9, runO, h12]; rfl) ?_
  refine WC.cond (t := false) (by simp [evo, get_cons]) ?_
  refine WC.reg (own := []) (by simp [f17.r10, runO, h31]; rfl) ?_
  refine WC.cond (t := false) (by simp [evo, get_cons]) ?_
  refine WC.seq ?_
  refine WC.seq ?_
  refine WC.reg (own := []) (by simp [f17.r12, runO, h13]; rfl) ?_
  refine WC.cond (t := false) (by simp [evo, get_cons]) ?_
  refine WC.seq ?_
  refine WC.reg (own := []) (by simp [f17.r13, runO, h9]; rfl) ?_
  refine WC.cond (t := false) (by simp [evo, get_cons]) ?_
  refine WC.seq ?_
  refine WC.reg (own := []) (by simp [f17.r14, runO, h28]; rfl) ?_
  refine WC.cond (t := false) (by simp [evo, get_cons]) ?_
  refine WC.seq ?_
  refine WC.reg (own := []) (by simp [f17.r15, runO, h7]; rfl) ?_
  refine WC.cond (t := false) (by simp [evo, get_cons]) ?_
  refine WC.reg (own := []) (by simp [f17.r16, runO, h32]; rfl) ?_
  refine WC.cond (t := false) (by simp [evo, get_cons]) ?_
  refine WC.skip ?_
  refine WC.seq ?_
  refine WC.seq ?_
  refine WC.reg (own := []) (by simp [f17.r18, runO]; rfl) ?_
  refine WC.cond (t := true) (by simp [evo, get_cons]) ?_
  refine WC.seq ?_
  refine WC.reg (own := []) (by simp [f17.r19, runO]; rfl) ?_
  refine WC.ret ?_
  simp [resV, f17, mapO, resOne, get_cons, deepV, deepA, deepC, loadC, hget, mkV, nbeq, nble, deepFuel]
  rfl
theorem n18 (hW : W0 W) {s : List UInt8} (n : Int) (h : nN s = true) : PC P (gl W) 18 [.d (.str s), .d (.int .i64 n)] (zErr 7) := by
  refine PC.body is18 ca18 (by simp [f18]) rfl ?_
  show WC P (gl W) (.seq (.region f18.r0) (.seq (.region f18.r1) (.seq (.block 0 (.seq (.region f18.r2) (.cond (.t 14) (.seq (.region f18.r3) .ret) (.seq (.region f18.r4) (.cond (.t 18) (.seq (.region f18.r5) .ret) (.seq (.region f18.r6) (.cond (.t 39) (.seq (.region f18.r7) (.seq (.region f18.r8) .ret)) .skip))))))) (.seq (.region f18.r9) .ret)))) ⟨59, [(0, .d (.str s)), (1, .d (.int .i64 n))], []⟩ _
  refine WC.seq ?_
  refine WC.reg (own := []) (by simp [f18.r0, runO]; rfl) ?_
  refine WC.seq ?_
  refine WC.region ?_
  refine WO.preN 1 (own := []) noC_ok (by simp [f18.r1, runO]; rfl) ?_
  refine WO.callPC rfl rfl (n17 hW h) (by simp [f18.r1, get_cons, put_cons, put_nil, stput_some]; rfl) ?_
  refine runO_ok (own := []) noC_ok (by simp [runO]; rfl) ?_
  refine WC.seq ?_
  refine WC.block ?_
  refine WC.seq ?_
  refine WC.reg (own := []) (by simp [f18.r2, runO]; rfl) ?_
  refine WC.cond (t := true) (by simp [evo, get_cons]) ?_
  refine WC.seq ?_
  refine WC.reg (own := []) (by simp [f18.r3, runO]; rfl) ?_
  refine WC.ret ?_
  simp [resV, f18, mapO, resOne, get_cons, deepV, deepA, deepC, loadC, hget, mkV, nbeq, nble, deepFuel]
  rfl
theorem n25 (hW : W0 W) {s : List UInt8} (h : nN s = true) : PC P (gl W) 25 [.d (.str s)] zPrim := by
  obtain ⟨⟨h0, g0⟩, ⟨h1, g1⟩, ⟨h2, g2⟩, ⟨h3, g3⟩, ⟨h4, g4⟩, ⟨h5, g5⟩, ⟨h6, g6⟩, ⟨h7, g7⟩, ⟨h8, g8⟩, ⟨h9, g9⟩, ⟨h10, g10⟩, ⟨h11, g11⟩, ⟨h12, g12⟩, ⟨h13, g13⟩, ⟨h14, g14⟩, ⟨h15, g15⟩, ⟨h16, g16⟩, ⟨h17, g17⟩, ⟨h18, g18⟩, ⟨h19, g19⟩, ⟨h20, g20⟩, ⟨h21, g21⟩, ⟨h22, g22⟩, ⟨h23, g23⟩, ⟨h24, g24⟩, ⟨h25, g25⟩, ⟨h26, g26⟩, ⟨h27, g27⟩, ⟨h28, g28⟩, ⟨h29, g29⟩, ⟨h30, g30⟩, ⟨h31, g31⟩, ⟨h32, g32⟩, ⟨h33, g33⟩⟩ := nN_eqs h
  refine PC.body is25 ca25 (by simp [f25]) rfl ?_
  show WC P (gl W) (.seq (.region f25.r0) (.seq (.seq (.region f25.r1) (.seq (.region f25.r2) (.cond (.t 14) (.seq (.region f25.r3) .ret) .skip))) (.seq (.region f25.r4) (.seq (.seq (.region f25.r5) (.cond (.t 24) (.seq (.region f25.r6) .ret) .skip)) (.seq (.region f25.r7) (.seq (.seq (.region f25.r8) (.cond (.t 54) (.region f25.r9) .skip)) (.seq (.region f25.r10) .ret))))))) ⟨58, [(0, .d (.str s))], []⟩ _
  refine WC.seq ?_
  refine WC.reg (own := []) (by simp [f25.r0, runO]; rfl) ?_
  refine WC.seq ?_
  refine WC.seq ?_
  refine WC.region ?_
  refine WO.preN 1 (own := []) noC_ok (by simp [f25.r1, runO]; rfl) ?_
  refine WO.callPC rfl rfl (n71 hW h) (by simp [f25.r1, get_cons, put_cons, put_nil, stput_some]; rfl) ?_
  refine runO_ok (own := []) noC_ok (by simp [runO]; rfl) ?_
  refine WC.seq ?_
  refine WC.reg (own := []) (by simp [f25.r2, runO]; rfl) ?_
  refine WC.cond (t := false) (by simp [evo, get_cons]) ?_
  refine WC.skip ?_
  refine WC.seq ?_
  refine WC.region ?_
  refine WO.preN 1 (own := []) noC_ok (by simp [f25.r4, runO]; rfl) ?_
  refine WO.callPC rfl rfl (n72 hW 1 h) (by simp [f25.r4, get_cons, put_cons, put_nil, stput_some]; rfl) ?_
  refine runO_ok (own := []) noC_ok (by simp [runO]; rfl) ?_
  refine WC.seq ?_
  refine WC.seq ?_
  refine WC.reg (own := []) (by simp [f25.r5, runO]; rfl) ?_
  refine WC.cond (t := true) (by simp [evo, get_cons]) ?_
  refine WC.seq ?_
  refine WC.reg (own := []) (by simp [f25.r6, runO]; rfl) ?_
  refine WC.ret ?_
  simp [resV, f25, mapO, resOne, get_cons, deepV, deepA, deepC, loadC, hget, mkV, nbeq, nble, deepFuel]
  rfl
theorem n26 (hW : W0 W) {s : List UInt8} (n : Int) (h : nN s = true) : PC P (gl W) 26 [.d (.str s), .d (.int .i64 n)] (zErr 7) := by
  refine PC.body is26 ca26 (by simp [f26]) rfl ?_
  show WC P (gl W) (.seq (.region f26.r0) (.seq (.region f26.r1) (.seq (.seq (.region f26.r2) (.cond (.t 14) (.seq (.region f26.r3) .ret) .skip)) (.seq (.seq (.region f26.r4) (.cond (.t 34) (.seq (.region f26.r5) .ret) .skip)) (.seq (.seq (.region f26.r6) (.cond (.t 37) (.region f26.r7) .skip)) (.seq (.region f26.r8) .ret)))))) ⟨47, [(0, .d (.str s)), (1, .d (.int .i64 n))], []⟩ _
  refine WC.seq ?_
  refine WC.reg (own := []) (by simp [f26.r0, runO]; rfl) ?_
  refine WC.seq ?_
  refine WC.region ?_
  refine WO.preN 1 (own := []) noC_ok (by simp [f26.r1, runO]; rfl) ?_
  refine WO.callPC rfl rfl (n25 hW h) (by simp [f26.r1, get_cons, put_cons, put_nil, stput_some]; rfl) ?_
  refine runO_ok (own := []) noC_ok (by simp [runO]; rfl) ?_
  refine WC.seq ?_
  refine WC.seq ?_
  refine WC.reg (own := []) (by simp [f26.r2, runO]; rfl) ?_
  refine WC.cond (t := true) (by simp [evo, get_cons]) ?_
  refine WC.seq ?_
  refine WC.reg (own := []) (by simp [f26.r3, runO]; rfl) ?_
  refine WC.ret ?_
  simp [resV, f26, mapO, resOne, get_cons, deepV, deepA, deepC, loadC, hget, mkV, nbeq, nble, deepFuel]
  rfl
end Fw.Tz

/-
  What Symbol answers of a name that no primitive has.
-/
set_option linter.unusedSimpArgs false
set_option maxRecDepth 1000000
set_option maxHeartbeats 2000000
namespace Fw.Tz
open Go Go.Proofs Fw.X
variable {W : World}
attribute [local simp] runO asData guardB eff evo get_cons put_cons put_nil stput_some stput_none happ binD binS binI eqV unV fillC putCells cellsV okC storeC hget hput nbeq nble loadC mkV
def zSym : V := .tuple [.d (.str []), .d (.bool false), .d (.bool false)]
theorem row73n : ∀ i, i < 15 → ∃ c b n p, (cells73t.drop (i * 4)).take 4 = [.d (.str c), .d (.bool b), .d (.str n), .d (.int .i64 p)] ∧ n ∈ nmT
  | 0, _ => ⟨_, _, _, _, rfl, by simp [nmT]⟩
  | 1, _ => ⟨_, _, _, _, rfl, by simp [nmT]⟩
  | 2, _ => ⟨_, _, _, _, rfl, by simp [nmT]⟩
  | 3, _ => ⟨_, _, _, _, rfl, by simp [nmT]⟩
  | 4, _ => ⟨_, _, _, _, rfl, by simp [nmT]⟩
  | 5, _ => ⟨_, _, _, _, rfl, by simp [nmT]⟩
  | 6, _ => ⟨_, _, _, _, rfl, by simp [nmT]⟩
  | 7, _ => ⟨_, _, _, _, rfl, by simp [nmT]⟩
  | 8, _ => ⟨_, _, _, _, rfl, by simp [nmT]⟩
  | 9, _ => ⟨_, _, _, _, rfl, by simp [nmT]⟩
  | 10, _ => ⟨_, _, _, _, rfl, by simp [nmT]⟩
  | 11, _ => ⟨_, _, _, _, rfl, by simp [nmT]⟩
  | 12, _ => ⟨_, _, _, _, rfl, by simp [nmT]⟩
  | 13, _ => ⟨_, _, _, _, rfl, by simp [nmT]⟩
  | 14, _ => ⟨_, _, _, _, rfl, by simp [nmT]⟩
  | n + 15, h => by omega
def I27 (s : List UInt8) (i : Nat) : St := ⟨20, [(0, .d (.str s)), (7, .agg cells73t), (8, .d (.int .i64 (i : Int)))], []⟩
theorem n27 (hW : W0 W) {s : List UInt8} (h : nN s = true) : PC P (gl W) 27 [.d (.str s)] zSym := by
  refine PC.body is27 ca27 (by simp [f27]) rfl ?_
  show WC P (gl W) (.seq (.region f27.r0) (.seq (.seq (.region f27.r1) (.block 0 (.loop f27.l7))) (.seq (.region f27.r8) .ret))) ⟨20, [(0, .d (.str s))], []⟩ _
  refine WC.seq (WC.reg (own := []) (by simp [f27.r0, runO]; rfl) ?_)
  refine WC.seq (WC.seq (WC.region (WO.callPC rfl rfl (pcT_ok hW 40 _ _ _ (k73t W)) (by simp [f27.r1, get_cons, put_cons, put_nil, stput_some]; rfl) ?_)))
  refine runO_ok (own := []) noC_ok (by simp [runO]; rfl) ?_
  refine WC.block (WC.loopK (α := {i : Nat // i ≤ 15}) [0, 7, 8] (fun i => I27 s i.1) (fun i => 15 - i.1) ?_ ⟨0, by omega⟩ (by rfl))
  rintro ⟨i, hi⟩
  show WC P (gl W) (.seq (.region f27.r2) (.seq (.cond (.t 9) .skip (.exit 0)) (.seq (.block 1 (.seq (.region f27.r3) (.seq (.region f27.r4) (.cond (.t 14) (.seq (.draw f27.r5) .ret) .skip)))) (.region f27.r6)))) (I27 s i) _
  unfold I27
  refine WC.seq (WC.reg (own := []) (by simp [f27.r2, runO]; rfl) ?_)
  by_cases hlt : i < 15
  · refine WC.seq (WC.cond (t := true) (by simp [evo, get_cons]; omega) (WC.skip ?_))
    obtain ⟨c, b, nm, p, hrow, hk⟩ := row73n i hlt
    have hne : Fw.bytesEq nm s = false := nN_mem' h hk
    have hw : IntKind.i64.wrap ((i : Int) + 1) = ((i + 1 : Nat) : Int) := by rw [IntKind.wrap_i64]; omega
    refine WC.seq (WC.block (WC.seq (WC.reg (own := []) (by simp [f27.r3, runO, natOf, nblt, len73t, hrow, hlt]; rfl) ?_)))
    refine WC.seq (WC.reg (own := []) (by simp [f27.r4, runO, hne]; rfl) ?_)
    refine WC.cond (t := false) (by simp [evo, get_cons, hne]) (WC.skip ?_)
    refine WC.reg (own := []) (by simp [f27.r6, runO, hw]; rfl) ?_
    exact ⟨⟨i + 1, by omega⟩, by simp; omega, rfl⟩
  · refine WC.seq (WC.cond (t := false) (by simp [evo, get_cons]; omega) (WC.exit ?_))
    refine (if_pos rfl).mpr ?_
    refine WC.seq (WC.reg (own := []) (by simp [f27.r8, runO]; rfl) (WC.ret ?_))
    simp [resV, f27, mapO, resOne, get_cons, deepV, deepA]
    rfl
def sy28 : List (List UInt8) := [[124, 124], [38, 38], [61, 61], [33, 61], [60], [60, 61], [62], [62, 61], [43], [45], [42], [47], [37], [33]]
theorem row28 (hW : W0 W) {s : List UInt8} (h : nN s = true) : ∀ i, (hi : i < sy28.length) → ∃ (n1 : List UInt8) (l1 : Int) (o1 : Bool) (n2 : List UInt8) (l2 : Int) (o2 : Bool),
    PC P (gl W) 33 [.d (.str sy28[i]), .d (.bool false)] (.tuple [.d (.str n1), .d (.int .i64 l1), .d (.bool o1)]) ∧ PC P (gl W) 33 [.d (.str sy28[i]), .d (.bool true)] (.tuple [.d (.str n2), .d (.int .i64 l2), .d (.bool o2)]) ∧
    (o1 = true → Fw.bytesEq n1 s = false) ∧ (o2 = true → Fw.bytesEq n2 s = false)
  | 0, _ => ⟨[111, 114], 1, true, [], 0, false, pcT_ok hW 40 _ _ _ (show pcT W 40 33 [.d (.str [124, 124]), .d (.bool false)] = some (.tuple [.d (.str [111, 114]), .d (.int .i64 1), .d (.bool true)]) by kernel_rfl), pcT_ok hW 40 _ _ _ (show pcT W 40 33 [.d (.str [124, 124]), .d (.bool true)] = some (.tuple [.d (.str []), .d (.int .i64 0), .d (.bool false)]) by kernel_rfl), (fun _ => nN_mem' h (by simp [nmT])), (fun e => by cases e)⟩
  | 1, _ => ⟨[97, 110, 100], 2, true, [], 0, false, pcT_ok hW 40 _ _ _ (show pcT W 40 33 [.d (.str [38, 38]), .d (.bool false)] = some (.tuple [.d (.str [97, 110, 100]), .d (.int .i64 2), .d (.bool true)]) by kernel_rfl), pcT_ok hW 40 _ _ _ (show pcT W 40 33 [.d (.str [38, 38]), .d (.bool true)] = some (.tuple [.d (.str []), .d (.int .i64 0), .d (.bool false)]) by kernel_rfl), (fun _ => nN_mem' h (by simp [nmT])), (fun e => by cases e)⟩
  | 2, _ => ⟨[101, 113], 3, true, [], 0, false, pcT_ok hW 40 _ _ _ (show pcT W 40 33 [.d (.str [61, 61]), .d (.bool false)] = some (.tuple [.d (.str [101, 113]), .d (.int .i64 3), .d (.bool true)]) by kernel_rfl), pcT_ok hW 40 _ _ _ (show pcT W 40 33 [.d (.str [61, 61]), .d (.bool true)] = some (.tuple [.d (.str []), .d (.int .i64 0), .d (.bool false)]) by kernel_rfl), (fun _ => nN_mem' h (by simp [nmT])), (fun e => by cases e)⟩
  | 3, _ => ⟨[110, 101], 3, true, [], 0, false, pcT_ok hW 40 _ _ _ (show pcT W 40 33 [.d (.str [33, 61]), .d (.bool false)] = some (.tuple [.d (.str [110, 101]), .d (.int .i64 3), .d (.bool true)]) by kernel_rfl), pcT_ok hW 40 _ _ _ (show pcT W 40 33 [.d (.str [33, 61]), .d (.bool true)] = some (.tuple [.d (.str []), .d (.int .i64 0), .d (.bool false)]) by kernel_rfl), (fun _ => nN_mem' h (by simp [nmT])), (fun e => by cases e)⟩
  | 4, _ => ⟨[108, 116], 3, true, [], 0, false, pcT_ok hW 40 _ _ _ (show pcT W 40 33 [.d (.str [60]), .d (.bool false)] = some (.tuple [.d (.str [108, 116]), .d (.int .i64 3), .d (.bool true)]) by kernel_rfl), pcT_ok hW 40 _ _ _ (show pcT W 40 33 [.d (.str [60]), .d (.bool true)] = some (.tuple [.d (.str []), .d (.int .i64 0), .d (.bool false)]) by kernel_rfl), (fun _ => nN_mem' h (by simp [nmT])), (fun e => by cases e)⟩
  | 5, _ => ⟨[108, 101], 3, true, [], 0, false, pcT_ok hW 40 _ _ _ (show pcT W 40 33 [.d (.str [60, 61]), .d (.bool false)] = some (.tuple [.d (.str [108, 101]), .d (.int .i64 3), .d (.bool true)]) by kernel_rfl), pcT_ok hW 40 _ _ _ (show pcT W 40 33 [.d (.str [60, 61]), .d (.bool true)] = some (.tuple [.d (.str []), .d (.int .i64 0), .d (.bool false)]) by kernel_rfl), (fun _ => nN_mem' h (by simp [nmT])), (fun e => by cases e)⟩
  | 6, _ => ⟨[103, 116], 3, true, [], 0, false, pcT_ok hW 40 _ _ _ (show pcT W 40 33 [.d (.str [62]), .d (.bool false)] = some (.tuple [.d (.str [103, 116]), .d (.int .i64 3), .d (.bool true)]) by kernel_rfl), pcT_ok hW 40 _ _ _ (show pcT W 40 33 [.d (.str [62]), .d (.bool true)] = some (.tuple [.d (.str []), .d (.int .i64 0), .d (.bool false)]) by kernel_rfl), (fun _ => nN_mem' h (by simp [nmT])), (fun e => by cases e)⟩
  | 7, _ => ⟨[103, 101], 3, true, [], 0, false, pcT_ok hW 40 _ _ _ (show pcT W 40 33 [.d (.str [62, 61]), .d (.bool false)] = some (.tuple [.d (.str [103, 101]), .d (.int .i64 3), .d (.bool true)]) by kernel_rfl), pcT_ok hW 40 _ _ _ (show pcT W 40 33 [.d (.str [62, 61]), .d (.bool true)] = some (.tuple [.d (.str []), .d (.int .i64 0), .d (.bool false)]) by kernel_rfl), (fun _ => nN_mem' h (by simp [nmT])), (fun e => by cases e)⟩
  | 8, _ => ⟨[97, 100, 100], 4, true, [], 0, false, pcT_ok hW 40 _ _ _ (show pcT W 40 33 [.d (.str [43]), .d (.bool false)] = some (.tuple [.d (.str [97, 100, 100]), .d (.int .i64 4), .d (.bool true)]) by kernel_rfl), pcT_ok hW 40 _ _ _ (show pcT W 40 33 [.d (.str [43]), .d (.bool true)] = some (.tuple [.d (.str []), .d (.int .i64 0), .d (.bool false)]) by kernel_rfl), (fun _ => nN_mem' h (by simp [nmT])), (fun e => by cases e)⟩
  | 9, _ => ⟨[115, 117, 98], 4, true, [110, 101, 103], 6, true, pcT_ok hW 40 _ _ _ (show pcT W 40 33 [.d (.str [45]), .d (.bool false)] = some (.tuple [.d (.str [115, 117, 98]), .d (.int .i64 4), .d (.bool true)]) by kernel_rfl), pcT_ok hW 40 _ _ _ (show pcT W 40 33 [.d (.str [45]), .d (.bool true)] = some (.tuple [.d (.str [110, 101, 103]), .d (.int .i64 6), .d (.bool true)]) by kernel_rfl), (fun _ => nN_mem' h (by simp [nmT])), (fun _ => nN_mem' h (by simp [nmT]))⟩
  | 10, _ => ⟨[109, 117, 108], 5, true, [], 0, false, pcT_ok hW 40 _ _ _ (show pcT W 40 33 [.d (.str [42]), .d (.bool false)] = some (.tuple [.d (.str [109, 117, 108]), .d (.int .i64 5), .d (.bool true)]) by kernel_rfl), pcT_ok hW 40 _ _ _ (show pcT W 40 33 [.d (.str [42]), .d (.bool true)] = some (.tuple [.d (.str []), .d (.int .i64 0), .d (.bool false)]) by kernel_rfl), (fun _ => nN_mem' h (by simp [nmT])), (fun e => by cases e)⟩
  | 11, _ => ⟨[100, 105, 118], 5, true, [], 0, false, pcT_ok hW 40 _ _ _ (show pcT W 40 33 [.d (.str [47]), .d (.bool false)] = some (.tuple [.d (.str [100, 105, 118]), .d (.int .i64 5), .d (.bool true)]) by kernel_rfl), pcT_ok hW 40 _ _ _ (show pcT W 40 33 [.d (.str [47]), .d (.bool true)] = some (.tuple [.d (.str []), .d (.int .i64 0), .d (.bool false)]) by kernel_rfl), (fun _ => nN_mem' h (by simp [nmT])), (fun e => by cases e)⟩
  | 12, _ => ⟨[109, 111, 100], 5, true, [], 0, false, pcT_ok hW 40 _ _ _ (show pcT W 40 33 [.d (.str [37]), .d (.bool false)] = some (.tuple [.d (.str [109, 111, 100]), .d (.int .i64 5), .d (.bool true)]) by kernel_rfl), pcT_ok hW 40 _ _ _ (show pcT W 40 33 [.d (.str [37]), .d (.bool true)] = some (.tuple [.d (.str []), .d (.int .i64 0), .d (.bool false)]) by kernel_rfl), (fun _ => nN_mem' h (by simp [nmT])), (fun e => by cases e)⟩
  | 13, _ => ⟨[], 0, false, [110, 111, 116], 6, true, pcT_ok hW 40 _ _ _ (show pcT W 40 33 [.d (.str [33]), .d (.bool false)] = some (.tuple [.d (.str []), .d (.int .i64 0), .d (.bool false)]) by kernel_rfl), pcT_ok hW 40 _ _ _ (show pcT W 40 33 [.d (.str [33]), .d (.bool true)] = some (.tuple [.d (.str [110, 111, 116]), .d (.int .i64 6), .d (.bool true)]) by kernel_rfl), (fun e => by cases e), (fun _ => nN_mem' h (by simp [nmT]))⟩
  | n + 14, hi => by simp [sy28] at hi; omega
def I28 (s : List UInt8) (i : Nat) : St := ⟨58, [(0, .d (.str s)), (5, .d (strsD sy28)), (6, .d (.int .i64 (i : Int)))], []⟩
theorem n28 (hW : W0 W) {s : List UInt8} (h : nN s = true) : PC P (gl W) 28 [.d (.str s)] zSym := by
  refine PC.body is28 ca28 (by simp [f28]) rfl ?_
  show WC P (gl W) (.seq (.region f28.r0) (.seq (.region f28.r1) (.seq (.seq (.region f28.r2) (.block 0 (.loop f28.l11))) (.seq (.region f28.r12) .ret)))) ⟨58, [(0, .d (.str s))], []⟩ _
  refine WC.seq (WC.runKX hW ex0 (kt := kt0) (own := []) [0] (vals := [.d (.str s)]) (H' := []) (by decide) (by kernel_rfl) (by kernel_rfl) ?_)
  refine WC.seq (WC.runKX hW ex0 (kt := kt0) (own := []) [0, 5] (vals := [.d (.str s), .d (strsD sy28)]) (H' := []) (by decide) (by kernel_rfl) (by kernel_rfl) ?_)
  change WC P (gl W) _ ⟨58, [(0, .d (.str s)), (5, .d (strsD sy28))], []⟩ _
  refine WC.seq (WC.seq (WC.reg (own := []) (by simp [f28.r2, runO]; rfl) ?_))
  have hlen : sy28.length = 14 := rfl
  refine WC.block (WC.loopK (α := {i : Nat // i ≤ 14}) [0, 5, 6] (fun i => I28 s i.1) (fun i => 14 - i.1) ?_ ⟨0, by omega⟩ (by rfl))
  rintro ⟨i, hi⟩
  show WC P (gl W) (.seq (.seq (.region f28.r3) (.cond (.t 17) .skip (.exit 0))) (.seq (.block 1 (.seq (.seq (.region f28.r4) (.seq (.region f28.r5) (.cond (.t 34) (.seq (.region f28.r6) .ret) .skip))) (.seq (.region f28.r7) (.seq (.region f28.r8) (.cond (.t 53) (.seq (.region f28.r9) .ret) .skip))))) (.region f28.r10))) (I28 s i) _
  unfold I28
  refine WC.seq (WC.seq (WC.reg (own := []) (by simp [f28.r3, runO, lenV, strsD, hlen]; rfl) ?_))
  by_cases hlt : i < 14
  · refine WC.cond (t := true) (by simp [evo, get_cons]; omega) (WC.skip ?_)
    have hlt' : i < sy28.length := hlt
    obtain ⟨n1, l1, o1, n2, l2, o2, q1, q2, e1, e2⟩ := row28 hW h i hlt'
    have hw : IntKind.i64.wrap ((i : Int) + 1) = ((i + 1 : Nat) : Int) := by rw [IntKind.wrap_i64]; omega
    refine WC.keep [0, 5, 6] ?_
    change WC P (gl W) _ ⟨58, [(0, .d (.str s)), (5, .d (strsD sy28)), (6, .d (.int .i64 (i : Int)))], []⟩ _
    refine WC.seq (WC.block (WC.seq (WC.seq (WC.regN 4 (own := []) (by simp [f28.r4, runO, natOf, strsD, hlt']; rfl) ?_))))
    refine WO.callPC rfl rfl q1 (by simp [get_cons, put_cons, put_nil, stput_some]; rfl) ?_
    refine runO_ok (own := []) noC_ok (by simp [runO]; rfl) ?_
    have step2 : WC P (gl W) (.seq (.region f28.r7) (.seq (.region f28.r8) (.cond (.t 53) (.seq (.region f28.r9) .ret) .skip))) ⟨58, [(0, .d (.str s)), (5, .d (strsD sy28)), (6, .d (.int .i64 (i : Int)))], []⟩ (fun e s' => e = .normal ∧ ∃ tm, s' = ⟨58, tm, []⟩ ∧ get tm 0 = .d (.str s) ∧ get tm 5 = .d (strsD sy28) ∧ get tm 6 = .d (.int .i64 (i : Int))) := by
      refine WC.seq (WC.regN 4 (own := []) (by simp [f28.r7, runO, natOf, strsD, hlt']; rfl) ?_)
      refine WO.callPC rfl rfl q2 (by simp [get_cons, put_cons, put_nil, stput_some]; rfl) ?_
      refine runO_ok (own := []) noC_ok (by simp [runO]; rfl) ?_
      cases o2 with
      | true =>
        have e2' := e2 rfl
        refine WC.seq (WC.reg (own := []) (by simp [f28.r8, runO, e2']; rfl) ?_)
        refine WC.cond (t := false) (by simp [evo, get_cons, e2']) (WC.skip ⟨rfl, _, rfl, by simp [get_cons], by simp [get_cons, strsD], by simp [get_cons]⟩)
      | false =>
        refine WC.seq (WC.reg (own := []) (by simp [f28.r8, runO]; rfl) ?_)
        refine WC.cond (t := false) (by simp [evo, get_cons]) (WC.skip ⟨rfl, _, rfl, by simp [get_cons], by simp [get_cons, strsD], by simp [get_cons]⟩)
    have step1 : ∀ (tm : List (Nat × V)), get tm 0 = .d (.str s) → get tm 5 = .d (strsD sy28) → get tm 6 = .d (.int .i64 (i : Int)) → WC P (gl W) (.seq (.region f28.r7) (.seq (.region f28.r8) (.cond (.t 53) (.seq (.region f28.r9) .ret) .skip))) ⟨58, tm, []⟩ (fun e s' => e = .normal ∧ ∃ tm, s' = ⟨58, tm, []⟩ ∧ get tm 0 = .d (.str s) ∧ get tm 5 = .d (strsD sy28) ∧ get tm 6 = .d (.int .i64 (i : Int))) := fun tm t0 t5 t6 => WC.weak (fun k => by
      by_cases k0 : k = 0
      · subst k0; left; rw [t0]; simp [get_cons]
      · by_cases k5 : k = 5
        · subst k5; left; rw [t5]; simp [get_cons]
        · by_cases k6 : k = 6
          · subst k6; left; rw [t6]; simp [get_cons]
          · right; simp [get_cons, Ne.symm k0, Ne.symm k5, Ne.symm k6]; rfl) step2
    have last : ∀ (tm : List (Nat × V)), get tm 0 = .d (.str s) → get tm 5 = .d (strsD sy28) → get tm 6 = .d (.int .i64 (i : Int)) → WC P (gl W) (.region f28.r10) ⟨58, tm, []⟩ (fun e σ' => match e with | .normal => ∃ a' : {i : Nat // i ≤ 14}, 14 - a'.1 < 14 - i ∧ cleanSt [0, 5, 6] 0 σ' = some (I28 s a'.1) | _ => False) := fun tm t0 t5 t6 => WC.weak (tm2 := [(0, .d (.str s)), (5, .d (strsD sy28)), (6, .d (.int .i64 (i : Int)))]) (fun k => by
      by_cases k0 : k = 0
      · subst k0; left; rw [t0]; simp [get_cons]
      · by_cases k5 : k = 5
        · subst k5; left; rw [t5]; simp [get_cons]
        · by_cases k6 : k = 6
          · subst k6; left; rw [t6]; simp [get_cons]
          · right; simp [get_cons, Ne.symm k0, Ne.symm k5, Ne.symm k6]; rfl) (WC.reg (own := []) (by simp [f28.r10, runO, hw]; rfl) ⟨⟨i + 1, by omega⟩, by simp; omega, rfl⟩)
    have fin : ∀ (e : Ex) (s' : St), (e = .normal ∧ ∃ tm, s' = ⟨58, tm, []⟩ ∧ get tm 0 = .d (.str s) ∧ get tm 5 = .d (strsD sy28) ∧ get tm 6 = .d (.int .i64 (i : Int))) → e = .normal ∧ WC P (gl W) (.region f28.r10) s' (fun e σ' => match e with | .normal => ∃ a' : {i : Nat // i ≤ 14}, 14 - a'.1 < 14 - i ∧ cleanSt [0, 5, 6] 0 σ' = some (I28 s a'.1) | _ => False) := by
      rintro e s' ⟨rfl, tm, rfl, t0, t5, t6⟩
      exact ⟨rfl, last tm t0 t5 t6⟩
    cases o1 with
    | true =>
      have e1' := e1 rfl
      refine WC.seq (WC.reg (own := []) (by simp [f28.r5, runO, e1']; rfl) ?_)
      refine WC.cond (t := false) (by simp [evo, get_cons, e1']) (WC.skip ?_)
      refine (step1 _ (by simp [get_cons]) (by simp [get_cons, strsD]) (by simp [get_cons])).mono ?_
      intro e s' he
      obtain ⟨rfl, hl⟩ := fin e s' he
      exact hl.mono fun e2 s2 h2 => by cases e2 with | normal => exact h2 | exit i => exact h2.elim | ret => exact h2.elim
    | false =>
      refine WC.seq (WC.reg (own := []) (by simp [f28.r5, runO]; rfl) ?_)
      refine WC.cond (t := false) (by simp [evo, get_cons]) (WC.skip ?_)
      refine (step1 _ (by simp [get_cons]) (by simp [get_cons, strsD]) (by simp [get_cons])).mono ?_
      intro e s' he
      obtain ⟨rfl, hl⟩ := fin e s' he
      exact hl.mono fun e2 s2 h2 => by cases e2 with | normal => exact h2 | exit i => exact h2.elim | ret => exact h2.elim
  · refine WC.cond (t := false) (by simp [evo, get_cons]; omega) (WC.exit ?_)
    refine (if_pos rfl).mpr ?_
    refine WC.seq (WC.reg (own := []) (by simp [f28.r12, runO]; rfl) (WC.ret ?_))
    simp [resV, f28, mapO, resOne, get_cons, deepV, deepA]
    rfl
end Fw.Tz
