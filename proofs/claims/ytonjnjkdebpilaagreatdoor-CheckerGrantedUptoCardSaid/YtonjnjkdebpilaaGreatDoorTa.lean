/-
  The library's functions of this program, as calls that touch nothing.
-/
import Derived.Test.YtonjnjkdebpilaaGreatDoorFe
import Derived.Test.YtonjnjkdebpilaaGreatDoorShelf

set_option linter.unusedSimpArgs false
namespace Fw.Tz
open Go Go.Proofs Go.RowKit Go.Lib
noncomputable abbrev P : Program := Tryz.prog
structure W0 (W : World) : Prop where
  size : 6 < W.heap.size
  maxLen : ∃ m, W.cell? ⟨0, 0, none⟩ = some (.int .i64 m)
  pow10 : Lib.TabIs Tryz.prog W "internal/strconv.uint64pow10" .u64 Lib.pow10Tab
  asc : Lib.TabIs Tryz.prog W "strings.asciiSpace" .u8 Lib.asciiSpaceTab
  synt : ∃ ev, W.cell? ⟨2, 0, none⟩ = some ev ∧ (ev = .nilIface ∨ ∃ te pe, ev = .iface te pe)
  rng : ∃ ev, W.cell? ⟨3, 0, none⟩ = some ev ∧ (ev = .nilIface ∨ ∃ te pe, ev = .iface te pe)
def gl (W : World) : GLT := ⟨fun _ => none, W⟩
section
variable {W : World}
theorem globs_cell {g : G} {w : World} (hg : Globs (gl W) g w) {k o : Nat} (hk : k < W.heap.size) : w.cell? ⟨k, o, none⟩ = W.cell? ⟨k, o, none⟩ := by
  have := (hg.w0 k hk).2
  simp only [gl] at this
  simp [World.cell?, this]
theorem var_at {name : String} {n : Nat} (hn : Tryz.prog.globalNamed name = some n) {w w' : World} (h : w.heap[n]? = w'.heap[n]?) : w.var? Tryz.prog name = w'.var? Tryz.prog name := by
  simp only [World.var?, hn, Option.bind_some, h]
theorem globs_var {g : G} {w : World} (hg : Globs (gl W) g w) {name : String} {n : Nat} (hn : Tryz.prog.globalNamed name = some n) (hk : n < W.heap.size) : w.var? Tryz.prog name = W.var? Tryz.prog name :=
  var_at hn (hg.w0 n hk).2
theorem ascii_at (hW : W0 W) (hA : Lib.TabIs Tryz.prog W "strings.asciiSpace" .u8 Lib.asciiSpaceTab) {g : G} {w : World} (hg : Globs (gl W) g w) : Lib.TabIs Tryz.prog w "strings.asciiSpace" .u8 Lib.asciiSpaceTab := by
  unfold Lib.TabIs
  rw [globs_var hg (n := 1) (by kernel_rfl) (by have := hW.size; omega)]
  exact hA
theorem pow10_at (hW : W0 W) {g : G} {w : World} (hg : Globs (gl W) g w) : Lib.TabIs Tryz.prog w "internal/strconv.uint64pow10" .u64 Lib.pow10Tab := by
  unfold Lib.TabIs
  rw [globs_var hg (n := 5) (by kernel_rfl) (by have := hW.size; omega)]
  exact hW.pow10
theorem maxLen_at (hW : W0 W) {g : G} {w : World} (hg : Globs (gl W) g w) : ∃ m, w.cell? ⟨0, 0, none⟩ = some (.int .i64 m) := by
  obtain ⟨m, hm⟩ := hW.maxLen
  exact ⟨m, by rw [globs_cell hg (by have := hW.size; omega)]; exact hm⟩
theorem c77 : callable P 77 = true := by kernel_rfl
theorem c249 : callable P 249 = true := by kernel_rfl
theorem c140 : callable P 140 = true := by kernel_rfl
theorem c235 : callable P 235 = true := by kernel_rfl
theorem c195 : callable P 195 = true := by kernel_rfl
theorem c55 : callable P 55 = true := by kernel_rfl
theorem c139 : callable P 139 = true := by kernel_rfl
theorem c143 : callable P 143 = true := by kernel_rfl
theorem c247 : callable P 247 = true := by kernel_rfl
theorem c244 : callable P 244 = true := by kernel_rfl
theorem c79 : callable P 79 = true := by kernel_rfl
theorem c78 : callable P 78 = true := by kernel_rfl
theorem p_HasPrefix (s p : List UInt8) : PC P (gl W) 77 [.d (.str s), .d (.str p)] (.d (.bool (Lib.hasPrefix s p))) := by
  refine PC.ofCalls c77 fun g w vs hvs hg => ?_
  obtain ⟨x, y, rfl, h1, h2⟩ := hvs.two_inv
  obtain ⟨b, rfl, rfl⟩ := h1.str_inv
  obtain ⟨c, rfl, rfl⟩ := h2.str_inv
  refine (Tryz.strings_HasPrefix b c w).mono ?_
  rintro e w' ⟨rfl, rfl⟩
  exact ⟨_, rfl, Below.refl _ _, fun _ _ => RV.mkB _⟩
theorem p_TrimSuffix (s p : List UInt8) (hs : s.length ≤ 9223372036854775807) : PC P (gl W) 249 [.d (.str s), .d (.str p)] (.d (.str (Lib.trimSuffix s p))) := by
  refine PC.ofCalls c249 fun g w vs hvs hg => ?_
  obtain ⟨x, y, rfl, h1, h2⟩ := hvs.two_inv
  obtain ⟨b, rfl, rfl⟩ := h1.str_inv
  obtain ⟨c, rfl, rfl⟩ := h2.str_inv
  refine (Tryz.strings_TrimSuffix b c w (by rw [Lib.size_eq]; exact hs)).mono ?_
  rintro e w' ⟨rfl, rfl⟩
  exact ⟨_, rfl, Below.refl _ _, fun _ _ => RV.str_mk _⟩
theorem p_CutPrefix (s p : List UInt8) : PC P (gl W) 140 [.d (.str s), .d (.str p)] (.tuple [.d (.str (Lib.trimPrefix s p)), .d (.bool (Lib.hasPrefix s p))]) := by
  refine PC.ofCalls c140 fun g w vs hvs hg => ?_
  obtain ⟨x, y, rfl, h1, h2⟩ := hvs.two_inv
  obtain ⟨b, rfl, rfl⟩ := h1.str_inv
  obtain ⟨c, rfl, rfl⟩ := h2.str_inv
  refine (Tryz.strings_CutPrefix b c w).mono ?_
  rintro e w' ⟨rfl, rfl⟩
  refine ⟨_, rfl, Below.refl _ _, fun _ _ => ?_⟩
  simp only [RV]
  exact ⟨_, rfl, RV.str_mk _, RV.mkB _, trivial⟩
theorem p_CutSuffix (s p : List UInt8) (hs : s.length ≤ 9223372036854775807) : PC P (gl W) 235 [.d (.str s), .d (.str p)] (.tuple [.d (.str (Lib.trimSuffix s p)), .d (.bool (Lib.hasSuffix s p))]) := by
  refine PC.ofCalls c235 fun g w vs hvs hg => ?_
  obtain ⟨x, y, rfl, h1, h2⟩ := hvs.two_inv
  obtain ⟨b, rfl, rfl⟩ := h1.str_inv
  obtain ⟨c, rfl, rfl⟩ := h2.str_inv
  refine (Tryz.strings_CutSuffix b c w (by rw [Lib.size_eq]; exact hs)).mono ?_
  rintro e w' ⟨rfl, rfl⟩
  refine ⟨_, rfl, Below.refl _ _, fun _ _ => ?_⟩
  simp only [RV]
  exact ⟨_, rfl, RV.str_mk _, RV.mkB _, trivial⟩
theorem p_IndexByte (s : List UInt8) (c : Int) : PC P (gl W) 195 [.d (.str s), .d (.int .u8 c)] (.d (.int .i64 (Lib.indexByte s c.toNat.toUInt8))) := by
  refine PC.ofCalls c195 fun g w vs hvs hg => ?_
  obtain ⟨x, y, rfl, h1, h2⟩ := hvs.two_inv
  obtain ⟨b, rfl, rfl⟩ := h1.str_inv
  obtain rfl := h2.int_inv
  refine (Tryz.strings_IndexByte b c w).mono ?_
  rintro e w' ⟨rfl, rfl⟩
  exact ⟨_, rfl, Below.refl _ _, fun _ _ => RV.mkI _ _⟩
theorem p_Cut (hW : W0 W) (s p : List UInt8) (hs : s.length < 4294967281) : PC P (gl W) 55 [.d (.str s), .d (.str p)] (.tuple [.d (.str (Lib.cut s p).1), .d (.str (Lib.cut s p).2.1), .d (.bool (Lib.cut s p).2.2)]) := by
  refine PC.ofCalls c55 fun g w vs hvs hg => ?_
  obtain ⟨x, y, rfl, h1, h2⟩ := hvs.two_inv
  obtain ⟨b, rfl, rfl⟩ := h1.str_inv
  obtain ⟨c, rfl, rfl⟩ := h2.str_inv
  obtain ⟨m, hm⟩ := maxLen_at hW hg
  refine (Tryz.strings_Cut b c m w (by rw [Lib.size_eq]; exact hs) hm).mono ?_
  rintro e w' ⟨rfl, n, rfl⟩
  refine ⟨_, rfl, Below.ofDrewN w n, fun _ _ => ?_⟩
  simp only [RV, RVs]
  exact ⟨_, rfl, RV.str_mk _, RV.str_mk _, RV.mkB _, trivial⟩
theorem splitB_len (sep : ByteArray) (h1 : 1 ≤ sep.size) : ∀ (n : Nat) (s : ByteArray), Lib.countB s sep = n → (Lib.splitB sep 0 n s).length = n + 1
  | 0, _, _ => rfl
  | n + 1, s, h => by
    rcases Lib.indexB_cases s sep with hix | ⟨i, hix, _⟩
    · rw [Lib.countB_miss s sep hix] at h; omega
    · have := Lib.countB_hit s sep i h1 hix
      rw [Lib.splitB_hit sep 0 n s i hix, List.length_cons, splitB_len sep h1 n _ (by omega)]
theorem p_Split (hW : W0 W) (s p : List UInt8) (hs : s.length < 4294967281) (hp : 1 ≤ p.length) : PC P (gl W) 143 [.d (.str s), .d (.str p)] (.d (strsD (Lib.split s p))) := by
  refine PC.ofCalls c143 fun g w vs hvs hg => ?_
  obtain ⟨x, y, rfl, h1, h2⟩ := hvs.two_inv
  obtain ⟨b, rfl, rfl⟩ := h1.str_inv
  obtain ⟨c, rfl, rfl⟩ := h2.str_inv
  obtain ⟨m, hm⟩ := maxLen_at hW hg
  refine (Tryz.strings_Split b c m w (by rw [Lib.size_eq]; exact hs) hm (by rw [Lib.size_eq]; exact hp)).mono ?_
  rintro e w' ⟨rfl, rfl⟩
  refine ⟨_, rfl, (Below.refl _ _).alloc (Nat.le_refl _) _, fun _ hnew => ?_⟩
  have := RV.strs_new (g := g) (w := w) (Lib.splitB c 0 (Lib.countB b c) b) 9 (0, 0) (Lib.countB b c + 1) (splitB_len c (by rw [Lib.size_eq]; exact hp) _ b rfl).symm (hnew _ (Nat.le_refl _) (by simp))
  rw [Lib.splitB_data] at this
  exact this
theorem p_Fields (hW : W0 W) (hA : Lib.TabIs Tryz.prog W "strings.asciiSpace" .u8 Lib.asciiSpaceTab) (s : List UInt8) (hs : s.length < 4294967281) (ha : ∀ (j : Nat) b, s[j]? = some b → b.toNat < 128) : PC P (gl W) 139 [.d (.str s)] (.d (strsD (Lib.fields s))) := by
  refine PC.ofCalls c139 fun g w vs hvs hg => ?_
  obtain ⟨x, rfl, h1⟩ := hvs.one_inv
  obtain ⟨b, rfl, rfl⟩ := h1.str_inv
  refine (Tryz.strings_Fields b w (by rw [Lib.size_eq]; exact hs) ha (ascii_at hW hA hg)).mono ?_
  rintro e w' ⟨rfl, rfl⟩
  refine ⟨_, rfl, (Below.refl _ _).alloc (Nat.le_refl _) _, fun _ hnew => ?_⟩
  have := RV.strs_new (g := g) (w := w) ((Lib.fields b.data.toList).map fun l => ⟨l.toArray⟩) 9 (0, 0) (Lib.fields b.data.toList).length (by simp) (by simpa [Function.comp_def] using hnew _ (Nat.le_refl _) (by simp))
  simpa [Function.comp_def] using this
theorem p_Join (l : List (List UInt8)) (p : List UInt8) (hl : l.length ≤ 140737488355328) (hlen : (Lib.join l p).length ≤ 140737488355328) : PC P (gl W) 247 [.d (strsD l), .d (.str p)] (.d (.str (Lib.join l p))) := by
  refine PC.ofCalls c247 fun g w vs hvs hg => ?_
  obtain ⟨x, y, rfl, h1, h2⟩ := hvs.two_inv
  obtain ⟨c, rfl, rfl⟩ := h2.str_inv
  rcases h1.strs_inv with ⟨rfl, a, cc, rfl⟩ | ⟨blk, off, cap, xs, hne, rfl, hcap, hblk, rfl, hc⟩
  · refine (Tryz.strings_Join_none a cc c w).mono ?_
    rintro e w' ⟨rfl, rfl⟩
    exact ⟨_, rfl, Below.refl _ _, fun _ _ => by simp [RV, Rd, Lib.join]⟩
  · refine (Tryz.strings_Join blk off cap xs c w hc hblk (by simpa using hl) hcap hlen).mono ?_
    rintro e w' ⟨rfl, hb⟩
    exact ⟨_, rfl, hb, fun _ _ => RV.str_mk _⟩
theorem p_JoinN (p : List UInt8) : PC P (gl W) 247 [.nils, .d (.str p)] (.d (.str [])) := by
  refine PC.ofCalls c247 fun g w vs hvs hg => ?_
  obtain ⟨x, y, rfl, h1, h2⟩ := hvs.two_inv
  obtain ⟨c, rfl, rfl⟩ := h2.str_inv
  simp only [RV] at h1; subst h1
  refine (Tryz.strings_Join_none _ 0 c w).mono ?_
  rintro e w' ⟨rfl, rfl⟩
  exact ⟨_, rfl, Below.refl _ _, fun _ _ => by simp [RV, Rd]⟩
theorem p_TrimLeft (s : List UInt8) (c : UInt8) (hc : c.toNat < 128) : PC P (gl W) 244 [.d (.str s), .d (.str [c])] (.d (.str (Lib.trimLeftB s c))) := by
  refine PC.ofCalls c244 fun g w vs hvs hg => ?_
  obtain ⟨x, y, rfl, h1, h2⟩ := hvs.two_inv
  obtain ⟨b, rfl, rfl⟩ := h1.str_inv
  obtain ⟨q, rfl, hq⟩ := h2.str_inv
  obtain rfl : q = ⟨#[c]⟩ := by
    apply ByteArray.ext
    exact Array.toList_inj.1 (by simpa using hq)
  refine (Tryz.strings_TrimLeft_one b c hc w).mono ?_
  rintro e w' ⟨rfl, rfl⟩
  exact ⟨_, rfl, Below.refl _ _, fun _ _ => RV.str_mk _⟩
theorem p_Itoa (hW : W0 W) (n : Int) (h0 : -9223372036854775808 ≤ n) (h1 : n ≤ 9223372036854775807) : PC P (gl W) 79 [.d (.int .i64 n)] (.d (.str (Lib.itoa n))) := by
  refine PC.ofCalls c79 fun g w vs hvs hg => ?_
  obtain ⟨x, rfl, k1⟩ := hvs.one_inv
  obtain rfl := k1.int_inv
  refine (Tryz.strconv_Itoa n h0 h1 w (pow10_at hW hg)).mono ?_
  rintro e w' ⟨rfl, k, os, rfl⟩
  exact ⟨_, rfl, Below.ofGrow (Below.ofDrewN w k) os, fun _ _ => RV.str_mk _⟩
def atoiV (s : List UInt8) : V := match Lib.atoiAll s with
  | .ok v => .tuple [.d (.int .i64 v), .nili]
  | .range=>.tuple [.d (.int .i64 (Lib.atoiSat s)), .someIface]
  | _=>.tuple [.d (.int .i64 0), .someIface]
theorem p_Atoi (hW : W0 W) (s : List UInt8) (hs : s.length ≤ 281474976710656) : PC P (gl W) 78 [.d (.str s)] (atoiV s) := by
  refine PC.ofCalls c78 fun g w vs hvs hg => ?_
  obtain ⟨x, rfl, k1⟩ := hvs.one_inv
  obtain ⟨b, rfl, rfl⟩ := k1.str_inv
  have hsz : b.size ≤ 281474976710656 := by rw [Lib.size_eq]; exact hs
  unfold atoiV
  rcases hA : Lib.atoiAll b.data.toList with v | _ | _
  · refine (Tryz.strconv_Atoi_ok b (by omega) v hA w).mono ?_
    rintro e w' ⟨rfl, hw⟩
    refine ⟨_, rfl, ?_, fun _ _ => ?_⟩
    · rcases hw with rfl | ⟨t, rfl⟩
      · exact Below.refl _ _
      · exact Lib.bytesWorld_below _ _ _
    · simp only [RV, RVs]
      exact ⟨_, rfl, RV.mkI _ _, rfl, trivial⟩
  · obtain ⟨ev, he1, he2⟩ := hW.synt
    refine (Tryz.strconv_Atoi_syntax b hsz hA ev w (by rw [globs_cell hg (by have := hW.size; omega)]; exact he1) he2).mono ?_
    rintro e w' ⟨N, rfl, hN, _, hb⟩
    refine ⟨_, rfl, hb, fun _ _ => ?_⟩
    simp only [RV, RVs]
    exact ⟨_, rfl, RV.mkI _ _, ⟨_, _, rfl⟩, trivial⟩
  · obtain ⟨ev, he1, he2⟩ := hW.rng
    refine (Tryz.strconv_Atoi_range b hsz hA ev w (by rw [globs_cell hg (by have := hW.size; omega)]; exact he1) he2).mono ?_
    rintro e w' ⟨N, rfl, hN, _, hb⟩
    refine ⟨_, rfl, hb, fun _ _ => ?_⟩
    simp only [RV, RVs]
    exact ⟨_, rfl, RV.mkI _ _, ⟨_, _, rfl⟩, trivial⟩
end
end Fw.Tz

/-
  slices.Clone of an empty row; slices.Grow of nil: for any element.
-/
set_option maxRecDepth 100000
namespace Fw.Tz
open Go Go.Proofs
variable {W : World}
def cloneT (sz bytes : Nat) : IFn := ⟨1, 8, [.t 2], (.seq (.region [⟨some 2, .mv (.c .nils), none, []⟩]) (.seq (.seq (.region [⟨some 3, .mv (.t 0), none, []⟩, ⟨some 4, .eq false .slice (.t 3) (.c .nils), none, []⟩]) (.cond (.t 4) (.seq (.region [⟨some 2, .mv (.c .nils), none, []⟩]) .ret) .skip)) (.seq (.region [⟨some 5, .mkSlice sz 0 [] [], none, []⟩, ⟨some 6, .mv (.t 0), none, []⟩, ⟨some 7, .append sz bytes (.t 5) (.t 6), none, []⟩, ⟨some 2, .mv (.t 7), none, []⟩]) .ret)))⟩
theorem clone_nil {f sz bytes : Nat} (hs : 0 < sz) (hf : compFn P f = some (cloneT sz bytes)) (hc : callable P f = true) : PC P (gl W) f [.d (.list [])] (.d (.list [])) := by
  have h0 : sz ≠ 0 := by omega
  refine PC.ofE rfl (WF.body hf hc (by simp [cloneT]) ?_)
  simp only [cloneT, mkTm]
  refine WC.seq (WC.reg (own := []) (by simp [runO, asData, guardB, eff, evo, get_cons, put_cons, put_nil, stput_some, happ, cloneT]; rfl) ?_)
  refine WC.seq (WC.seq (WC.regN 1 (own := []) (by simp [runO, asData, guardB, eff, evo, get_cons, put_cons, put_nil, stput_some, happ]; rfl) ?_))
  refine WO.eqEmpty (x := .t 3) (y := .c .nils) rfl rfl (by simp [evo, get_cons]) (by simp [evo, get_cons]) fun b => ?_
  refine ⟨_, by simp [put_cons, put_nil, stput_some]; rfl, WO.nil ?_⟩
  cases b with
  | true =>
    refine WC.cond (t := true) (by simp [evo, get_cons]) ?_
    refine WC.seq (WC.reg (own := []) (by simp [runO, asData, guardB, eff, evo, get_cons, put_cons, put_nil, stput_some, happ]; rfl) (WC.ret ?_))
    exact ⟨.nils, by simp [resV, cloneT, mapO, resOne, get_cons], .inl (by simp)⟩
  | false =>
    refine WC.cond (t := false) (by simp [evo, get_cons]) (WC.skip ?_)
    refine WC.seq (WC.reg (own := [5]) (by
      simp [runO, asData, inO, guardB, eff, effF, evo, get_cons, put_cons, put_nil, stput_some, happ, sliceC, appendV, nbeq, nble, hget, okC, roomB, fillC, hput, h0]
      try rfl) (WC.ret ?_))
    exact ⟨_, by simp [resV, cloneT, mapO, resOne, get_cons]; rfl, .inr (by simp [deepV, deepA, deepC, deepFuel, hget, mapO, chunk, nbeq, nble])⟩
def growT (sz bytes ti : Nat) (z : List V) : IFn := ⟨2, 27, [.t 4], (.seq (.region [⟨some 4, .mv (.c .nils), none, []⟩]) (.seq (.seq (.region [⟨some 5, .mv (.t 1), none, []⟩, ⟨some 6, .bin .lss (.t 5) (.c (.d (.int .i64 0))), none, []⟩]) (.cond (.t 6) (.region [⟨some 7, .mkiface ti (.c (.d (.str [99, 97, 110, 110, 111, 116, 32, 98, 101, 32, 110, 101, 103, 97, 116, 105, 118, 101]))), none, []⟩, ⟨none, .bad, none, []⟩]) .skip)) (.seq (.seq (.region [⟨some 8, .mv (.t 1), none, []⟩, ⟨some 9, .mv (.t 0), none, []⟩, ⟨some 10, .cap (.t 9), none, []⟩, ⟨some 11, .mv (.t 0), none, []⟩, ⟨some 12, .len .slice (.t 11), none, []⟩, ⟨some 13, .bin .sub (.t 10) (.t 12), none, []⟩, ⟨some 14, .bin .sub (.t 8) (.t 13), none, []⟩, ⟨some 1, .mv (.t 14), none, []⟩]) (.seq (.region [⟨some 15, .mv (.t 1), none, []⟩, ⟨some 16, .bin .gtr (.t 15) (.c (.d (.int .i64 0))), none, []⟩]) (.cond (.t 16) (.region [⟨some 17, .mv (.t 0), none, []⟩, ⟨some 18, .mv (.t 0), none, []⟩, ⟨some 19, .cap (.t 18), none, []⟩, ⟨some 20, .lslice sz (.t 17) none (some (.t 19)), none, []⟩, ⟨some 21, .mv (.t 1), none, []⟩, ⟨some 22, .appendN sz bytes z (.t 20) (.t 21), none, []⟩, ⟨some 23, .mv (.t 0), none, []⟩, ⟨some 24, .len .slice (.t 23), none, []⟩, ⟨some 25, .lslice sz (.t 22) none (some (.t 24)), none, []⟩, ⟨some 0, .mv (.t 25), none, []⟩]) .skip))) (.seq (.region [⟨some 26, .mv (.t 0), none, []⟩, ⟨some 4, .mv (.t 26), none, []⟩]) .ret))))⟩
def growV (sz n : Nat) : V := if n = 0 then .nils else .sl 1 0 0 0 sz
def growH (n : Nat) : Heap := if n = 0 then [] else [none, some (.cells [])]
theorem grow_nil {f sz bytes ti : Nat} {z : List V} (hs : 0 < sz) (hz : z.length = sz) (hzo : z.all okC = true) (hb : bytes ≤ 1000) (hf : compFn P f = some (growT sz bytes ti z)) (hc : callable P f = true) (n : Nat) (hn : n ≤ 1048576) : WF P (gl W) f [.nils, .d (.int .i64 n)] [] (fun v H' => v = growV sz n ∧ H' = growH n) := by
  have hw : IntKind.i64.wrap (n : Int) = n := by rw [IntKind.wrap_i64]; omega
  have hneg : ¬ ((n : Int) < 0) := by omega
  have hw0 : IntKind.i64.wrap 0 = 0 := rfl
  refine WF.tidyRes (WF.body hf hc (by simp [growT]) ?_)
  simp only [growT, mkTm]
  refine WC.seq (WC.reg (own := []) (by simp [runO, asData, guardB, eff, evo, get_cons, put_cons, put_nil, stput_some, happ]; rfl) ?_)
  refine WC.seq (WC.seq (WC.reg (own := []) (by simp [runO, asData, guardB, eff, evo, get_cons, put_cons, put_nil, stput_some, happ, binD, binI, hneg]; rfl) ?_))
  refine WC.cond (t := false) (by simp [evo, get_cons]) (WC.skip ?_)
  refine WC.seq (WC.seq (WC.reg (own := []) (by simp [runO, asData, guardB, eff, evo, get_cons, put_cons, put_nil, stput_some, happ, binD, binI, lenV, hw, hw0]; rfl) ?_))
  refine WC.seq (WC.reg (own := []) (by simp [runO, asData, guardB, eff, evo, get_cons, put_cons, put_nil, stput_some, happ, binD, binI]; rfl) ?_)
  by_cases h0 : n = 0
  · subst h0
    refine WC.cond (t := false) (by simp [evo, get_cons]) (WC.skip ?_)
    refine WC.seq (WC.reg (own := []) (by simp [runO, asData, guardB, eff, evo, get_cons, put_cons, put_nil, stput_some, happ]; rfl) (WC.ret ?_))
    refine ⟨.nils, by simp [resV, mapO, resOne, get_cons], _, Tidy.refl _ _, by simp [get_cons, growV], rfl⟩
  · have hpos : 0 < n := by omega
    have hroom : n * (bytes + 1) ≤ 1099511627776 := Nat.le_trans (Nat.mul_le_mul hn (by omega : bytes + 1 ≤ 1001)) (by decide)
    have hroom2 : n ≤ 1099511627776 := by omega
    refine WC.cond (t := true) (by simp [evo, get_cons]; omega) ?_
    refine WC.reg (own := []) (by
      simp [runO, asData, guardB, eff, evo, get_cons, put_cons, put_nil, stput_some, happ, lenV, bounds, natOf, nbeq, nble, nblt, hpos, hroom, hroom2, roomB, hput, liveB, hget, cutS, hz, hzo, hs]
      rfl) ?_
    refine WC.seq (WC.reg (own := []) (by simp [runO, asData, guardB, eff, evo, get_cons, put_cons, put_nil, stput_some, happ]; rfl) (WC.ret ?_))
    refine ⟨.sl 0 (n * sz) 0 0 sz, by simp [resV, mapO, resOne, get_cons], ⟨1, [(0, .sl 1 0 0 0 sz)], [none, some (.cells [])]⟩, ?_, by simp [get_cons, growV, h0], by simp [growH, h0]⟩
    rcases Tidy.shrink (h := n * sz) (sz := sz) (cs := (List.range (n * sz)).map fun i => z.getD (i % sz) .any) with h | h
    · simpa using h
    · exact absurd (by simp) h
end Fw.Tz
