/-
  The library's functions of this program, as calls that touch nothing.
-/
import Derived.Test.YtlgnmcfckgokdaaGreatDoorFe
import Derived.Test.YtlgnmcfckgokdaaGreatDoorShelf
import Derived.Test.YtlgnmcfckgokdaaGreatDoorIr

namespace Fw.Tz
open Go Go.Proofs Go.RowKit Go.Lib
noncomputable abbrev P : Program := Tryz.prog
structure W0 (W : World) : Prop where
  size : 6 < W.heap.size
  maxLen : ∃ m, W.cell? ⟨2, 0, none⟩ = some (.int .i64 m)
  ascii : Lib.TabIs Tryz.prog W "strings.asciiSpace" .u8 Lib.asciiSpaceTab
  pow10 : Lib.TabIs Tryz.prog W "internal/strconv.uint64pow10" .u64 Lib.pow10Tab
  synt : ∃ ev, W.cell? ⟨4, 0, none⟩ = some ev ∧ (ev = .nilIface ∨ ∃ te pe, ev = .iface te pe)
  rng : ∃ ev, W.cell? ⟨5, 0, none⟩ = some ev ∧ (ev = .nilIface ∨ ∃ te pe, ev = .iface te pe)
def gl (W : World) : GLT := ⟨fun _ => none, W⟩
section
variable {W : World}
theorem globs_cell {g : G} {w : World} (hg : Globs (gl W) g w) {k o : Nat} (hk : k < W.heap.size) : w.cell? ⟨k, o, none⟩ = W.cell? ⟨k, o, none⟩ := by
  have := (hg.w0 k hk).2
  simp only [gl] at this
  simp [World.cell?, this]
theorem var_at {name : String} {n : Nat} (hn : Tryz.prog.globalNamed name = some n) {w w' : World} (h : w.heap[n]? = w'.heap[n]?) : w.var? Tryz.prog name = w'.var? Tryz.prog name := by
  simp only [World.var?, hn, Option.bind_some, h]
theorem globs_var {g : G} {w : World} (hg : Globs (gl W) g w) {name : String} {n : Nat} (hn : Tryz.prog.globalNamed name = some n) (hk : n < W.heap.size) : w.var? Tryz.prog name = W.var? Tryz.prog name :=
  var_at hn (hg.w0 n hk).2
theorem ascii_at (hW : W0 W) {g : G} {w : World} (hg : Globs (gl W) g w) : Lib.TabIs Tryz.prog w "strings.asciiSpace" .u8 Lib.asciiSpaceTab := by
  unfold Lib.TabIs
  rw [globs_var hg (n := 0) (by kernel_rfl) (by have := hW.size; omega)]
  exact hW.ascii
theorem pow10_at (hW : W0 W) {g : G} {w : World} (hg : Globs (gl W) g w) : Lib.TabIs Tryz.prog w "internal/strconv.uint64pow10" .u64 Lib.pow10Tab := by
  unfold Lib.TabIs
  rw [globs_var hg (n := 3) (by kernel_rfl) (by have := hW.size; omega)]
  exact hW.pow10
theorem maxLen_at (hW : W0 W) {g : G} {w : World} (hg : Globs (gl W) g w) : ∃ m, w.cell? ⟨2, 0, none⟩ = some (.int .i64 m) := by
  obtain ⟨m, hm⟩ := hW.maxLen
  exact ⟨m, by rw [globs_cell hg (by have := hW.size; omega)]; exact hm⟩
theorem c122 : callable P 122 = true := by kernel_rfl
theorem c206 : callable P 206 = true := by kernel_rfl
theorem c97 : callable P 97 = true := by kernel_rfl
theorem c193 : callable P 193 = true := by kernel_rfl
theorem c156 : callable P 156 = true := by kernel_rfl
theorem c96 : callable P 96 = true := by kernel_rfl
theorem c58 : callable P 58 = true := by kernel_rfl
theorem c100 : callable P 100 = true := by kernel_rfl
theorem c204 : callable P 204 = true := by kernel_rfl
theorem c202 : callable P 202 = true := by kernel_rfl
theorem c64 : callable P 64 = true := by kernel_rfl
theorem c123 : callable P 123 = true := by kernel_rfl
theorem c61 : callable P 61 = true := by kernel_rfl
theorem sz_eq {b : ByteArray} {s : List UInt8} (h : b.data.toList = s) : b.size = s.length := by rw [← h]; exact Lib.size_eq b
theorem p_HasPrefix (s p : List UInt8) : PC P (gl W) 122 [.d (.str s), .d (.str p)] (.d (.bool (Lib.hasPrefix s p))) := by
  refine PC.ofCalls c122 fun g w vs hvs hg => ?_
  obtain ⟨x, y, rfl, h1, h2⟩ := hvs.two_inv
  obtain ⟨b, rfl, rfl⟩ := h1.str_inv
  obtain ⟨c, rfl, rfl⟩ := h2.str_inv
  refine (Tryz.strings_HasPrefix b c w).mono ?_
  rintro e w' ⟨rfl, rfl⟩
  exact ⟨_, rfl, Below.refl _ _, fun _ _ => RV.mkB _⟩
theorem p_TrimSuffix (s p : List UInt8) (hs : s.length ≤ 9223372036854775807) : PC P (gl W) 206 [.d (.str s), .d (.str p)] (.d (.str (Lib.trimSuffix s p))) := by
  refine PC.ofCalls c206 fun g w vs hvs hg => ?_
  obtain ⟨x, y, rfl, h1, h2⟩ := hvs.two_inv
  obtain ⟨b, rfl, rfl⟩ := h1.str_inv
  obtain ⟨c, rfl, rfl⟩ := h2.str_inv
  refine (Tryz.strings_TrimSuffix b c w (by rw [Lib.size_eq]; exact hs)).mono ?_
  rintro e w' ⟨rfl, rfl⟩
  exact ⟨_, rfl, Below.refl _ _, fun _ _ => RV.str_mk _⟩
theorem p_CutPrefix (s p : List UInt8) : PC P (gl W) 97 [.d (.str s), .d (.str p)] (.tuple [.d (.str (Lib.trimPrefix s p)), .d (.bool (Lib.hasPrefix s p))]) := by
  refine PC.ofCalls c97 fun g w vs hvs hg => ?_
  obtain ⟨x, y, rfl, h1, h2⟩ := hvs.two_inv
  obtain ⟨b, rfl, rfl⟩ := h1.str_inv
  obtain ⟨c, rfl, rfl⟩ := h2.str_inv
  refine (Tryz.strings_CutPrefix b c w).mono ?_
  rintro e w' ⟨rfl, rfl⟩
  refine ⟨_, rfl, Below.refl _ _, fun _ _ => ?_⟩
  simp only [RV]
  exact ⟨_, rfl, RV.str_mk _, RV.mkB _, trivial⟩
theorem p_CutSuffix (s p : List UInt8) (hs : s.length ≤ 9223372036854775807) : PC P (gl W) 193 [.d (.str s), .d (.str p)] (.tuple [.d (.str (Lib.trimSuffix s p)), .d (.bool (Lib.hasSuffix s p))]) := by
  refine PC.ofCalls c193 fun g w vs hvs hg => ?_
  obtain ⟨x, y, rfl, h1, h2⟩ := hvs.two_inv
  obtain ⟨b, rfl, rfl⟩ := h1.str_inv
  obtain ⟨c, rfl, rfl⟩ := h2.str_inv
  refine (Tryz.strings_CutSuffix b c w (by rw [Lib.size_eq]; exact hs)).mono ?_
  rintro e w' ⟨rfl, rfl⟩
  refine ⟨_, rfl, Below.refl _ _, fun _ _ => ?_⟩
  simp only [RV]
  exact ⟨_, rfl, RV.str_mk _, RV.mkB _, trivial⟩
theorem p_IndexByte (s : List UInt8) (c : Int) : PC P (gl W) 156 [.d (.str s), .d (.int .u8 c)] (.d (.int .i64 (Lib.indexByte s c.toNat.toUInt8))) := by
  refine PC.ofCalls c156 fun g w vs hvs hg => ?_
  obtain ⟨x, y, rfl, h1, h2⟩ := hvs.two_inv
  obtain ⟨b, rfl, rfl⟩ := h1.str_inv
  obtain rfl := h2.int_inv
  refine (Tryz.strings_IndexByte b c w).mono ?_
  rintro e w' ⟨rfl, rfl⟩
  exact ⟨_, rfl, Below.refl _ _, fun _ _ => RV.mkI _ _⟩
theorem p_Cut (hW : W0 W) (s p : List UInt8) (hs : s.length < 4294967281) : PC P (gl W) 96 [.d (.str s), .d (.str p)] (.tuple [.d (.str (Lib.cut s p).1), .d (.str (Lib.cut s p).2.1), .d (.bool (Lib.cut s p).2.2)]) := by
  refine PC.ofCalls c96 fun g w vs hvs hg => ?_
  obtain ⟨x, y, rfl, h1, h2⟩ := hvs.two_inv
  obtain ⟨b, rfl, rfl⟩ := h1.str_inv
  obtain ⟨c, rfl, rfl⟩ := h2.str_inv
  obtain ⟨m, hm⟩ := maxLen_at hW hg
  refine (Tryz.strings_Cut b c m w (by rw [Lib.size_eq]; exact hs) hm).mono ?_
  rintro e w' ⟨rfl, n, rfl⟩
  refine ⟨_, rfl, Below.ofDrewN w n, fun _ _ => ?_⟩
  simp only [RV, RVs]
  exact ⟨_, rfl, RV.str_mk _, RV.str_mk _, RV.mkB _, trivial⟩
theorem splitB_len (sep : ByteArray) (h1 : 1 ≤ sep.size) : ∀ (n : Nat) (s : ByteArray), Lib.countB s sep = n → (Lib.splitB sep 0 n s).length = n + 1
  | 0, _, _ => rfl
  | n + 1, s, h => by
    rcases Lib.indexB_cases s sep with hix | ⟨i, hix, _⟩
    · rw [Lib.countB_miss s sep hix] at h; omega
    · have := Lib.countB_hit s sep i h1 hix
      rw [Lib.splitB_hit sep 0 n s i hix, List.length_cons, splitB_len sep h1 n _ (by omega)]
theorem p_Split (hW : W0 W) (s p : List UInt8) (hs : s.length < 4294967281) (hp : 1 ≤ p.length) : PC P (gl W) 100 [.d (.str s), .d (.str p)] (.d (strsD (Lib.split s p))) := by
  refine PC.ofCalls c100 fun g w vs hvs hg => ?_
  obtain ⟨x, y, rfl, h1, h2⟩ := hvs.two_inv
  obtain ⟨b, rfl, rfl⟩ := h1.str_inv
  obtain ⟨c, rfl, rfl⟩ := h2.str_inv
  obtain ⟨m, hm⟩ := maxLen_at hW hg
  refine (Tryz.strings_Split b c m w (by rw [Lib.size_eq]; exact hs) hm (by rw [Lib.size_eq]; exact hp)).mono ?_
  rintro e w' ⟨rfl, rfl⟩
  refine ⟨_, rfl, (Below.refl _ _).alloc (Nat.le_refl _) _, fun _ hnew => ?_⟩
  have := RV.strs_new (g := g) (w := w) (Lib.splitB c 0 (Lib.countB b c) b) 9 (0, 0) (Lib.countB b c + 1) (splitB_len c (by rw [Lib.size_eq]; exact hp) _ b rfl).symm (hnew _ (Nat.le_refl _) (by simp))
  rw [Lib.splitB_data] at this
  exact this
theorem p_Fields (hW : W0 W) (s : List UInt8) (hs : s.length < 4294967281) (ha : ∀ (j : Nat) b, s[j]? = some b → b.toNat < 128) : PC P (gl W) 58 [.d (.str s)] (.d (strsD (Lib.fields s))) := by
  refine PC.ofCalls c58 fun g w vs hvs hg => ?_
  obtain ⟨x, rfl, h1⟩ := hvs.one_inv
  obtain ⟨b, rfl, rfl⟩ := h1.str_inv
  refine (Tryz.strings_Fields b w (by rw [Lib.size_eq]; exact hs) ha (ascii_at hW hg)).mono ?_
  rintro e w' ⟨rfl, rfl⟩
  refine ⟨_, rfl, (Below.refl _ _).alloc (Nat.le_refl _) _, fun _ hnew => ?_⟩
  have := RV.strs_new (g := g) (w := w) ((Lib.fields b.data.toList).map fun l => ⟨l.toArray⟩) 9 (0, 0) (Lib.fields b.data.toList).length (by simp) (by simpa [Function.comp_def] using hnew _ (Nat.le_refl _) (by simp))
  simpa [Function.comp_def] using this
theorem p_Join (l : List (List UInt8)) (p : List UInt8) (hl : l.length ≤ 140737488355328) (hlen : (Lib.join l p).length ≤ 140737488355328) : PC P (gl W) 204 [.d (strsD l), .d (.str p)] (.d (.str (Lib.join l p))) := by
  refine PC.ofCalls c204 fun g w vs hvs hg => ?_
  obtain ⟨x, y, rfl, h1, h2⟩ := hvs.two_inv
  obtain ⟨c, rfl, rfl⟩ := h2.str_inv
  rcases h1.strs_inv with ⟨rfl, a, cc, rfl⟩ | ⟨blk, off, cap, xs, hne, rfl, hcap, hblk, rfl, hc⟩
  · refine (Tryz.strings_Join_none a cc c w).mono ?_
    rintro e w' ⟨rfl, rfl⟩
    exact ⟨_, rfl, Below.refl _ _, fun _ _ => by simp [RV, Rd, Lib.join]⟩
  · refine (Tryz.strings_Join blk off cap xs c w hc hblk (by simpa using hl) hcap hlen).mono ?_
    rintro e w' ⟨rfl, hb⟩
    exact ⟨_, rfl, hb, fun _ _ => RV.str_mk _⟩
theorem p_JoinN (p : List UInt8) : PC P (gl W) 204 [.nils, .d (.str p)] (.d (.str [])) := by
  refine PC.ofCalls c204 fun g w vs hvs hg => ?_
  obtain ⟨x, y, rfl, h1, h2⟩ := hvs.two_inv
  obtain ⟨c, rfl, rfl⟩ := h2.str_inv
  simp only [RV] at h1; subst h1
  refine (Tryz.strings_Join_none _ 0 c w).mono ?_
  rintro e w' ⟨rfl, rfl⟩
  exact ⟨_, rfl, Below.refl _ _, fun _ _ => by simp [RV, Rd]⟩
theorem p_TrimLeft (s : List UInt8) (c : UInt8) (hc : c.toNat < 128) : PC P (gl W) 202 [.d (.str s), .d (.str [c])] (.d (.str (Lib.trimLeftB s c))) := by
  refine PC.ofCalls c202 fun g w vs hvs hg => ?_
  obtain ⟨x, y, rfl, h1, h2⟩ := hvs.two_inv
  obtain ⟨b, rfl, rfl⟩ := h1.str_inv
  obtain ⟨q, rfl, hq⟩ := h2.str_inv
  obtain rfl : q = ⟨#[c]⟩ := by
    apply ByteArray.ext
    exact Array.toList_inj.1 (by simpa using hq)
  refine (Tryz.strings_TrimLeft_one b c hc w).mono ?_
  rintro e w' ⟨rfl, rfl⟩
  exact ⟨_, rfl, Below.refl _ _, fun _ _ => RV.str_mk _⟩
theorem p_Itoa (hW : W0 W) (n : Int) (h0 : -9223372036854775808 ≤ n) (h1 : n ≤ 9223372036854775807) : PC P (gl W) 64 [.d (.int .i64 n)] (.d (.str (Lib.itoa n))) := by
  refine PC.ofCalls c64 fun g w vs hvs hg => ?_
  obtain ⟨x, rfl, k1⟩ := hvs.one_inv
  obtain rfl := k1.int_inv
  refine (Tryz.strconv_Itoa n h0 h1 w (pow10_at hW hg)).mono ?_
  rintro e w' ⟨rfl, k, os, rfl⟩
  exact ⟨_, rfl, Below.ofGrow (Below.ofDrewN w k) os, fun _ _ => RV.str_mk _⟩
def atoiV (s : List UInt8) : V := match Lib.atoiAll s with
  | .ok v => .tuple [.d (.int .i64 v), .nili]
  | .range=>.tuple [.d (.int .i64 (Lib.atoiSat s)), .someIface]
  | _=>.tuple [.d (.int .i64 0), .someIface]
theorem p_Atoi (hW : W0 W) (s : List UInt8) (hs : s.length ≤ 281474976710656) : PC P (gl W) 123 [.d (.str s)] (atoiV s) := by
  refine PC.ofCalls c123 fun g w vs hvs hg => ?_
  obtain ⟨x, rfl, k1⟩ := hvs.one_inv
  obtain ⟨b, rfl, rfl⟩ := k1.str_inv
  have hsz : b.size ≤ 281474976710656 := by rw [Lib.size_eq]; exact hs
  unfold atoiV
  rcases hA : Lib.atoiAll b.data.toList with v | _ | _
  · refine (Tryz.strconv_Atoi_ok b (by omega) v hA w).mono ?_
    rintro e w' ⟨rfl, hw⟩
    refine ⟨_, rfl, ?_, fun _ _ => ?_⟩
    · rcases hw with rfl | ⟨t, rfl⟩
      · exact Below.refl _ _
      · exact Lib.bytesWorld_below _ _ _
    · simp only [RV, RVs]
      exact ⟨_, rfl, RV.mkI _ _, rfl, trivial⟩
  · obtain ⟨ev, he1, he2⟩ := hW.synt
    refine (Tryz.strconv_Atoi_syntax b hsz hA ev w (by rw [globs_cell hg (by have := hW.size; omega)]; exact he1) he2).mono ?_
    rintro e w' ⟨N, rfl, hN, _, hb⟩
    refine ⟨_, rfl, hb, fun _ _ => ?_⟩
    simp only [RV, RVs]
    exact ⟨_, rfl, RV.mkI _ _, ⟨_, _, rfl⟩, trivial⟩
  · obtain ⟨ev, he1, he2⟩ := hW.rng
    refine (Tryz.strconv_Atoi_range b hsz hA ev w (by rw [globs_cell hg (by have := hW.size; omega)]; exact he1) he2).mono ?_
    rintro e w' ⟨N, rfl, hN, _, hb⟩
    refine ⟨_, rfl, hb, fun _ _ => ?_⟩
    simp only [RV, RVs]
    exact ⟨_, rfl, RV.mkI _ _, ⟨_, _, rfl⟩, trivial⟩
end
end Fw.Tz

/-
  slices.Sort of an own row of strings.
-/
set_option linter.unusedSimpArgs false
namespace Fw.Tz
open Go Go.Proofs Go.RowKit Go.Sort
def sortS (l : List (List UInt8)) : List (List UInt8) := l.mergeSort fun x y => decide (x ≤ y)
def strV (s : List UInt8) : V := .d (.str s)
variable {W : World}
theorem Ext.grow {g : G} {w : World} {H : Heap} (hh : HeapOK g w H) (os : Array Obj) : Ext g w g (Go.Sort.grow w os) ∧ HeapOK g (Go.Sort.grow w os) H := by
  have hk : ∀ k, k < w.heap.size → (Go.Sort.grow w os).heap[k]? = w.heap[k]? := fun k hk => by
    simp only [Go.Sort.grow]; rw [Array.getElem?_append_left hk]
  have he : Ext g w g (Go.Sort.grow w os) := ⟨rfl, rfl, rfl, by simp [Go.Sort.grow], fun k h => ⟨⟨Nat.lt_of_lt_of_le h.1 (by simp [Go.Sort.grow]), h.2⟩, hk k h.1⟩, fun _ h => h, fun _ _ => GB.step.refl _, rfl, fun k h => hk k (hh.fo k h).1⟩
  exact ⟨he, hh.ext he fun b x k hx hkk => hk k (RV.owns hh b x k hx hkk)⟩
theorem sortS_length (l : List (List UInt8)) : (sortS l).length = l.length := by simp [sortS]
theorem w61 (l : List (List UInt8)) (hsz : l.length < 4611686018427387904) :
    WF P (gl W) 61 [.sl 0 l.length 0 l.length 1] [some (.cells (l.map strV))] (fun v H' => v = .tuple [] ∧ H' = [some (.cells ((sortS l).map strV))]) := by
  refine ⟨c61, fun g w vs hvs hh hg => ?_⟩
  obtain ⟨x, rfl, hx⟩ := hvs.one_inv
  have hg0 : hget [some (.cells (l.map strV))] 0 = some (.cells (l.map strV)) := rfl
  obtain ⟨gb, hgb⟩ := hh.back 0 _ hg0
  obtain ⟨hd, y, hy, hr⟩ := hh.live 0 gb hgb
  rw [hg0] at hy; simp only [Option.some.injEq] at hy; subst hy
  simp only [RV] at hx
  have hx2 := hx.2 gb hgb
  cases gb with
  | nil => simp only [RB] at hr
  | obj => simp only [RB] at hr
  | cells blk cp cur =>
    have hlt := hr.lt blk rfl
    have hr0 := hr
    simp only [RB, List.length_map] at hr
    obtain ⟨r1, r2, r3, c, e, r4, r5, r6⟩ := hr
    obtain ⟨cap, rfl, k2, k3⟩ := hx2.2 (by simpa using r1)
    have hval : ∀ j (hj : j < l.length), w.cell? ⟨blk, 0 + j, none⟩ = some (encStr l[j]) := by
      intro j hj
      obtain ⟨v, hv1, hv2⟩ := RVs.get j r6 (u := strV l[j]) (by simp [hj])
      simp only [strV] at hv2
      obtain ⟨b, rfl, hb⟩ := hv2.str_inv
      rw [List.getElem?_take, if_pos hj] at hv1
      simp only [World.cell?, r4, Nat.zero_add]
      have : c[j]? = some (.string b) := by simpa using hv1
      simp only [this]
      rw [← hb]
      congr 2
    have hH : Holds encStr w blk 0 l.toArray := by
      intro j hj
      have hj' : j < l.length := by simpa using hj
      refine ⟨?_, by simp [World.frozen?, r4]⟩
      rw [hval j hj']
      have : l.toArray[j]! = l[j] := by rw [getElem!_pos _ j hj]; simp
      rw [this]
    refine (Tryz.slices_Sort_string blk 0 cap l w hH hlt hsz).mono ?_
    rintro ee w' ⟨rfl, n, os, rfl⟩
    let w1 : World := putRow encStr (Sort.ahead w n) blk 0 (sortS l).toArray
    have hw1 : ∀ j, j ≠ blk → w1.heap[j]? = w.heap[j]? := fun j hj => by
      simp only [w1, putRow, mapBlock, Sort.ahead, Array.getElem?_modify]
      rw [if_neg (Ne.symm hj)]
    have hw2 : w1.heap[blk]? = some (.cells (Go.Sort.putCells encStr 0 (sortS l).toArray c) e (0, 0)) := by
      simp only [w1, putRow, mapBlock, Sort.ahead, Array.getElem?_modify, if_true, r4, Option.map_some, onCells]
    have he1 : Ext g w g w1 := Ext.write hgb rfl (hh.notFo hgb rfl) rfl rfl rfl (by simp [w1, putRow, mapBlock, Sort.ahead]) hw1
    have hh1 : HeapOK g w1 (hput [some (.cells (l.map strV))] 0 (.cells ((sortS l).map strV))) := by
      refine HeapOK.write hh _ hgb rfl he1 hw1 ?_
      simp only [RB, List.length_map, sortS_length]
      refine ⟨r1, by simp [strV, okC], r3, _, e, hw2, by simpa [Go.Sort.putCells] using r5, ?_⟩
      refine RVs.of_get (by simp [Go.Sort.putCells, sortS_length]; omega) fun j u v hu hv => ?_
      simp only [List.getElem?_map, Option.map_eq_some_iff] at hu
      obtain ⟨s, hs, rfl⟩ := hu
      have hj : j < (sortS l).length := (List.getElem?_eq_some_iff.1 hs).1
      have hjl : j < l.length := by rwa [sortS_length] at hj
      rw [List.getElem?_take, if_pos hjl] at hv
      have hcj : j < c.size := by omega
      have hv' : (Go.Sort.putCells encStr 0 (sortS l).toArray c)[j]? = some v := by simpa using hv
      simp only [Go.Sort.putCells, Array.getElem?_mapIdx, Array.getElem?_eq_getElem hcj, Option.map_some, Option.some.injEq] at hv'
      rw [if_pos ⟨Nat.zero_le _, by simpa using hj⟩] at hv'
      subst hv'
      have : (sortS l).toArray[j - 0]! = s := by
        have := (List.getElem?_eq_some_iff.1 hs).2
        rw [getElem!_pos _ (j - 0) (by simpa using hj)]
        simpa using this
      rw [this]
      simp only [strV, RV, Rd]
      exact ⟨_, rfl, by simp⟩
    obtain ⟨he2, hh2⟩ := Ext.grow hh1 os
    refine ⟨_, .tuple [], g, _, rfl, ⟨rfl, rfl⟩, ?_, hh2, he1.trans he2⟩
    simp only [RV]
    exact ⟨#[], rfl, by simp [RVs]⟩
end Fw.Tz

/-
  linear.sum.result: the terms of a sum, in order.
-/
set_option linter.unusedSimpArgs false
set_option maxRecDepth 100000
namespace Fw.Tz
open Go Go.Proofs Fw.X
variable {W : World}
theorem hmix : P.follows .mixedOrders = true := by kernel_rfl
theorem c138 : callable P 138 = true := by kernel_rfl
theorem f138_is : compFn P 138 = some f138 := by kernel_rfl
abbrev Es := List (List UInt8 × Int)
def esM (es : Es) : List (D × V) := es.map fun e => (.str e.1, .d (.int .i64 e.2))
def termsD (es : Es) : D := .list (es.map fun e => [.str e.1, .int .i64 e.2])
def linV (n : Int) (es : Es) : V := .agg [.d (.int .i64 n), .d (termsD es)]
def nm (es : Es) (i : Nat) : Option (List UInt8) := match es[i]? with
  | some (k, c) => if c = 0 then none else some k
  | none => none
def namesOf (es : Es) (seen : List Nat) : List (List UInt8) := seen.filterMap (nm es)
def coefOf (es : Es) (k : List UInt8) : Int := ((es.find? fun e => e.1 == k).map (·.2)).getD 0
def liveNames (es : Es) : List (List UInt8) := (es.filter fun e => decide (e.2 ≠ 0)).map (·.1)
def resTerms (es : Es) : Es := (sortS (liveNames es)).map fun k => (k, coefOf es k)
def linR (n : Int) (t : Es) : V := .agg [.d (.int .i64 n), match t with | [] => .nils | _ => .d (termsD t)]
def resV138 (n : Int) (es : Es) (ok : Bool) : V := if ok then .tuple [linR n (resTerms es), .d (.int .i64 0)] else .tuple [linR 0 [], .d (.int .i64 3)]
theorem linR_ne {n : Int} {t : Es} (h : t ≠ []) : linR n t = linV n t := by cases t <;> simp_all [linR, linV]
def rowOf (b : Nat) (l : List (List UInt8)) : V := match l with | [] => .nils | _ => .sl b l.length 0 l.length 1
def boxOf (l : List (List UInt8)) : Heap := match l with | [] => [] | _ => [some (.cells (l.map strV))]
def I138 (cs : List V) (h off : Nat) (n : Int) (es : Es) (seen : List Nat) : St :=
  ⟨58, [(0, .ptr 0 h off), (2, .ptr 2 2 0), (3, .d (.int .i64 0)), (4, .ptr 3 2 0), (5, rowOf 5 (namesOf es seen)), (19, .iter 4 1)],
   [some (.cells cs), some (.map (esM es)), some (.cells [.d (.int .i64 0), .nils]), some (.cells [.d (.int .i64 n), .nils]), some (.miter 1 es.length seen)] ++ boxOf (namesOf es seen)⟩
theorem load1 {H : Heap} {b h off : Nat} {cs : List V} {v : V} (hb : hget H b = some (.cells cs)) (hl : cs.length = h) (hv : cs[off]? = some v) : loadC H 1 (.ptr b h off) = some [v] := by
  have hlt : off < cs.length := (List.getElem?_eq_some_iff.1 hv).1
  have e1 : (Nat.beq cs.length h && Nat.ble (off + 1) h) = true := by
    subst hl; simp [Nat.ble_eq_true_of_le (show off + 1 ≤ cs.length from hlt)]
  have e2 : (cs.drop off).take 1 = [v] := by
    rw [List.drop_eq_getElem_cons hlt]
    have := (List.getElem?_eq_some_iff.1 hv).2
    simp [this]
  simp only [loadC, hb, e1, cond_true, e2]
theorem all_tt {α : Type} (l : List α) : (l.all fun _ => true) = true := by simp
theorem walk1 {cs : List V} {h off : Nat} {n : Int} {es : Es} (h1 : cs.length = h) (h2 : cs[off]? = some (.d (.int .i64 n))) (h3 : cs[off + 1]? = some (.map 1)) (hcs : refsLtL 2 cs = true) (c d : IR) (Q : Ex → St → Prop)
    (hq : WC P (gl W) c (I138 cs h off n es []) (fun e s => match e with | .normal => WC P (gl W) d s Q | e => Q e s)) : WC P (gl W) (.seq (.region f138.r0) (.seq (.region f138.r1) (.seq (.region f138.r2) (.seq (.seq (.region f138.r3) c) d)))) ⟨58, [(0, .ptr 0 h off)], [some (.cells cs), some (.map (esM es))]⟩ Q := by
  have hcs5 := refsLtL_mono (show 2 ≤ 5 by omega) hcs
  have k1 : ∀ (l : Heap), loadC (some (.cells cs) :: l) 1 (.ptr 0 h off) = some [.d (.int .i64 n)] := fun l => load1 rfl h1 h2
  have k2 : ∀ (l : Heap), loadC (some (.cells cs) :: l) 1 (.ptr 0 h (off + 1)) = some [.map 1] := fun l => load1 rfl h1 h3
  refine WC.seq (WC.reg (own := []) (by simp [f138.r0, runO, asData, guardB, eff, evo, get_cons, put_cons, put_nil, stput_some, stput_none, happ, hput]; rfl) ?_)
  refine WC.seq (WC.reg (own := []) (by simp [f138.r1, runO, asData, guardB, eff, evo, get_cons, put_cons, put_nil, stput_some, stput_none, happ, hput, k1, mkV, fillC, putCells, cellsV, okC, storeC, hget]; rfl) ?_)
  refine WC.seq (WC.reg (own := []) (by simp [f138.r2, runO, asData, guardB, eff, evo, get_cons, put_cons, put_nil, stput_some, stput_none, happ, hput]; rfl) ?_)
  refine WC.seq (WC.seq (WC.reg (own := []) (by simp [f138.r3, runO, asData, guardB, eff, evo, get_cons, put_cons, put_nil, stput_some, stput_none, happ, hput, k2, mkV, hget, esM]; rfl) ?_))
  refine WC.tidy (Tidy.clean (Nat.le_refl _) (keep := [0, 2, 3, 4, 5, 19]) ?_) hq
  simp [cleanSt, keepTm, tmLt, heapLt, refsLt, refsLtL, boxLt, nblt, nbeq, I138, namesOf, rowOf, boxOf, hcs5, esM, putCells, Function.comp_def, all_tt]
theorem nodup_bound {seen : List Nat} {n : Nat} (hn : seen.Nodup) (hb : ∀ i ∈ seen, i < n) : seen.length ≤ n := by
  have : seen.length ≤ (List.range n).length := List.Nodup.length_le_of_subset hn (fun i hi => List.mem_range.2 (hb i hi))
  simpa using this
theorem strV_def (s : List UInt8) : strV s = V.d (D.str s) := rfl
theorem refs_strV (m : Nat) (l : List (List UInt8)) : refsLtL m (l.map strV) = true := by
  induction l with
  | nil => rfl
  | cons x l ih => simp [refsLtL, refsLt, strV]; simpa [strV] using ih
theorem rowOf_ne {b : Nat} {l : List (List UInt8)} (h : l ≠ []) : rowOf b l = .sl b l.length 0 l.length 1 := by cases l <;> simp_all [rowOf]
theorem boxOf_ne {l : List (List UInt8)} (h : l ≠ []) : boxOf l = [some (.cells (l.map strV))] := by cases l <;> simp_all [boxOf]
theorem round1 {cs : List V} {h off : Nat} {n : Int} {es : Es} (hcs : refsLtL 2 cs = true) {seen : List Nat} {i : Nat} {k : List UInt8} {c : Int} (hi : es[i]? = some (k, c)) (hlen : (namesOf es seen).length ≤ 2 ^ 20)
    (Q : Ex → St → Prop) (hq : ∀ σ', Tidy (I138 cs h off n es seen).hp.length σ' (I138 cs h off n es (seen ++ [i])) → Q .normal σ') :
    WC P (gl W) (.seq (.cond (.t 21) .skip (.exit 0)) (.block 1 (.seq (.region f138.r5) (.seq (.region f138.r6) (.cond (.t 26) (.region f138.r7) .skip)))))
      ⟨58, [(0, .ptr 0 h off), (2, .ptr 2 2 0), (3, .d (.int .i64 0)), (4, .ptr 3 2 0), (5, rowOf 5 (namesOf es seen)), (19, .iter 4 1), (20, .tuple [.d (.bool true), .d (.str k), .d (.int .i64 c)]), (21, .d (.bool true))],
        [some (.cells cs), some (.map (esM es)), some (.cells [.d (.int .i64 0), .nils]), some (.cells [.d (.int .i64 n), .nils]), some (.miter 1 es.length (seen ++ [i]))] ++ boxOf (namesOf es seen)⟩ Q := by
  have hcs5 := refsLtL_mono (show 2 ≤ 5 by omega) hcs
  have hcs6 := refsLtL_mono (show 2 ≤ 6 by omega) hcs
  have he : (esM es)[i]? = some (.str k, .d (.int .i64 c)) := by simp [esM, hi]
  have hl : (esM es).length = es.length := by simp [esM]
  have hb5 : ∀ m, ((esM es).all fun p => refsLt m p.2) = true := by intro m; simp [esM, Function.comp_def, refsLt]
  have hn2 : namesOf es (seen ++ [i]) = if c = 0 then namesOf es seen else namesOf es seen ++ [k] := by
    simp only [namesOf, List.filterMap_append, List.filterMap_cons, List.filterMap_nil, nm, hi]
    split <;> simp_all
  refine WC.seq (WC.cond (t := true) (by simp [evo, get_cons]) (WC.skip ?_))
  refine WC.block (WC.seq (WC.reg (own := []) (by simp [f138.r5, runO, asData, guardB, eff, evo, get_cons, put_cons, put_nil, stput_some, stput_none, happ, hget, he, hl, nbeq]; rfl) ?_))
  refine WC.seq (WC.reg (own := []) (by simp [f138.r6, runO, asData, guardB, eff, evo, get_cons, put_cons, put_nil, stput_some, stput_none, happ, binD, binI]; rfl) ?_)
  by_cases hc : c = 0
  · refine WC.cond (t := false) (by simp [evo, get_cons, hc]) (WC.skip ?_)
    refine hq _ (Tidy.clean (Nat.le_refl _) (keep := [0, 2, 3, 4, 5, 19]) ?_)
    rw [if_pos hc] at hn2
    by_cases hN : namesOf es seen = []
    · simp [cleanSt, keepTm, tmLt, heapLt, refsLt, refsLtL, boxLt, nblt, nbeq, I138, hn2, hN, rowOf, boxOf, hcs5, hb5]
    · simp [cleanSt, keepTm, tmLt, heapLt, refsLt, refsLtL, boxLt, nblt, nbeq, I138, hn2, rowOf_ne hN, boxOf_ne hN, hcs6, hb5, refs_strV]
  · refine WC.cond (t := true) (by simp [evo, get_cons, hc]) ?_
    rw [if_neg hc] at hn2
    by_cases hN : namesOf es seen = []
    · refine WC.reg (own := []) (by simp [hN, rowOf, boxOf, f138.r7, runO, asData, inO, effF, fillC, putCells, cellsV, dcells, chunk, okC, guardB, eff, evo, get_cons, put_cons, put_nil, stput_some, stput_none, happ, sliceC, appendV, nbeq, nble, roomB, hput]; rfl) ?_
      refine hq _ (Tidy.clean (n := 6) (by simp [I138, hN, boxOf]) (keep := [0, 2, 3, 4, 5, 19]) ?_)
      simp [cleanSt, keepTm, tmLt, heapLt, refsLt, refsLtL, boxLt, nblt, nbeq, I138, hn2, hN, rowOf, boxOf, hcs6, hb5, strV]
    · have hne : namesOf es seen ++ [k] ≠ [] := by simp
      have hk : strV k = V.d (D.str k) := rfl
      have hlast : refsLtL 6 (List.map strV (namesOf es seen) ++ [V.d (D.str k)]) = true := by simpa [hk] using refs_strV 6 (namesOf es seen ++ [k])
      have hroom : (namesOf es seen).length * 17 + 17 ≤ 1099511627776 := by omega
      have hroom2 : ((namesOf es seen).length + 1) * 17 ≤ 1099511627776 := by omega
      refine WC.reg (own := []) (by simp [rowOf_ne hN, boxOf_ne hN, f138.r7, runO, asData, inO, effF, fillC, putCells, cellsV, dcells, chunk, okC, guardB, eff, evo, get_cons, put_cons, put_nil, stput_some, stput_none, happ, sliceC, appendV, nbeq, nble, roomB, hput, hget, hroom, hroom2]; rfl) ?_
      refine hq _ (Tidy.clean (Nat.le_refl _) (keep := [0, 2, 3, 4, 5, 19]) ?_)
      simp [cleanSt, keepTm, tmLt, heapLt, refsLt, refsLtL, boxLt, nblt, nbeq, I138, hn2, rowOf_ne hN, rowOf_ne hne, boxOf_ne hN, boxOf_ne hne, hcs6, hb5, hlast, hk]
def Seen (es : Es) (seen : List Nat) : Prop := seen.Nodup ∧ ∀ i ∈ seen, i < es.length
theorem loop1 {cs : List V} {h off : Nat} {n : Int} {es : Es} (hcs : refsLtL 2 cs = true) (hsz : es.length ≤ 2 ^ 20) (Q : Ex → St → Prop)
    (hq : ∀ seen, Seen es seen → (∀ i, i < es.length → i ∈ seen) → Q .normal (I138 cs h off n es seen)) : WC P (gl W) (.block 0 (.loop f138.l8)) (I138 cs h off n es []) Q := by
  refine WC.block (WC.loopT (α := {seen // Seen es seen}) (fun s => I138 cs h off n es s.1) (fun s => es.length - s.1.length) ?_ ⟨[], by simp [Seen]⟩ (Tidy.refl _ _))
  rintro ⟨seen, hs⟩
  refine WC.post ?_
  have hlen : (namesOf es seen).length ≤ 2 ^ 20 := Nat.le_trans (Nat.le_trans (List.length_filterMap_le _ _) (nodup_bound hs.1 hs.2)) hsz
  have hl : (esM es).length = es.length := by simp [esM]
  refine WC.seq (WC.region (WO.nextM rfl (by simp [guardB]) (b := 4) (m' := 1) (m := 1) (n := es.length) (seen := seen) (es := esM es) (by simp [evo, I138, get_cons]) (by simp [I138, hget]) (by simp [I138, hget]) hl ?_ ?_))
  · intro i kd v hi hns
    obtain ⟨⟨k, c⟩, he, hkv⟩ : ∃ e, es[i]? = some e ∧ (D.str e.1, V.d (.int .i64 e.2)) = (kd, v) := by simpa [esM] using hi
    simp only [Prod.mk.injEq] at hkv
    obtain ⟨rfl, rfl⟩ := hkv
    have hil : i < es.length := (List.getElem?_eq_some_iff.1 he).1
    refine ⟨_, by simp [I138, stput_some, put_cons, put_nil]; rfl, ?_⟩
    refine WO.eff (v := .d (.bool true)) (wr := none) (by simp [guardB]) (by simp [eff, evo, get_cons]) (by simp [stput_some, put_cons, put_nil, happ]; rfl) (WO.nil ?_)
    have := round1 (W := W) (h := h) (off := off) (n := n) hcs he hlen (fun e s => ∃ s', Tidy (I138 cs h off n es seen).hp.length s s' ∧ match e with
      | .normal => ∃ a' : {seen // Seen es seen}, es.length - a'.1.length < es.length - seen.length ∧ Tidy (I138 cs h off n es seen).hp.length s' (I138 cs h off n es a'.1)
      | e => match e with | .exit i => if i = 0 then Q .normal s' else Q (.exit i) s' | e => Q e s')
      (fun σ' ht => ⟨σ', Tidy.refl _ _, ⟨seen ++ [i], by
        refine ⟨List.nodup_append.2 ⟨hs.1, by simp, ?_⟩, ?_⟩
        · intro a ha b hb
          simp at hb; subst hb
          rintro rfl
          exact hns ha
        · intro j hj
          rcases List.mem_append.1 hj with hj | hj
          · exact hs.2 j hj
          · simp at hj; omega⟩, by
        have : (seen ++ [i]).length ≤ es.length := by
          refine nodup_bound (List.nodup_append.2 ⟨hs.1, by simp, ?_⟩) ?_
          · intro a ha b hb
            simp at hb; subst hb
            rintro rfl
            exact hns ha
          · intro j hj
            rcases List.mem_append.1 hj with hj | hj
            · exact hs.2 j hj
            · simp at hj; omega
        simp at this ⊢; omega, ht⟩)
    exact this
  · intro hall
    refine ⟨_, by simp [I138, stput_some, put_cons, put_nil]; rfl, ?_⟩
    refine WO.eff (v := .d (.bool false)) (wr := none) (by simp [guardB]) (by simp [eff, evo, get_cons]) (by simp [stput_some, put_cons, put_nil, happ]; rfl) (WO.nil ?_)
    refine WC.seq (WC.cond (t := false) (by simp [evo, get_cons]) (WC.exit ⟨I138 cs h off n es seen, ?_, by simpa using hq seen hs hall⟩))
    have hcs5 := refsLtL_mono (show 2 ≤ 5 by omega) hcs
    have hcs6 := refsLtL_mono (show 2 ≤ 6 by omega) hcs
    have hb5 : ∀ m, ((esM es).all fun p => refsLt m p.2) = true := by intro m; simp [esM, Function.comp_def, refsLt]
    refine Tidy.clean (Nat.le_refl _) (keep := [0, 2, 3, 4, 5, 19]) ?_
    by_cases hN : namesOf es seen = []
    · simp [cleanSt, keepTm, tmLt, heapLt, refsLt, refsLtL, boxLt, nblt, nbeq, I138, hN, rowOf, boxOf, hcs5, hb5]
    · simp [cleanSt, keepTm, tmLt, heapLt, refsLt, refsLtL, boxLt, nblt, nbeq, I138, rowOf_ne hN, boxOf_ne hN, hcs6, hb5, refs_strV]
end Fw.Tz
