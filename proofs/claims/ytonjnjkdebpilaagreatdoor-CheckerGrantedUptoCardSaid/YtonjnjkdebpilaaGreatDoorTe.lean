/-
  Numerals: which strings of digits are the decimal digits of a positive number.
-/
import Derived.Lib.AtoiAll
import Derived.Lib.ItoaNum
import Derived.Test.YtonjnjkdebpilaaGreatDoorTc
import Derived.Test.YtonjnjkdebpilaaGreatDoorFg
import Derived.Test.YtonjnjkdebpilaaGreatDoorTd

namespace Fw.Nu
open Go.Lib
def digB (b : UInt8) : Bool := decide (48 ≤ b.toNat ∧ b.toNat ≤ 57)
def letB (b : UInt8) : Bool := decide (97 ≤ b.toNat ∧ b.toNat ≤ 122)
def usB : List UInt8 → Bool
  | [] => false
  | d :: u => decide (u.length ≤ 8) && !(Nat.beq d.toNat 48) && (d :: u).all digB
def val (acc : Nat) (l : List UInt8) : Nat := l.foldl (fun a b => a * 10 + (b.toNat - 48)) acc
theorem val_nil (acc : Nat) : val acc [] = acc := List.foldl_nil
theorem val_cons (acc : Nat) (b : UInt8) (l : List UInt8) : val acc (b :: l) = val (acc * 10 + (b.toNat - 48)) l := List.foldl_cons ..
theorem val_snoc (l : List UInt8) (b : UInt8) (acc : Nat) : val acc (l ++ [b]) = val acc l * 10 + (b.toNat - 48) := by
  unfold val
  rw [List.foldl_append]
  rw [List.foldl_cons, List.foldl_nil]
theorem val_lt : ∀ (l : List UInt8) (acc : Nat), l.all digB = true → val acc l < (acc + 1) * 10 ^ l.length
  | [], acc, _ => by rw [val_nil, List.length_nil, Nat.pow_zero]; omega
  | b :: l, acc, h => by
    simp only [List.all_cons, Bool.and_eq_true, digB, decide_eq_true_eq] at h
    have := val_lt l (acc * 10 + (b.toNat - 48)) h.2
    rw [val_cons, List.length_cons, Nat.pow_succ]
    refine Nat.lt_of_lt_of_le this ?_
    rw [Nat.mul_comm (10 ^ l.length) 10, ← Nat.mul_assoc]
    exact Nat.mul_le_mul_right _ (by omega)
theorem val_pos : ∀ (l : List UInt8) (acc : Nat), 0 < acc → 0 < val acc l
  | [], acc, h => by rw [val_nil]; exact h
  | b :: l, acc, h => by rw [val_cons]; exact val_pos l _ (by omega)
theorem parse_val : ∀ (l : List UInt8) (acc : Nat), l.all digB = true → (acc + 1) * 10 ^ l.length ≤ 1000000000000000000 → parseUint10 acc l = .ok (val acc l)
  | [], acc, _, _ => by rw [val_nil]; rfl
  | b :: l, acc, h, hl => by
    simp only [List.all_cons, Bool.and_eq_true, digB, decide_eq_true_eq] at h
    simp only [List.length_cons, Nat.pow_succ] at hl
    have h1 : 0 < 10 ^ l.length := Nat.pow_pos (by omega)
    have h3 : (acc + 1) * 10 * 10 ^ l.length ≤ 1000000000000000000 := by rw [Nat.mul_assoc, Nat.mul_comm 10]; exact hl
    have h2 : (acc + 1) * 10 ≤ (acc + 1) * 10 * 10 ^ l.length := Nat.le_mul_of_pos_right _ h1
    have h4 : (acc + 1) * 10 ≤ 1000000000000000000 := Nat.le_trans h2 h3
    rw [val_cons, parseUint10]
    rw [if_pos h.1, if_neg (by omega), if_neg (by omega)]
    refine parse_val l _ h.2 (Nat.le_trans (Nat.mul_le_mul_right _ ?_) h3)
    omega
theorem dec_digits : ∀ (u : Nat), (decDigits u).all digB = true := by
  intro u
  induction u using Nat.strongRecOn with
  | _ u ih =>
    rw [decDigits]
    split
    · rename_i h
      simp only [List.all_cons, List.all_nil, Bool.and_true, digB, decide_eq_true_eq]
      rw [UInt8.toNat_ofNat', Nat.mod_eq_of_lt (by omega)]
      omega
    · rename_i h
      simp only [List.all_append, ih (u / 10) (by omega), List.all_cons, List.all_nil, Bool.and_true, Bool.true_and, digB, decide_eq_true_eq]
      rw [UInt8.toNat_ofNat', Nat.mod_eq_of_lt (by omega)]
      omega
theorem dec_head : ∀ (u : Nat), 0 < u → ∃ d r, decDigits u = d :: r ∧ d.toNat ≠ 48 := by
  intro u
  induction u using Nat.strongRecOn with
  | _ u ih =>
    intro hu
    rw [decDigits]
    split
    · rename_i h
      refine ⟨_, _, rfl, ?_⟩
      rw [UInt8.toNat_ofNat', Nat.mod_eq_of_lt (by omega)]
      omega
    · rename_i h
      obtain ⟨d, r, h1, h2⟩ := ih (u / 10) (by omega) (by omega)
      exact ⟨d, r ++ [UInt8.ofNat (48 + u % 10)], by rw [h1]; rfl, h2⟩
theorem ofNat_dig {b : UInt8} (h : digB b = true) : UInt8.ofNat (48 + (b.toNat - 48)) = b := by
  simp only [digB, decide_eq_true_eq] at h
  rw [show 48 + (b.toNat - 48) = b.toNat by omega, UInt8.ofNat_toNat]
theorem dec_val : ∀ (n : Nat) (l : List UInt8), l.length = n → l.all digB = true → (∀ d r, l = d :: r → d.toNat ≠ 48) → l ≠ [] → decDigits (val 0 l) = l := by
  intro n
  induction n using Nat.strongRecOn with
  | _ n ih =>
    intro l hn hd h0 hne
    obtain ⟨l', b, rfl⟩ : ∃ l' b, l = l' ++ [b] := ⟨l.dropLast, l.getLast hne, (List.dropLast_concat_getLast hne).symm⟩
    simp only [List.all_append, List.all_cons, List.all_nil, Bool.and_true, Bool.and_eq_true] at hd
    have hb := hd.2
    have hb2 := hb
    simp only [digB, decide_eq_true_eq] at hb2
    rw [val_snoc]
    cases l' with
    | nil =>
      rw [val_nil, Nat.zero_mul, Nat.zero_add]
      rw [decDigits, dif_pos (by omega), ofNat_dig hb]; rfl
    | cons d r =>
      have hd0 : d.toNat ≠ 48 := h0 d (r ++ [b]) rfl
      have hdd := hd.1
      simp only [List.all_cons, Bool.and_eq_true, digB, decide_eq_true_eq] at hdd
      have hp : 0 < val 0 (d :: r) := by rw [val_cons]; exact val_pos r _ (by omega)
      have := ih (d :: r).length (by simp at hn ⊢; omega) (d :: r) rfl hd.1 (fun d' r' e => by cases e; exact hd0) (by simp)
      rw [decDigits, dif_neg (by omega), show (val 0 (d :: r) * 10 + (b.toNat - 48)) / 10 = val 0 (d :: r) by omega, show (val 0 (d :: r) * 10 + (b.toNat - 48)) % 10 = b.toNat - 48 by omega, this, ofNat_dig hb]
theorem us_ok {t : List UInt8} (h : usB t = true) : ∃ v : Nat, 0 < v ∧ v < 1000000000 ∧ atoiAll t = .ok (v : Int) ∧ t.length ≤ 9 ∧ itoa (v : Int) = t := by
  cases t with
  | nil => simp [usB] at h
  | cons d u =>
    simp only [usB, Bool.and_eq_true, decide_eq_true_eq, Bool.not_eq_true'] at h
    obtain ⟨⟨h1, h2⟩, h3⟩ := h
    have h48 : d.toNat ≠ 48 := fun e => by rw [e] at h2; cases h2
    have hd := h3
    simp only [List.all_cons, Bool.and_eq_true, digB, decide_eq_true_eq] at hd
    have hlen : (d :: u).length ≤ 9 := by simp; omega
    have hpow : 10 ^ (d :: u).length ≤ 1000000000 := by
      have : 10 ^ (d :: u).length ≤ 10 ^ 9 := Nat.pow_le_pow_right (by omega) hlen
      simpa using this
    have hlt := val_lt (d :: u) 0 h3
    simp only [Nat.zero_add, Nat.one_mul] at hlt
    refine ⟨val 0 (d :: u), ?_, by omega, ?_, hlen, ?_⟩
    · rw [val_cons]; exact val_pos u _ (by omega)
    · unfold atoiAll
      simp only
      rw [if_neg (by omega)]
      unfold parseMag
      rw [if_neg (by simp), parse_val _ 0 h3 (by omega)]
      simp only
      rw [if_neg (by omega), if_neg (by omega), if_neg (by omega)]
    · unfold itoa
      rw [if_neg (by omega), Int.toNat_natCast]
      exact dec_val _ (d :: u) rfl h3 (fun d' r' e => by cases e; exact h48) (by simp)
theorem us_of {t : List UInt8} {v : Int} (h0 : 0 < v) (hl : t.length ≤ 9) (h : itoa v = t) : usB t = true := by
  unfold itoa at h
  rw [if_neg (by omega)] at h
  obtain ⟨d, r, e1, e2⟩ := dec_head v.toNat (by omega)
  have hd := dec_digits v.toNat
  rw [e1] at hd h
  subst h
  have : Nat.beq d.toNat 48 = false := by
    cases hb : Nat.beq d.toNat 48 with
    | false => rfl
    | true => exact absurd (Nat.eq_of_beq_eq_true hb) e2
  simp only [usB, Bool.and_eq_true, decide_eq_true_eq, this, hd]
  simp at hl ⊢
  omega
end Fw.Nu

/-
  Digits cut off at both ends.
-/
namespace Fw.Nu
def trimR (s : List UInt8) : List UInt8 := (s.reverse.dropWhile digB).reverse
def trimL (s : List UInt8) : List UInt8 := s.dropWhile digB
theorem dropW_nil {p : UInt8 → Bool} : ∀ (l : List UInt8), l.dropWhile p = [] ↔ l.all p = true
  | [] => by simp
  | a :: l => by
    rw [List.dropWhile_cons]
    cases h : p a with
    | true => simp only [if_true, List.all_cons, h, Bool.true_and]; exact dropW_nil l
    | false => simp [h]
theorem dropW_last {p : UInt8 → Bool} (a : UInt8) (ha : p a = false) : ∀ (l : List UInt8), (l ++ [a]).dropWhile p ≠ []
  | [] => by simp [ha]
  | b :: l => by
    rw [List.cons_append, List.dropWhile_cons]
    cases p b with
    | true => simp only [if_true]; exact dropW_last a ha l
    | false => simp
theorem dropW_head {p : UInt8 → Bool} : ∀ (l : List UInt8) (a : UInt8) (r : List UInt8), l.dropWhile p = a :: r → p a = false
  | [], _, _, h => by simp at h
  | b :: l, a, r, h => by
    rw [List.dropWhile_cons] at h
    cases hb : p b with
    | true => rw [hb] at h; exact dropW_head l a r (by simpa using h)
    | false => rw [hb] at h; simp at h; rw [← h.1]; exact hb
theorem trim_nil (s : List UInt8) : trimL (trimR s) = [] ↔ s.all digB = true := by
  unfold trimL trimR
  cases h : s.reverse.dropWhile digB with
  | nil =>
    have := (dropW_nil s.reverse).1 h
    simp only [List.reverse_nil, List.dropWhile_nil, true_iff]
    simpa using this
  | cons a r =>
    have ha := dropW_head _ _ _ h
    rw [List.reverse_cons]
    constructor
    · intro h2; exact absurd h2 (dropW_last a ha _)
    · intro h2
      have h3 : s.reverse.all digB = true := by simpa using h2
      rw [(dropW_nil _).2 h3] at h
      cases h
theorem trimR_snoc (l : List UInt8) (a : UInt8) : trimR (l ++ [a]) = if digB a = true then trimR l else l ++ [a] := by
  unfold trimR
  rw [List.reverse_append]
  simp only [List.reverse_cons, List.reverse_nil, List.nil_append, List.singleton_append, List.dropWhile_cons]
  split
  · rfl
  · simp
def elemB : List UInt8 → Bool
  | [] => false
  | c :: t => decide (t.length ≤ 29) && decide (65 ≤ c.toNat ∧ c.toNat ≤ 90) && t.all digB
end Fw.Nu

/-
  Names and small numbers, of the program and of the reference, for any string.
-/
set_option linter.unusedSimpArgs false
set_option maxRecDepth 1000000
set_option maxHeartbeats 4000000
namespace Fw.Tz.Na
open Go Go.Proofs Fw.X Fw.Tz Fw.Nu Fw.Tz.Sd
variable {W : World}
theorem drop_at {α : Type} {l : List α} {i : Nat} {x : α} (h : l[i]? = some x) : l.drop i = x :: l.drop (i + 1) := by
  obtain ⟨hlt, he⟩ := List.getElem?_eq_some_iff.1 h
  rw [List.drop_eq_getElem_cons hlt, he]
def smallB (n : Int) : Bool := decide (-1000000 ≤ n ∧ n ≤ 1000000)
def allI : Nat → List UInt8 → Bool
  | _, [] => true
  | i, b :: r => (letB b || (!Nat.beq i 0 && digB b)) && allI (i + 1) r
def nameB : List UInt8 → Bool
  | [] => false
  | c :: t => bif Nat.beq c.toNat 95 then usB t else decide (t.length ≤ 29) && allI 0 (c :: t)
theorem nameB_us {c : UInt8} {t : List UInt8} (h : (c.toNat : Int) = 95) : nameB (c :: t) = usB t := by
  have : Nat.beq c.toNat 95 = true := by rw [show c.toNat = 95 by omega]; rfl
  rw [nameB, this]; rfl
theorem nameB_no {c : UInt8} {t : List UInt8} (h : (c.toNat : Int) ≠ 95) : nameB (c :: t) = (decide (t.length ≤ 29) && allI 0 (c :: t)) := by
  have : Nat.beq c.toNat 95 = false := by cases hb : Nat.beq c.toNat 95 with | false => rfl | true => exact absurd (by have := Nat.eq_of_beq_eq_true hb; omega) h
  rw [nameB, this]; rfl
theorem pc_small_ref (hW : W0 W) (n : Int) : PC P (gl W) 47 [.d (.int .i64 n)] (.d (.bool (smallB n))) := by
  refine CG.start is47 ca47 rfl ?_
  refine s1 hW 4 3 [] 1 [(2, (bo false)), (5, (bo (!iLt n (-1000000))))] ?_
  refine spLt n (-1000000) (fun q5 p5 => ?_) (fun q5 p5 => ?_)
  rw [q5]
  refine s1 hW 2 0 [] 2 [] ?_
  refine CG.ret (v' := (bo false)) (by kernel_rfl) ?_
  rotate_left
  rw [q5]
  refine s1 hW 2 0 [] 0 [(2, (bo (!iLt 1000000 n)))] ?_
  refine CG.ret (v' := (bo (!iLt 1000000 n))) (by kernel_rfl) ?_
  rotate_left
  · simp only [V.d.injEq, D.bool.injEq, smallB]
    symm; rw [decide_eq_false_iff_not]; omega
  · have h : iLt 1000000 n = decide ((1000000 : Int) < n) := iLt_eq _ _
    simp only [V.d.injEq, D.bool.injEq, smallB, h]
    rw [Bool.eq_iff_iff]; simp; omega
theorem pc_in (hW : W0 W) (n : Int) : PC P (gl W) 44 [.d (.int .i64 n)] (.d (.bool (smallB n))) := by
  refine CG.start is44 ca44 rfl ?_
  refine s1 hW 4 3 [] 1 [(2, (bo false)), (5, (bo (!iLt n (-1000000))))] ?_
  refine spLt n (-1000000) (fun q5 p5 => ?_) (fun q5 p5 => ?_)
  rw [q5]
  refine s1 hW 2 0 [] 2 [] ?_
  refine CG.ret (v' := (bo false)) (by kernel_rfl) ?_
  rotate_left
  rw [q5]
  refine s1 hW 2 0 [] 0 [(2, (bo (!iLt 1000000 n)))] ?_
  refine CG.ret (v' := (bo (!iLt 1000000 n))) (by kernel_rfl) ?_
  rotate_left
  · simp only [V.d.injEq, D.bool.injEq, smallB]
    symm; rw [decide_eq_false_iff_not]; omega
  · have h : iLt 1000000 n = decide ((1000000 : Int) < n) := iLt_eq _ _
    simp only [V.d.injEq, D.bool.injEq, smallB, h]
    rw [Bool.eq_iff_iff]; simp; omega
theorem usB_long {t : List UInt8} (h : 9 < t.length) : usB t = false := by
  cases t with
  | nil => rfl
  | cons d u =>
    simp only [List.length_cons] at h
    rw [usB, decide_eq_false (by omega)]; rfl
theorem pre_cons {c : UInt8} {t : List UInt8} (h : (c.toNat : Int) = 95) : Lib.hasPrefix (c :: t) [95] = true := by
  have : c = 95 := UInt8.toNat_inj.1 (by simpa using (by omega : c.toNat = 95))
  subst this; simp [Lib.hasPrefix]
theorem nameB_gen {s : List UInt8} (h : Lib.hasPrefix s [95] = false) : nameB s = (!Fw.bytesEq s [] && !iLt 30 (.ofNat s.length) && allI 0 s) := by
  cases s with
  | nil => rfl
  | cons c t =>
    have hc : (c.toNat : Int) ≠ 95 := fun e => by rw [pre_cons e] at h; cases h
    rw [nameB_no hc]
    have e1 : Fw.bytesEq (c :: t) [] = false := rfl
    have e2 : (!iLt 30 (.ofNat (c :: t).length)) = decide (t.length ≤ 29) := by
      rw [iLt_eq, Bool.eq_iff_iff]; simp; omega
    rw [e1, e2]; rfl
theorem usB_not {t : List UInt8} (h : ∀ v, Lib.atoiAll t ≠ .ok v) : usB t = false := by
  cases hb : usB t with
  | false => rfl
  | true => obtain ⟨v, _, _, h2, _⟩ := us_ok hb; exact absurd h2 (h v)
theorem bytesEq_rfl : ∀ (x : List UInt8), Fw.bytesEq x x = true
  | [] => rfl
  | a :: x => by simp only [Fw.bytesEq, Nat.beq_refl, cond_true]; exact bytesEq_rfl x
theorem us_char {t : List UInt8} {v : Int} (hv : Lib.atoiAll t = .ok v) : usB t = (decide (0 < v) && decide (t.length ≤ 9) && Fw.bytesEq (Lib.itoa v) t) := by
  cases hb : usB t with
  | true =>
    obtain ⟨u, h0, h1, h2, h3, h4⟩ := us_ok hb
    rw [hv] at h2
    injection h2 with h2
    subst h2
    rw [decide_eq_true (by omega), decide_eq_true h3, h4, bytesEq_rfl]; rfl
  | false =>
    symm
    by_cases h0 : 0 < v
    · by_cases hl : t.length ≤ 9
      · rw [decide_eq_true h0, decide_eq_true hl]
        cases he : Fw.bytesEq (Lib.itoa v) t with
        | false => rfl
        | true => rw [us_of h0 hl (bytesEq_eq he)] at hb; cases hb
      · rw [decide_eq_false hl, Bool.and_false]; rfl
    · rw [decide_eq_false h0]; rfl
theorem atoi_range {t : List UInt8} {v : Int} (h : Lib.atoiAll t = .ok v) : -9223372036854775808 ≤ v ∧ v ≤ 9223372036854775807 := by
  unfold Lib.atoiAll at h
  cases t with
  | nil => cases h
  | cons c r =>
    simp only at h
    split at h
    · cases h
    · cases h
    · split at h
      · cases h
      · split at h
        · cases h
        · injection h with h
          subst h
          split <;> omega
theorem pc_digit_ref (hW : W0 W) (b : UInt8) : PC P (gl W) 80 [.d (.int .u8 b.toNat)] (.d (.bool (digB b))) := by
  refine CG.start is80 ca80 rfl ?_
  refine s1 hW 4 3 [] 1 [(2, (bo false)), (5, (bo (!iLt (Int.ofNat (UInt8.toNat b)) 48)))] ?_
  refine spLtN (UInt8.toNat b) 48 (fun q5 p5 => ?_) (fun q5 p5 => ?_)
  have q6 : (iLt (Int.ofNat (UInt8.toNat b)) 48) = true := t_lt (by (try simp only [zz] at *) <;> omega)
  rw [q6]
  refine s1 hW 2 0 [] 2 [] ?_
  refine CG.ret (v' := (bo false)) (by kernel_rfl) ?_
  rotate_left
  have q7 : (iLt (Int.ofNat (UInt8.toNat b)) 48) = false := f_lt (by (try simp only [zz] at *) <;> omega)
  rw [q7]
  refine s1 hW 2 0 [] 0 [(2, (bo (!iLt 57 (Int.ofNat (UInt8.toNat b)))))] ?_
  refine CG.ret (v' := (bo (!iLt 57 (Int.ofNat (UInt8.toNat b))))) (by kernel_rfl) ?_
  rotate_left
  all_goals
    simp only [V.d.injEq, D.bool.injEq, digB]
    first
      | (symm; rw [decide_eq_false_iff_not]; omega)
      | (rw [iLt_eq, Bool.eq_iff_iff]; simp; omega)
theorem pc_letter_ref (hW : W0 W) (b : UInt8) : PC P (gl W) 81 [.d (.int .u8 b.toNat)] (.d (.bool (letB b))) := by
  refine CG.start is81 ca81 rfl ?_
  refine s1 hW 4 3 [] 1 [(2, (bo false)), (5, (bo (!iLt (Int.ofNat (UInt8.toNat b)) 97)))] ?_
  refine spLtN (UInt8.toNat b) 97 (fun q5 p5 => ?_) (fun q5 p5 => ?_)
  have q6 : (iLt (Int.ofNat (UInt8.toNat b)) 97) = true := t_lt (by (try simp only [zz] at *) <;> omega)
  rw [q6]
  refine s1 hW 2 0 [] 2 [] ?_
  refine CG.ret (v' := (bo false)) (by kernel_rfl) ?_
  rotate_left
  have q7 : (iLt (Int.ofNat (UInt8.toNat b)) 97) = false := f_lt (by (try simp only [zz] at *) <;> omega)
  rw [q7]
  refine s1 hW 2 0 [] 0 [(2, (bo (!iLt 122 (Int.ofNat (UInt8.toNat b)))))] ?_
  refine CG.ret (v' := (bo (!iLt 122 (Int.ofNat (UInt8.toNat b))))) (by kernel_rfl) ?_
  rotate_left
  all_goals
    simp only [V.d.injEq, D.bool.injEq, letB]
    first
      | (symm; rw [decide_eq_false_iff_not]; omega)
      | (rw [iLt_eq, Bool.eq_iff_iff]; simp; omega)
theorem pc_name_ref (hW : W0 W) (s : List UInt8) : PC P (gl W) 48 [.d (.str s)] (.d (.bool (nameB s))) := by
  refine CG.start is48 ca48 rfl ?_
  cases s with
  | nil => refine s1 hW 11 0 [true] 1 [(2, (bo false))] ?_
           refine CG.ret (v' := (bo false)) (by kernel_rfl) ?_
           rfl
  | cons c t =>
    by_cases hc : (c.toNat : Int) = 95
    · rw [nameB_us hc]
      cases t with
      | nil => refine s1 hW 14 0 [false] 1 [(2, (bo false)), (15, (bo (iEq (Int.ofNat (UInt8.toNat c)) 95)))] ?_
               refine CG.condT (show (iEq (Int.ofNat (UInt8.toNat c)) 95) = true from t_eq (by (try simp only [zz] at *) <;> omega)) (by kernel_rfl) ?_
               refine s1 hW 8 0 [true] 3 [] ?_
               refine CG.ret (v' := (bo false)) (by kernel_rfl) ?_
               rfl
      | cons d u =>
        refine s1 hW 7 0 [] 1 [(2, (bo false)), (12, (bo (iLt 30 (Int.ofNat (List.length (c :: d :: u))))))] ?_
        refine spLtN 30 (List.length (c :: d :: u)) (fun q7 p7 => ?_) (fun q7 p7 => ?_) <;> simp only [zz] at p7
        refine CG.condT (show (iLt 30 (Int.ofNat (List.length (c :: d :: u)))) = true from t_lt (by (try simp only [zz] at *) <;> omega)) (by kernel_rfl) ?_
        refine s1 hW 3 0 [] 3 [] ?_
        refine CG.ret (v' := (bo false)) (by kernel_rfl) ?_
        rotate_left
        refine CG.condF (show (iLt 30 (Int.ofNat (List.length (c :: d :: u)))) = false from f_lt (by (try simp only [zz] at *) <;> omega)) (by kernel_rfl) ?_
        refine s1 hW 6 0 [] 3 [(15, (bo (iEq (Int.ofNat (UInt8.toNat c)) 95)))] ?_
        refine CG.condT (show (iEq (Int.ofNat (UInt8.toNat c)) 95) = true from t_eq (by (try simp only [zz] at *) <;> omega)) (by kernel_rfl) ?_
        refine s1 hW 2 9 [] 3 [(24, (bo (iLt 10 (Int.ofNat (List.length (c :: d :: u))))))] ?_
        refine spLtN 10 (List.length (c :: d :: u)) (fun q9 p9 => ?_) (fun q9 p9 => ?_) <;> simp only [zz] at p9
        have q10 : (iLt 10 (Int.ofNat (List.length (c :: d :: u)))) = true := t_lt (by (try simp only [zz] at *) <;> omega)
        rw [q10]
        refine s1 hW 6 0 [true] 3 [] ?_
        refine CG.ret (v' := (bo false)) (by kernel_rfl) ?_
        rotate_left
        have q11 : (iLt 10 (Int.ofNat (List.length (c :: d :: u)))) = false := f_lt (by (try simp only [zz] at *) <;> omega)
        rw [q11]
        refine s1 hW 2 0 [] 3 [(28, (bo (iEq (Int.ofNat (UInt8.toNat d)) 48)))] ?_
        refine spEqN (UInt8.toNat d) 48 (fun q12 p12 => ?_) (fun q12 p12 => ?_)
        refine CG.condT (show (iEq (Int.ofNat (UInt8.toNat d)) 48) = true from t_eq (by (try simp only [zz] at *) <;> omega)) (by kernel_rfl) ?_
        refine s1 hW 3 0 [] 3 [] ?_
        refine CG.ret (v' := (bo false)) (by kernel_rfl) ?_
        rotate_left
        refine CG.condF (show (iEq (Int.ofNat (UInt8.toNat d)) 48) = false from f_eq (by (try simp only [zz] at *) <;> omega)) (by kernel_rfl) ?_
        refine s1 hW 7 0 [] 3 [(3, (io 1))] ?_
        rotate_left
        · rw [usB_long (by simp only [List.length_cons]; omega)]
        · rw [usB_long (by simp only [List.length_cons]; omega)]
        · rw [usB, show Nat.beq d.toNat 48 = true by rw [show d.toNat = 48 by omega]; rfl, Bool.not_true, Bool.and_false, Bool.false_and]
        · have h48 : Nat.beq d.toNat 48 = false := beq_ff (by omega)
          rw [usB, h48, decide_eq_true (by omega), Bool.not_false, Bool.and_self, Bool.true_and]
          refine CG.loopL (d :: u) (fun i u2 => [(0, (so (c :: d :: u))), (2, (bo false)), (3, .d (.int .i64 (.ofNat (i + 1))))]) (fun i u2 => []) (fun i u2 r => ((d :: u).all digB = r.all digB)) () ?_ (Tidy.refl _ _) ?_ ?_
          · rfl
          · intro i u2 hi hd hinv
            simp only [List.length_cons] at hi
            refine s1 hW 4 0 [] 7 [(32, (bo (iLt (Int.ofNat (i + 1)) (Int.ofNat (List.length (c :: d :: u))))))] ?_
            refine CG.condF (show (iLt (Int.ofNat (i + 1)) (Int.ofNat (List.length (c :: d :: u)))) = false from f_lt (by (try simp only [zz] at *) <;> omega)) (by kernel_rfl) ?_
            refine CG.exitL (by decide) ?_
            refine s1 hW 5 0 [] 1 [(2, (bo true))] ?_
            refine CG.ret (v' := (bo true)) (by kernel_rfl) ?_
            rotate_left
            rw [hinv]; rfl
          · intro i u2 x r hd hx hlt hinv
            have hx' : (c :: d :: u)[i + 1]? = some x := by simpa using hx
            rw [show (x :: r).all digB = (digB x && r.all digB) from List.all_cons ..] at hinv
            simp only [List.length_cons] at hlt
            refine s1 hW 4 0 [] 7 [(32, (bo (iLt (Int.ofNat (i + 1)) (Int.ofNat (List.length (c :: d :: u))))))] ?_
            refine CG.condT (show (iLt (Int.ofNat (i + 1)) (Int.ofNat (List.length (c :: d :: u)))) = true from t_lt (by (try simp only [zz] at *) <;> omega)) (by kernel_rfl) ?_
            refine s1 hW 5 2 [] 7 [(35, (so (c :: d :: u))), (36, (no (i + 1)))] ?_
            refine CG.ixS hx' rfl (by kernel_rfl) ?_
            refine CG.pg (pc_digit_ref hW x) rfl (by kernel_rfl) ?_
            refine s1 hW 2 0 [] 7 [(39, (bo (!digB x)))] ?_
            refine sp (digB x) (fun q24 => ?_) (fun q24 => ?_)
            refine CG.condF (b := (!digB x)) (by rw [q24]; rfl) (by kernel_rfl) ?_
            refine s3 hW 3 3 [] [(0, (so (c :: d :: u))), (2, (bo false)), (3, (io (wrapF IntKind.i64 (iAdd (Int.ofNat (i + 1)) 1))))] ([]) ?_
            refine CG.endL rfl ?_
            rw [wrapI (by omega)]
            rotate_left
            refine CG.condT (b := (!digB x)) (by rw [q24]; rfl) (by kernel_rfl) ?_
            refine s1 hW 3 0 [] 7 [] ?_
            refine CG.retL (v' := (bo false)) (by kernel_rfl) ?_
            rotate_left
            · exact ⟨(), by rw [hinv, show digB x = true by assumption]; rfl, Tidy.refl _ _⟩
            · rw [hinv, show digB x = false by assumption]; rfl
    · rw [nameB_no hc]
      refine s1 hW 7 0 [] 1 [(2, (bo false)), (12, (bo (iLt 30 (Int.ofNat (List.length (c :: t))))))] ?_
      refine spLtN 30 (List.length (c :: t)) (fun q6 p6 => ?_) (fun q6 p6 => ?_) <;> simp only [zz] at p6
      refine CG.condT (show (iLt 30 (Int.ofNat (List.length (c :: t)))) = true from t_lt (by (try simp only [zz] at *) <;> omega)) (by kernel_rfl) ?_
      refine s1 hW 3 0 [] 3 [] ?_
      refine CG.ret (v' := (bo false)) (by kernel_rfl) ?_
      rotate_left
      refine CG.condF (show (iLt 30 (Int.ofNat (List.length (c :: t)))) = false from f_lt (by (try simp only [zz] at *) <;> omega)) (by kernel_rfl) ?_
      refine s1 hW 6 0 [] 3 [(15, (bo (iEq (Int.ofNat (UInt8.toNat c)) 95)))] ?_
      refine CG.condF (show (iEq (Int.ofNat (UInt8.toNat c)) 95) = false from f_eq (by (try simp only [zz] at *) <;> omega)) (by kernel_rfl) ?_
      refine s1 hW 7 0 [] 3 [(4, (io 0))] ?_
      rotate_left
      · rw [decide_eq_false (by omega)]; rfl
      · rw [decide_eq_true (by omega), Bool.true_and]
        refine CG.loopL (c :: t) (fun i u => [(0, (so (c :: t))), (2, (bo false)), (4, .d (.int .i64 (.ofNat i)))]) (fun i u => []) (fun i u r => (allI 0 (c :: t) = allI i r)) () ?_ (Tidy.refl _ _) ?_ ?_
        · rfl
        · intro i u hi hd hinv
          refine s1 hW 4 0 [] 7 [(43, (bo (iLt (Int.ofNat i) (Int.ofNat (List.length (c :: t))))))] ?_
          refine CG.condF (show (iLt (Int.ofNat i) (Int.ofNat (List.length (c :: t)))) = false from f_lt (by (try simp only [zz] at *) <;> omega)) (by kernel_rfl) ?_
          refine CG.exitL (by decide) ?_
          refine s1 hW 5 0 [] 0 [(2, (bo true))] ?_
          refine CG.ret (v' := (bo true)) (by kernel_rfl) ?_
          rotate_left
          rw [hinv]; rfl
        · intro i u x r hd hx hlt hinv
          rw [show allI i (x :: r) = ((letB x || (!Nat.beq i 0 && digB x)) && allI (i + 1) r) from rfl] at hinv
          simp only [List.length_cons] at hlt
          refine s1 hW 4 0 [] 7 [(43, (bo (iLt (Int.ofNat i) (Int.ofNat (List.length (c :: t))))))] ?_
          refine CG.condT (show (iLt (Int.ofNat i) (Int.ofNat (List.length (c :: t)))) = true from t_lt (by (try simp only [zz] at *) <;> omega)) (by kernel_rfl) ?_
          refine s1 hW 5 2 [] 7 [(46, (so (c :: t))), (47, (no i))] ?_
          refine CG.ixS hx rfl (by kernel_rfl) ?_
          refine CG.pg (pc_letter_ref hW x) rfl (by kernel_rfl) ?_
          refine s1 hW 0 2 [] 7 [(51, (bo (!letB x)))] ?_
          refine sp (letB x) (fun q16 => ?_) (fun q16 => ?_)
          rw [q16]
          refine s3 hW 6 3 [false] [(0, (so (c :: t))), (2, (bo false)), (4, (io (wrapF IntKind.i64 (iAdd (Int.ofNat i) 1))))] ([]) ?_
          refine CG.endL rfl ?_
          rw [wrapI (by omega)]
          rotate_left
          rw [q16]
          refine s1 hW 0 3 [] 15 [(54, (bo (iEq (Int.ofNat i) 0)))] ?_
          refine spEqN i 0 (fun q18 p18 => ?_) (fun q18 p18 => ?_)
          have q19 : (iEq (Int.ofNat i) 0) = true := t_eq (by (try simp only [zz] at *) <;> omega)
          rw [q19]
          refine s1 hW 6 0 [true] 7 [] ?_
          refine CG.retL (v' := (bo false)) (by kernel_rfl) ?_
          rotate_left
          have q20 : (iEq (Int.ofNat i) 0) = false := f_eq (by (try simp only [zz] at *) <;> omega)
          rw [q20]
          refine s1 hW 0 2 [] 31 [(55, (so (c :: t))), (56, (no i))] ?_
          refine CG.ixS hx rfl (by kernel_rfl) ?_
          refine CG.pg (pc_digit_ref hW x) rfl (by kernel_rfl) ?_
          refine s1 hW 2 0 [] 7 [(61, (bo (!digB x)))] ?_
          refine sp (digB x) (fun q21 => ?_) (fun q21 => ?_)
          refine CG.condF (b := (!digB x)) (by rw [q21]; rfl) (by kernel_rfl) ?_
          refine s3 hW 3 3 [] [(0, (so (c :: t))), (2, (bo false)), (4, (io (wrapF IntKind.i64 (iAdd (Int.ofNat i) 1))))] ([]) ?_
          refine CG.endL rfl ?_
          rw [wrapI (by omega)]
          rotate_left
          refine CG.condT (b := (!digB x)) (by rw [q21]; rfl) (by kernel_rfl) ?_
          refine s1 hW 3 0 [] 7 [] ?_
          refine CG.retL (v' := (bo false)) (by kernel_rfl) ?_
          rotate_left
          · exact ⟨(), by rw [hinv, show letB x = true by assumption]; rfl, Tidy.refl _ _⟩
          · rw [hinv, show letB x = false by assumption, show Nat.beq i 0 = true by rw [show i = 0 by omega]; rfl]; rfl
          · exact ⟨(), by rw [hinv, show letB x = false by assumption, show Nat.beq i 0 = false from beq_ff (by omega), show digB x = true by assumption]; rfl, Tidy.refl _ _⟩
          · rw [hinv, show letB x = false by assumption, show digB x = false by assumption, Bool.and_false]; rfl
theorem pc_nameW (hW : W0 W) (s : List UInt8) (hs : s.length ≤ 281474976710656) : PC P (gl W) 43 [.d (.str s)] (.d (.bool (nameB s))) := by
  refine CG.start is43 ca43 rfl ?_
  cases hp : Lib.hasPrefix s [95] with
  | true =>
    cases s with
    | nil => cases hp
    | cons c t =>
      have hc : (c.toNat : Int) = 95 := by
        have : (95 : UInt8) = c := by simpa [Lib.hasPrefix] using hp
        subst this; rfl
      rw [nameB_us hc]
      have hA := p_Atoi hW t (by simp only [List.length_cons] at hs; omega)
      have hd : List.drop 1 (List.take (List.length (c :: t)) (c :: t)) = t := by rw [List.take_length]; rfl
      refine s1 hW 7 0 [] 1 [(2, (bo false)), (8, (bo (Lib.hasPrefix (c :: t) [95])))] ?_
      refine CG.condT hp (by kernel_rfl) ?_
      refine s1 hW 1 1 [] 3 [(10, (so (c :: t)))] ?_
      refine CG.ssl 1 (List.length (c :: t)) (s := (c :: t)) rfl (by kernel_rfl) (by kernel_rfl) (by kernel_rfl) (by kernel_rfl) (by (try simp only [zz] at *) <;> omega) rfl ?_
      rotate_left
      rw [hd]
      unfold atoiV at hA
      rcases hv : Lib.atoiAll t with v | _ | _
      · have hr := atoi_range hv
        rw [us_char hv]
        rw [hv] at hA
        dsimp only at hA
        refine CG.pg (hA) rfl (by kernel_rfl) ?_
        refine s1 hW 3 0 [] 3 [(3, (io v)), (4, .nili)] ?_
        refine CG.drawA orders (by kernel_rfl) (by kernel_rfl) ?_
        refine AO.rd 7 [(15, .nili), (16, (bo true)), (17, (bo true)), (18, (io v)), (19, (bo (decide (0 < v)))), (20, (bo (decide (0 < v)))), (21, (bo (decide (0 < v))))] (by kernel_rfl) ?_
        refine spDe (0 < v) (fun q14 p14 => ?_) (fun q14 p14 => ?_)
        rw [q14]
        refine AO.rd 5 [(22, (so (c :: t))), (23, (no (List.length (c :: t)))), (24, (bo (decide (Int.ofNat (List.length (c :: t)) ≤ 10)))), (25, (bo (decide (Int.ofNat (List.length (c :: t)) ≤ 10)))), (26, (bo (decide (Int.ofNat (List.length (c :: t)) ≤ 10))))] (by kernel_rfl) ?_
        refine spDe (Int.ofNat (List.length (c :: t)) ≤ 10) (fun q16 p16 => ?_) (fun q16 p16 => ?_) <;> simp only [zz] at p16
        rw [q16]
        refine AO.rd 1 [(27, (io v))] (by kernel_rfl) ?_
        refine AO.pcG ((p_Itoa hW v) (by first | assumption | exact (by (try simp only [zz] at *) <;> omega)) (by first | assumption | exact (by (try simp only [zz] at *) <;> omega))) rfl (by kernel_rfl) (by kernel_rfl) ?_
        refine AO.rd 1 [(29, (so (c :: t)))] (by kernel_rfl) ?_
        refine AO.ssl 1 (List.length (c :: t)) (s := (c :: t)) rfl (by kernel_rfl) (by kernel_rfl) (by kernel_rfl) (by kernel_rfl) (by (try simp only [zz] at *) <;> omega) ?_
        refine AO.rd 3 [(2, (bo (bytesEq (Lib.itoa v) (List.drop 1 (List.take (List.length (c :: t)) (c :: t)))))), (31, (bo (bytesEq (Lib.itoa v) (List.drop 1 (List.take (List.length (c :: t)) (c :: t)))))), (32, (bo (bytesEq (Lib.itoa v) (List.drop 1 (List.take (List.length (c :: t)) (c :: t))))))] (by kernel_rfl) ?_
        refine AO.done [0, 2] rfl rfl (by kernel_rfl) ?_
        refine s1 hW 1 0 [] 3 [] ?_
        refine CG.ret (v' := (bo (bytesEq (Lib.itoa v) (List.drop 1 (List.take (List.length (c :: t)) (c :: t)))))) (by kernel_rfl) ?_
        rotate_left
        rw [q16]
        refine AO.rd 7 [(27, (.tuple [])), (28, (.tuple [])), (29, (.tuple [])), (30, (.tuple [])), (31, (.tuple [])), (32, (bo false))] (by kernel_rfl) ?_
        refine AO.done [0, 2] rfl rfl (by kernel_rfl) ?_
        refine s1 hW 1 0 [] 3 [] ?_
        refine CG.ret (v' := (bo false)) (by kernel_rfl) ?_
        rotate_left
        rw [q14]
        refine AO.rd 12 [(22, (.tuple [])), (23, (.tuple [])), (24, (.tuple [])), (25, (bo false)), (26, (bo false)), (27, (.tuple [])), (28, (.tuple [])), (29, (.tuple [])), (30, (.tuple [])), (31, (.tuple [])), (32, (bo false))] (by kernel_rfl) ?_
        refine AO.done [0, 2] rfl rfl (by kernel_rfl) ?_
        refine s1 hW 1 0 [] 3 [] ?_
        refine CG.ret (v' := (bo false)) (by kernel_rfl) ?_
        rfl
        all_goals (simp only [List.length_cons] at *)
        all_goals first
          | (rw [hd, decide_eq_true (p := t.length ≤ 9) (by omega)]; first | rfl | (rw [decide_eq_true (p := 0 < v) (by omega)]; rfl))
          | (rw [decide_eq_false (p := t.length ≤ 9) (by omega), Bool.and_false]; rfl)
          | (rw [decide_eq_false (p := 0 < v) (by omega)]; rfl)
      · rw [hv] at hA
        dsimp only at hA
        rw [usB_not (fun v h => by rw [hv] at h; cases h)]
        refine CG.pg (hA) rfl (by kernel_rfl) ?_
        refine s2 hW 5 0 [] 3 [] (nn 19 ([])) ?_
        refine CG.ret (v' := (bo false)) (by kernel_rfl) ?_
        with_reducible rfl
      · rw [hv] at hA
        dsimp only at hA
        rw [usB_not (fun v h => by rw [hv] at h; cases h)]
        refine CG.pg (hA) rfl (by kernel_rfl) ?_
        refine s2 hW 5 0 [] 3 [] (nn 19 ([])) ?_
        refine CG.ret (v' := (bo false)) (by kernel_rfl) ?_
        with_reducible rfl
  | false =>
    rw [nameB_gen hp]
    refine s1 hW 7 0 [] 1 [(2, (bo false)), (8, (bo (Lib.hasPrefix s [95])))] ?_
    refine CG.condF hp (by kernel_rfl) ?_
    refine s1 hW 7 0 [] 3 [(34, (lo (fun b => [D.int IntKind.u8 (Int.ofNat (UInt8.toNat b))]) s)), (35, (no (List.length (List.map (fun b => [D.int IntKind.u8 (Int.ofNat (UInt8.toNat b))]) s)))), (36, (io 0))] ?_
    rotate_left
    refine CG.loopL s (fun i u => [(0, (so s)), (2, (bo false)), (34, (lo (fun b => [D.int IntKind.u8 (Int.ofNat (UInt8.toNat b))]) s)), (35, (no (List.length (List.map (fun b => [D.int IntKind.u8 (Int.ofNat (UInt8.toNat b))]) s)))), (36, .d (.int .i64 (.ofNat i)))]) (fun i u => []) (fun i u r => (allI 0 s = allI i r)) () ?_ (Tidy.refl _ _) ?_ ?_
    · rfl
    · intro i u hi hd hinv
      rw [hinv]
      refine s1 hW 4 0 [] 23 [(37, (bo (iLt (Int.ofNat i) (Int.ofNat (List.length (List.map (fun b => [D.int IntKind.u8 (Int.ofNat (UInt8.toNat b))]) s))))))] ?_
      refine CG.condF (show (iLt (Int.ofNat i) (Int.ofNat (List.length (List.map (fun b => [D.int IntKind.u8 (Int.ofNat (UInt8.toNat b))]) s)))) = false from f_lt (by (try simp only [zz] at *) <;> omega)) (by kernel_rfl) ?_
      refine CG.exitL (by decide) ?_
      refine s1 hW 3 3 [] 3 [(62, (bo (!bytesEq s [])))] ?_
      refine sp (bytesEq s []) (fun q11 => ?_) (fun q11 => ?_)
      rw [q11]
      refine s1 hW 2 0 [] 2 [] ?_
      refine CG.ret (v' := (bo false)) (by kernel_rfl) ?_
      rfl
      rw [q11]
      refine s1 hW 2 0 [] 0 [(2, (bo (!iLt 30 (Int.ofNat (List.length s)))))] ?_
      refine CG.ret (v' := (bo (!iLt 30 (Int.ofNat (List.length s))))) (by kernel_rfl) ?_
      rotate_left
      simp [allI]
    · intro i u x r hd hx hlt hinv
      rw [show allI i (x :: r) = ((letB x || (!Nat.beq i 0 && digB x)) && allI (i + 1) r) from rfl] at hinv
      refine s1 hW 4 0 [] 31 [(37, (bo (iLt (Int.ofNat i) (Int.ofNat (List.length (List.map (fun b => [D.int IntKind.u8 (Int.ofNat (UInt8.toNat b))]) s))))))] ?_
      refine CG.condT (show (iLt (Int.ofNat i) (Int.ofNat (List.length (List.map (fun b => [D.int IntKind.u8 (Int.ofNat (UInt8.toNat b))]) s)))) = true from t_lt (by (try simp only [zz] at *) <;> omega)) (by kernel_rfl) ?_
      refine s1 hW 5 1 [] 31 [(38, (no i))] ?_
      refine CG.ix (idx_map (enc := (fun b => [D.int IntKind.u8 (Int.ofNat (UInt8.toNat b))])) hx) rfl (by kernel_rfl) ?_
      refine s1 hW 3 3 [] 31 [(5, (no i)), (6, (.d (.int .u8 (.ofNat (UInt8.toNat x))))), (43, (bo (iLt (Int.ofNat (UInt8.toNat x)) 97)))] ?_
      refine spLtN (UInt8.toNat x) 97 (fun q15 p15 => ?_) (fun q15 p15 => ?_)
      have q16 : (iLt (Int.ofNat (UInt8.toNat x)) 97) = true := t_lt (by (try simp only [zz] at *) <;> omega)
      rw [q16]
      refine s1 hW 0 7 [] 123 [(47, (bo true)), (50, (bo (iEq (Int.ofNat i) 0)))] ?_
      refine spEqN i 0 (fun q18 p18 => ?_) (fun q18 p18 => ?_)
      have q19 : (iEq (Int.ofNat i) 0) = true := t_eq (by (try simp only [zz] at *) <;> omega)
      rw [q19]
      refine s1 hW 6 0 [true] 59 [] ?_
      refine CG.retL (v' := (bo false)) (by kernel_rfl) ?_
      rotate_left
      have q20 : (iEq (Int.ofNat i) 0) = false := f_eq (by (try simp only [zz] at *) <;> omega)
      rw [q20]
      refine s1 hW 0 4 [] 127 [(54, (bo (iLt (Int.ofNat (UInt8.toNat x)) 48)))] ?_
      refine spLtN (UInt8.toNat x) 48 (fun q22 p22 => ?_) (fun q22 p22 => ?_)
      have q23 : (iLt (Int.ofNat (UInt8.toNat x)) 48) = true := t_lt (by (try simp only [zz] at *) <;> omega)
      rw [q23]
      refine s1 hW 6 0 [true] 59 [] ?_
      refine CG.retL (v' := (bo false)) (by kernel_rfl) ?_
      rotate_left
      have q24 : (iLt (Int.ofNat (UInt8.toNat x)) 48) = false := f_lt (by (try simp only [zz] at *) <;> omega)
      rw [q24]
      refine s1 hW 2 0 [] 59 [(58, (bo (iLt 57 (Int.ofNat (UInt8.toNat x)))))] ?_
      refine spLtN 57 (UInt8.toNat x) (fun q25 p25 => ?_) (fun q25 p25 => ?_)
      refine CG.condT (show (iLt 57 (Int.ofNat (UInt8.toNat x))) = true from t_lt (by (try simp only [zz] at *) <;> omega)) (by kernel_rfl) ?_
      refine s1 hW 3 0 [] 31 [] ?_
      refine CG.retL (v' := (bo false)) (by kernel_rfl) ?_
      rotate_left
      refine CG.condF (show (iLt 57 (Int.ofNat (UInt8.toNat x))) = false from f_lt (by (try simp only [zz] at *) <;> omega)) (by kernel_rfl) ?_
      refine s3 hW 3 2 [] [(0, (so s)), (2, (bo false)), (34, (lo (fun b => [D.int IntKind.u8 (Int.ofNat (UInt8.toNat b))]) s)), (35, (no (List.length (List.map (fun b => [D.int IntKind.u8 (Int.ofNat (UInt8.toNat b))]) s)))), (36, (io (wrapF IntKind.i64 (iAdd (Int.ofNat i) 1))))] ([]) ?_
      refine CG.endL rfl ?_
      rw [wrapI (by omega)]
      rotate_left
      have q26 : (iLt (Int.ofNat (UInt8.toNat x)) 97) = false := f_lt (by (try simp only [zz] at *) <;> omega)
      rw [q26]
      refine s1 hW 0 4 [] 127 [(47, (bo (iLt 122 (Int.ofNat (UInt8.toNat x)))))] ?_
      refine spLtN 122 (UInt8.toNat x) (fun q28 p28 => ?_) (fun q28 p28 => ?_)
      have q29 : (iLt 122 (Int.ofNat (UInt8.toNat x))) = true := t_lt (by (try simp only [zz] at *) <;> omega)
      rw [q29]
      refine s1 hW 0 3 [] 251 [(50, (bo (iEq (Int.ofNat i) 0)))] ?_
      refine spEqN i 0 (fun q31 p31 => ?_) (fun q31 p31 => ?_)
      have q32 : (iEq (Int.ofNat i) 0) = true := t_eq (by (try simp only [zz] at *) <;> omega)
      rw [q32]
      refine s1 hW 6 0 [true] 59 [] ?_
      refine CG.retL (v' := (bo false)) (by kernel_rfl) ?_
      rotate_left
      have q33 : (iEq (Int.ofNat i) 0) = false := f_eq (by (try simp only [zz] at *) <;> omega)
      rw [q33]
      refine s1 hW 0 4 [] 127 [(54, (bo (iLt (Int.ofNat (UInt8.toNat x)) 48)))] ?_
      have q34 : (iLt (Int.ofNat (UInt8.toNat x)) 48) = false := f_lt (by (try simp only [zz] at *) <;> omega)
      rw [q34]
      refine s1 hW 2 0 [] 59 [(58, (bo (iLt 57 (Int.ofNat (UInt8.toNat x)))))] ?_
      refine CG.condT (show (iLt 57 (Int.ofNat (UInt8.toNat x))) = true from t_lt (by (try simp only [zz] at *) <;> omega)) (by kernel_rfl) ?_
      refine s1 hW 3 0 [] 31 [] ?_
      refine CG.retL (v' := (bo false)) (by kernel_rfl) ?_
      rotate_left
      have q35 : (iLt 122 (Int.ofNat (UInt8.toNat x))) = false := f_lt (by (try simp only [zz] at *) <;> omega)
      rw [q35]
      refine s3 hW 6 2 [false] [(0, (so s)), (2, (bo false)), (34, (lo (fun b => [D.int IntKind.u8 (Int.ofNat (UInt8.toNat b))]) s)), (35, (no (List.length (List.map (fun b => [D.int IntKind.u8 (Int.ofNat (UInt8.toNat b))]) s)))), (36, (io (wrapF IntKind.i64 (iAdd (Int.ofNat i) 1))))] ([]) ?_
      refine CG.endL rfl ?_
      rw [wrapI (by omega)]
      rotate_left
      all_goals first
        | exact ⟨(), by rw [hinv, show letB x = true from by simp only [letB, decide_eq_true_eq]; omega]; rfl, Tidy.refl _ _⟩
        | exact ⟨(), by rw [hinv, show letB x = false from by simp only [letB, decide_eq_false_iff_not]; omega, show Nat.beq i 0 = false from beq_ff (by omega), show digB x = true from by simp only [digB, decide_eq_true_eq]; omega]; rfl, Tidy.refl _ _⟩
        | (rw [hinv, show letB x = false from by simp only [letB, decide_eq_false_iff_not]; omega, show Nat.beq i 0 = true from by rw [show i = 0 by omega]; rfl]; simp; done)
        | (rw [hinv, show letB x = false from by simp only [letB, decide_eq_false_iff_not]; omega, show digB x = false from by simp only [digB, decide_eq_false_iff_not]; omega]; simp; done)
theorem pc_name (hW : W0 W) (s : List UInt8) (hs : s.length < 1099511627776) : PC P (gl W) 43 [.d (.str s)] (.d (.bool (nameB s))) := pc_nameW hW s (by omega)
end Fw.Tz.Na

/-
  Names of element types, of the program and of the reference; digits cut off.
-/
namespace Fw.Tz.El
open Go Go.Proofs Fw.X Fw.Tz Fw.Nu Fw.Tz.Sd Fw.Tz.Na
variable {W : World}
theorem snoc_cases (x : List UInt8) : x = [] ∨ ∃ t c, x = t ++ [c] := by
  rcases List.eq_nil_or_concat x with h | ⟨t, c, h⟩
  · exact .inl h
  · exact .inr ⟨t, c, by rw [h, List.concat_eq_append]⟩
theorem pc_elemVar_ref (hW : W0 W) (s : List UInt8) (hs : s.length < 1099511627776) : PC P (gl W) 117 [.d (.str s)] (.d (.bool (elemB s))) := by
  refine CG.start is117 ca117 rfl ?_
  cases s with
  | nil => refine s1 hW 22 0 [false] 0 [(2, (bo false))] ?_
           refine CG.ret (v' := (bo false)) (by kernel_rfl) ?_
           rfl
  | cons c t =>
    simp only [List.length_cons] at hs
    refine s1 hW 8 0 [] 1 [(2, (bo false)), (3, (io 1))] ?_
    rotate_left
    refine CG.loopL t (fun i u => [(0, (so (c :: t))), (2, (bo false)), (3, .d (.int .i64 (.ofNat (i + 1))))]) (fun i u => []) (fun i u r => (t.all digB = r.all digB)) () ?_ (Tidy.refl _ _) ?_ ?_
    · rfl
    · intro i u hi hd hinv
      refine s1 hW 4 0 [] 7 [(7, (bo (iLt (Int.ofNat (i + 1)) (Int.ofNat (List.length (c :: t))))))] ?_
      refine CG.condF (show (iLt (Int.ofNat (i + 1)) (Int.ofNat (List.length (c :: t)))) = false from f_lt (by (try simp only [zz] at *) <;> omega)) (by kernel_rfl) ?_
      refine CG.exitL (by decide) ?_
      refine s1 hW 3 9 [] 3 [(28, (bo (!iLt 30 (Int.ofNat (List.length (c :: t))))))] ?_
      refine spLtN 30 (List.length (c :: t)) (fun q12 p12 => ?_) (fun q12 p12 => ?_) <;> simp only [zz] at p12
      have q13 : (iLt 30 (Int.ofNat (List.length (c :: t)))) = true := t_lt (by (try simp only [zz] at *) <;> omega)
      rw [q13]
      refine s1 hW 2 0 [] 2 [] ?_
      refine CG.ret (v' := (bo false)) (by kernel_rfl) ?_
      rotate_left
      have q14 : (iLt 30 (Int.ofNat (List.length (c :: t)))) = false := f_lt (by (try simp only [zz] at *) <;> omega)
      rw [q14]
      refine s1 hW 0 5 [] 3 [(33, (bo (!iLt (Int.ofNat (UInt8.toNat c)) 65)))] ?_
      refine spLtN (UInt8.toNat c) 65 (fun q16 p16 => ?_) (fun q16 p16 => ?_)
      have q17 : (iLt (Int.ofNat (UInt8.toNat c)) 65) = true := t_lt (by (try simp only [zz] at *) <;> omega)
      rw [q17]
      refine s1 hW 2 0 [] 2 [] ?_
      refine CG.ret (v' := (bo false)) (by kernel_rfl) ?_
      rotate_left
      have q18 : (iLt (Int.ofNat (UInt8.toNat c)) 65) = false := f_lt (by (try simp only [zz] at *) <;> omega)
      rw [q18]
      refine s1 hW 2 0 [] 0 [(2, (bo (!iLt 90 (Int.ofNat (UInt8.toNat c)))))] ?_
      refine CG.ret (v' := (bo (!iLt 90 (Int.ofNat (UInt8.toNat c))))) (by kernel_rfl) ?_
      rotate_left
      all_goals
        simp only [V.d.injEq, D.bool.injEq, elemB, hinv, List.all_nil, Bool.and_true]
        simp only [List.length_cons] at *
        first
          | (rw [decide_eq_false (by omega), Bool.false_and]; done)
          | (rw [show decide (65 ≤ c.toNat ∧ c.toNat ≤ 90) = false from decide_eq_false (by omega), Bool.and_false]; done)
          | (rw [iLt_eq, Bool.eq_iff_iff]; simp; omega)
    · intro i u x r hd hx hlt hinv
      have hx' : (c :: t)[i + 1]? = some x := by simpa using hx
      rw [List.all_cons] at hinv
      refine s1 hW 4 0 [] 7 [(7, (bo (iLt (Int.ofNat (i + 1)) (Int.ofNat (List.length (c :: t))))))] ?_
      refine CG.condT (show (iLt (Int.ofNat (i + 1)) (Int.ofNat (List.length (c :: t)))) = true from t_lt (by (try simp only [zz] at *) <;> omega)) (by kernel_rfl) ?_
      refine s1 hW 5 2 [] 7 [(10, (so (c :: t))), (11, (no (i + 1)))] ?_
      refine CG.ixS hx' rfl (by kernel_rfl) ?_
      refine s1 hW 0 2 [] 7 [(14, (bo (iLt (Int.ofNat (UInt8.toNat x)) 48)))] ?_
      refine spLtN (UInt8.toNat x) 48 (fun q16 p16 => ?_) (fun q16 p16 => ?_)
      have q17 : (iLt (Int.ofNat (UInt8.toNat x)) 48) = true := t_lt (by (try simp only [zz] at *) <;> omega)
      rw [q17]
      refine s1 hW 6 0 [true] 7 [] ?_
      refine CG.retL (v' := (bo false)) (by kernel_rfl) ?_
      rotate_left
      have q18 : (iLt (Int.ofNat (UInt8.toNat x)) 48) = false := f_lt (by (try simp only [zz] at *) <;> omega)
      rw [q18]
      refine s1 hW 0 2 [] 15 [(15, (so (c :: t))), (16, (no (i + 1)))] ?_
      refine CG.ixS hx' rfl (by kernel_rfl) ?_
      refine s1 hW 2 0 [] 7 [(19, (bo (iLt 57 (Int.ofNat (UInt8.toNat x)))))] ?_
      refine spLtN 57 (UInt8.toNat x) (fun q19 p19 => ?_) (fun q19 p19 => ?_)
      refine CG.condT (show (iLt 57 (Int.ofNat (UInt8.toNat x))) = true from t_lt (by (try simp only [zz] at *) <;> omega)) (by kernel_rfl) ?_
      refine s1 hW 3 0 [] 7 [] ?_
      refine CG.retL (v' := (bo false)) (by kernel_rfl) ?_
      rotate_left
      refine CG.condF (show (iLt 57 (Int.ofNat (UInt8.toNat x))) = false from f_lt (by (try simp only [zz] at *) <;> omega)) (by kernel_rfl) ?_
      refine s3 hW 3 3 [] [(0, (so (c :: t))), (2, (bo false)), (3, (io (wrapF IntKind.i64 (iAdd (Int.ofNat (i + 1)) 1))))] ([]) ?_
      refine CG.endL rfl ?_
      rw [wrapI (by omega)]
      rotate_left
      all_goals first
        | (rw [elemB, hinv, show digB x = false from by simp only [digB, decide_eq_false_iff_not]; omega]; simp; done)
        | (rw [wrapI (by omega) (by omega)]; exact ⟨(), by rw [hinv, show digB x = true from by simp only [digB, decide_eq_true_eq]; omega]; rfl, Tidy.refl _ _⟩)
        | exact ⟨(), by rw [hinv, show digB x = true from by simp only [digB, decide_eq_true_eq]; omega]; rfl, Tidy.refl _ _⟩
def digN (n : Nat) : Bool := Nat.ble 48 n && Nat.ble n 57
def digBox : Box := .cells ((List.range 256).map fun n => .d (.bool (digN n)))
def hD : Heap := [some digBox]
theorem kHas (W : World) : ((List.range 256).map fun n => rawX W kt0 .e 40 206 [.ptr 0 256 0, .d (.int .u8 (.ofNat n))] hD) = ((List.range 256).map fun n => some (.d (.bool (digN n)), hD)) := by kernel_rfl
theorem digN_eq (b : UInt8) : digN b.toNat = digB b := by
  unfold digN digB
  rw [Bool.eq_iff_iff]
  simp [Nat.ble_eq]
theorem wf_has (hW : W0 W) (b : UInt8) : WF P (gl W) 206 [.ptr 0 256 0, .d (.int .u8 b.toNat)] hD (Same (.d (.bool (digB b))) hD) := by
  have h := congrArg (fun l => l[b.toNat]?) (kHas W)
  have hb : b.toNat < 256 := UInt8.toNat_lt b
  simp only [List.getElem?_map, List.getElem?_range hb, Option.map_some, Option.some.injEq] at h
  rw [digN_eq] at h
  exact (rawX_ok hW ex0 40).fn _ _ _ _ _ rfl h
theorem wf_trimL (hW : W0 W) (s : List UInt8) (hs : s.length < 1099511627776) : WF P (gl W) 149 [.d (.str s), .ptr 0 256 0] hD (Same (.d (.str (trimL s))) hD) := by
  refine CG.startW is149 ca149 rfl ?_
  refine s1 hW 5 0 [] 3 [(4, (so []))] ?_
  rotate_left
  refine CG.loopA (α := List UInt8) (fun x => [(0, .d (.str x)), (1, .ptr 0 256 0), (4, .d (.str []))]) (fun _ => [some digBox]) (fun x => trimL s = trimL x ∧ x.length < 1099511627776) List.length s ⟨rfl, hs⟩ (Tidy.refl _ _) ?_
  rintro x ⟨hx, hxl⟩
  cases x with
  | nil =>
    refine s1 hW 5 0 [false] 7 [] ?_
    refine CG.exitL (by decide) ?_
    refine s1 hW 5 0 [] 4 [] ?_
    refine CG.retW (v' := (so [])) (by kernel_rfl) ?_
    rotate_left
    exact ⟨by rw [hx]; rfl, rfl⟩
  | cons c t =>
    refine s1 hW 10 3 [true] 7 [(8, (.ptr 0 256 0)), (10, (.d (.int .u8 (.ofNat (UInt8.toNat c)))))] ?_
    refine CG.wf (wf_has hW c) rfl rfl (by kernel_rfl) rfl ?_
    refine s1 hW 2 0 [] 7 [(12, (bo (!digB c)))] ?_
    refine sp (digB c) (fun q9 => ?_) (fun q9 => ?_)
    refine CG.condF (b := (!digB c)) (by rw [q9]; rfl) (by kernel_rfl) ?_
    refine s1 hW 2 1 [] 7 [(13, (so (c :: t)))] ?_
    refine CG.popB ?_
    refine CG.ssl 1 (List.length (c :: t)) (s := (c :: t)) rfl (by kernel_rfl) (by kernel_rfl) (by kernel_rfl) (by kernel_rfl) (by (try simp only [zz] at *) <;> omega) rfl ?_
    refine s3 hW 0 1 [] [(0, (so (List.drop 1 (List.take (List.length (c :: t)) (c :: t))))), (1, (.ptr 0 256 0)), (4, (so []))] ([some digBox]) ?_
    refine CG.endL rfl ?_
    rotate_left
    refine CG.condT (b := (!digB c)) (by rw [q9]; rfl) (by kernel_rfl) ?_
    refine CG.exitL (by decide) ?_
    refine s1 hW 5 0 [] 0 [(4, (so (c :: t)))] ?_
    refine CG.retW (v' := (so (c :: t))) (by kernel_rfl) ?_
    rotate_left
    · rw [show List.drop 1 (List.take (c :: t).length (c :: t)) = t from by rw [List.take_length]; rfl]
      exact ⟨t, ⟨by rw [hx, trimL, List.dropWhile_cons, show digB c = true by assumption]; rfl, by simp only [List.length_cons] at hxl; omega⟩, by simp, Tidy.refl _ _⟩
    · exact ⟨by rw [hx, trimL, List.dropWhile_cons, show digB c = false by assumption]; rfl, rfl⟩
theorem wf_trimR (hW : W0 W) (s : List UInt8) (hs : s.length < 1099511627776) : WF P (gl W) 150 [.d (.str s), .ptr 0 256 0] hD (Same (.d (.str (trimR s))) hD) := by
  refine CG.startW is150 ca150 rfl ?_
  refine s1 hW 5 0 [] 3 [(4, (so []))] ?_
  rotate_left
  refine CG.loopA (α := List UInt8) (fun x => [(0, .d (.str x)), (1, .ptr 0 256 0), (4, .d (.str []))]) (fun _ => [some digBox]) (fun x => trimR s = trimR x ∧ x.length < 1099511627776) List.length s ⟨rfl, hs⟩ (Tidy.refl _ _) ?_
  rintro x ⟨hx, hxl⟩
  rcases snoc_cases x with rfl | ⟨t, c, rfl⟩
  · refine s1 hW 5 0 [false] 7 [] ?_
    refine CG.exitL (by decide) ?_
    refine s1 hW 5 0 [] 4 [] ?_
    refine CG.retW (v' := (so [])) (by kernel_rfl) ?_
    rotate_left
    exact ⟨by rw [hx]; rfl, rfl⟩
  · have hl : (t ++ [c]).length = t.length + 1 := by simp
    have hc : (t ++ [c])[t.length]? = some c := by simp
    refine s1 hW 4 0 [] 7 [(7, (bo (iLt 0 (Int.ofNat (List.length (t ++ [c]))))))] ?_
    refine CG.condT (show (iLt 0 (Int.ofNat (List.length (t ++ [c])))) = true from t_lt (by (try simp only [zz] at *) <;> omega)) (by kernel_rfl) ?_
    refine s1 hW 5 5 [] 7 [(8, (.ptr 0 256 0)), (9, (so (t ++ [c]))), (12, (io (wrapF IntKind.i64 (Int.ofNat (List.length (t ++ [c])) - 1))))] ?_
    rotate_left
    rw [hl, wrapPred (by omega)]
    refine CG.ixS hc rfl (by kernel_rfl) ?_
    refine CG.wf (wf_has hW c) rfl rfl (by kernel_rfl) rfl ?_
    refine s1 hW 2 0 [] 7 [(15, (bo (!digB c)))] ?_
    refine sp (digB c) (fun q11 => ?_) (fun q11 => ?_)
    refine CG.condF (b := (!digB c)) (by rw [q11]; rfl) (by kernel_rfl) ?_
    refine s1 hW 2 4 [] 7 [(16, (so (t ++ [c]))), (19, (io (wrapF IntKind.i64 (Int.ofNat (List.length (t ++ [c])) - 1))))] ?_
    refine CG.popB ?_
    rotate_left
    refine CG.condT (b := (!digB c)) (by rw [q11]; rfl) (by kernel_rfl) ?_
    refine CG.exitL (by decide) ?_
    refine s1 hW 5 0 [] 0 [(4, (so (t ++ [c])))] ?_
    refine CG.retW (v' := (so (t ++ [c]))) (by kernel_rfl) ?_
    rotate_left
    · rw [hl, wrapPred (by omega)]
      refine CG.ssl 0 (List.length t) (s := (t ++ [c])) rfl (by kernel_rfl) (by kernel_rfl) (by kernel_rfl) (by kernel_rfl) (by (try simp only [zz] at *) <;> omega) rfl ?_
      refine s3 hW 0 1 [] [(0, (so (List.drop 0 (List.take (List.length t) (t ++ [c]))))), (1, (.ptr 0 256 0)), (4, (so []))] ([some digBox]) ?_
      refine CG.endL rfl ?_
      rotate_left
      rw [show List.drop 0 (List.take t.length (t ++ [c])) = t by simp]
      exact ⟨t, ⟨by rw [hx, trimR_snoc, show digB c = true by assumption]; rfl, by omega⟩, by omega, Tidy.refl _ _⟩
    · exact ⟨by rw [hx, trimR_snoc, show digB c = false by assumption]; rfl, rfl⟩
theorem dropW_len {p : UInt8 → Bool} : ∀ (l : List UInt8), (l.dropWhile p).length ≤ l.length
  | [] => Nat.le_refl _
  | a :: l => by
    rw [List.dropWhile_cons]
    split
    · exact Nat.le_trans (dropW_len l) (Nat.le_succ _)
    · exact Nat.le_refl _
theorem trimR_len (s : List UInt8) : (trimR s).length ≤ s.length := by
  unfold trimR
  rw [List.length_reverse]
  exact Nat.le_trans (dropW_len _) (by rw [List.length_reverse]; exact Nat.le_refl _)
theorem bytesEq_nil (l : List UInt8) : Fw.bytesEq l [] = decide (l = []) := by cases l <;> rfl
theorem pc_trim (hW : W0 W) (s : List UInt8) (hs : s.length < 1099511627776) : PC P (gl W) 111 [.d (.str s), .d (.str [48, 49, 50, 51, 52, 53, 54, 55, 56, 57])] (.d (.str (trimL (trimR s)))) := by
  have hl := trimR_len s
  have hr : (trimR s).length < 1099511627776 := by omega
  refine CG.start is111 ca111 rfl ?_
  cases s with
  | nil => refine s1 hW 11 0 [true] 3 [(4, (so []))] ?_
           refine CG.ret (v' := (so [])) (by kernel_rfl) ?_
           rfl
  | cons c t =>
    refine s4 hW 26 1 [false, false, true] 3 [(4, (so [])), (5, (.ptr 0 256 0)), (35, (so (c :: t)))] [(0, (.cells [(bo false), (bo false), (bo false), (bo false), (bo false), (bo false), (bo false), (bo false), (bo false), (bo false), (bo false), (bo false), (bo false), (bo false), (bo false), (bo false), (bo false), (bo false), (bo false), (bo false), (bo false), (bo false), (bo false), (bo false), (bo false), (bo false), (bo false), (bo false), (bo false), (bo false), (bo false), (bo false), (bo false), (bo false), (bo false), (bo false), (bo false), (bo false), (bo false), (bo false), (bo false), (bo false), (bo false), (bo false), (bo false), (bo false), (bo false), (bo false), (bo true), (bo true), (bo true), (bo true), (bo true), (bo true), (bo true), (bo true), (bo true), (bo true), (bo false), (bo false), (bo false), (bo false), (bo false), (bo false), (bo false), (bo false), (bo false), (bo false), (bo false), (bo false), (bo false), (bo false), (bo false), (bo false), (bo false), (bo false), (bo false), (bo false), (bo false), (bo false), (bo false), (bo false), (bo false), (bo false), (bo false), (bo false), (bo false), (bo false), (bo false), (bo false), (bo false), (bo false), (bo false), (bo false), (bo false), (bo false), (bo false), (bo false), (bo false), (bo false), (bo false), (bo false), (bo false), (bo false), (bo false), (bo false), (bo false), (bo false), (bo false), (bo false), (bo false), (bo false), (bo false), (bo false), (bo false), (bo false), (bo false), (bo false), (bo false), (bo false), (bo false), (bo false), (bo false), (bo false), (bo false), (bo false), (bo false), (bo false), (bo false), (bo false), (bo false), (bo false), (bo false), (bo false), (bo false), (bo false), (bo false), (bo false), (bo false), (bo false), (bo false), (bo false), (bo false), (bo false), (bo false), (bo false), (bo false), (bo false), (bo false), (bo false), (bo false), (bo false), (bo false), (bo false), (bo false), (bo false), (bo false), (bo false), (bo false), (bo false), (bo false), (bo false), (bo false), (bo false), (bo false), (bo false), (bo false), (bo false), (bo false), (bo false), (bo false), (bo false), (bo false), (bo false), (bo false), (bo false), (bo false), (bo false), (bo false), (bo false), (bo false), (bo false), (bo false), (bo false), (bo false), (bo false), (bo false), (bo false), (bo false), (bo false), (bo false), (bo false), (bo false), (bo false), (bo false), (bo false), (bo false), (bo false), (bo false), (bo false), (bo false), (bo false), (bo false), (bo false), (bo false), (bo false), (bo false), (bo false), (bo false), (bo false), (bo false), (bo false), (bo false), (bo false), (bo false), (bo false), (bo false), (bo false), (bo false), (bo false), (bo false), (bo false), (bo false), (bo false), (bo false), (bo false), (bo false), (bo false), (bo false), (bo false), (bo false), (bo false), (bo false), (bo false), (bo false), (bo false), (bo false), (bo false), (bo false), (bo false), (bo false), (bo false), (bo false), (bo false), (bo false), (bo false), (bo false), (bo false), (bo false), (bo false), (bo false), (bo false), (bo false), (bo false), (bo false), (bo false)]))] ?_
    refine CG.wf (wf_trimR hW (c :: t) hs) rfl rfl (by kernel_rfl) rfl ?_
    refine CG.wf (wf_trimL hW (trimR (c :: t)) hr) rfl rfl (by kernel_rfl) rfl ?_
    refine s1 hW 2 0 [] 3 [(4, (so (trimL (trimR (c :: t)))))] ?_
    refine CG.ret (v' := (so (trimL (trimR (c :: t))))) (by kernel_rfl) ?_
    with_reducible rfl
theorem pc_elemVar (hW : W0 W) (s : List UInt8) (hs : s.length < 1099511627776) : PC P (gl W) 74 [.d (.str s)] (.d (.bool (elemB s))) := by
  refine CG.start is74 ca74 rfl ?_
  cases s with
  | nil => refine s1 hW 11 0 [true] 1 [(2, (bo false))] ?_
           refine CG.ret (v' := (bo false)) (by kernel_rfl) ?_
           rfl
  | cons c t =>
    have ht : t.length < 1099511627776 := by simp only [List.length_cons] at hs; omega
    refine s1 hW 5 9 [] 1 [(2, (bo false)), (11, (bo (iLt 30 (Int.ofNat (List.length (c :: t))))))] ?_
    refine spLtN 30 (List.length (c :: t)) (fun q8 p8 => ?_) (fun q8 p8 => ?_) <;> simp only [zz] at p8
    have q9 : (iLt 30 (Int.ofNat (List.length (c :: t)))) = true := t_lt (by (try simp only [zz] at *) <;> omega)
    rw [q9]
    refine s1 hW 6 0 [true] 3 [] ?_
    refine CG.ret (v' := (bo false)) (by kernel_rfl) ?_
    rotate_left
    have q10 : (iLt 30 (Int.ofNat (List.length (c :: t)))) = false := f_lt (by (try simp only [zz] at *) <;> omega)
    rw [q10]
    refine s1 hW 0 5 [] 3 [(16, (bo (iLt (Int.ofNat (UInt8.toNat c)) 65)))] ?_
    refine spLtN (UInt8.toNat c) 65 (fun q12 p12 => ?_) (fun q12 p12 => ?_)
    have q13 : (iLt (Int.ofNat (UInt8.toNat c)) 65) = true := t_lt (by (try simp only [zz] at *) <;> omega)
    rw [q13]
    refine s1 hW 6 0 [true] 3 [] ?_
    refine CG.ret (v' := (bo false)) (by kernel_rfl) ?_
    rotate_left
    have q14 : (iLt (Int.ofNat (UInt8.toNat c)) 65) = false := f_lt (by (try simp only [zz] at *) <;> omega)
    rw [q14]
    refine s1 hW 2 0 [] 3 [(20, (bo (iLt 90 (Int.ofNat (UInt8.toNat c)))))] ?_
    refine spLtN 90 (UInt8.toNat c) (fun q15 p15 => ?_) (fun q15 p15 => ?_)
    refine CG.condT (show (iLt 90 (Int.ofNat (UInt8.toNat c))) = true from t_lt (by (try simp only [zz] at *) <;> omega)) (by kernel_rfl) ?_
    refine s1 hW 3 0 [] 3 [] ?_
    refine CG.ret (v' := (bo false)) (by kernel_rfl) ?_
    rotate_left
    refine CG.condF (show (iLt 90 (Int.ofNat (UInt8.toNat c))) = false from f_lt (by (try simp only [zz] at *) <;> omega)) (by kernel_rfl) ?_
    refine s1 hW 3 1 [] 2 [(21, (so (c :: t)))] ?_
    refine CG.ssl 1 (List.length (c :: t)) (s := (c :: t)) rfl (by kernel_rfl) (by kernel_rfl) (by kernel_rfl) (by kernel_rfl) (by (try simp only [zz] at *) <;> omega) rfl ?_
    rotate_left
    · rw [elemB, decide_eq_false (by simp only [List.length_cons] at *; omega)]; rfl
    · rw [elemB, show decide (65 ≤ c.toNat ∧ c.toNat ≤ 90) = false from decide_eq_false (by omega), Bool.and_false]; rfl
    · rw [elemB, show decide (65 ≤ c.toNat ∧ c.toNat ≤ 90) = false from decide_eq_false (by omega), Bool.and_false]; rfl
    · rw [show List.drop 1 (List.take (c :: t).length (c :: t)) = t from by rw [List.take_length]; rfl]
      refine CG.pg (pc_trim hW _ ht) rfl (by kernel_rfl) ?_
      refine s1 hW 2 0 [] 0 [(2, (bo (bytesEq (trimL (trimR t)) [])))] ?_
      refine CG.ret (v' := (bo (bytesEq (trimL (trimR t)) []))) (by kernel_rfl) ?_
      rotate_left
      rw [elemB, decide_eq_true (by simp only [List.length_cons] at *; omega), decide_eq_true (by omega), bytesEq_nil, Bool.true_and, Bool.true_and, V.d.injEq, D.bool.injEq, Bool.eq_iff_iff, decide_eq_true_eq]
      exact trim_nil t
end Fw.Tz.El

/-
  Expressions, shapes and types that are valid; what the program and the reference say of any.
-/
namespace Fw.Tz.Va
open Go Go.Proofs Fw.X Fw.Tz Fw.Nu Fw.Tz.Sd Fw.Tz.Na
variable {W : World}
structure Cf where
  var : List UInt8
  c : Int
def Cf.enc (x : Cf) : List D := [.str x.var, .int .i64 x.c]
structure Lin where
  c : Int
  ts : List Cf
def Lin.enc (x : Lin) : List D := [.int .i64 x.c, .list (x.ts.map Cf.enc)]
structure Shp where
  row : List UInt8
  dims : List Lin
structure Ty where
  elem : List UInt8
  row : List UInt8
  dims : List Lin
def Ty.enc (x : Ty) : List D := [.str x.elem, .str x.row, .list (x.dims.map Lin.enc)]
def lessO : Option (List UInt8) → List UInt8 → Bool
  | none, _ => true
  | some q, v => Fw.bytesLess q v
def validTs : Option (List UInt8) → List Cf → Bool
  | _, [] => true
  | p, t :: r => nameB t.var && !(t.c == 0) && smallB t.c && lessO p t.var && validTs (some t.var) r
def validL (c : Int) (ts : List Cf) : Bool := smallB c && decide (ts.length ≤ 12) && validTs none ts
def Lin.ok (x : Lin) : Bool := validL x.c x.ts
theorem pc_valid_ref (hW : W0 W) (c : Int) (ts : List Cf) (hl : ts.length < 1099511627776) : PC P (gl W) 22 [.agg [.d (.int .i64 c), .d (.list (ts.map Cf.enc))]] (.d (.bool (validL c ts))) := by
  refine CG.start is22 ca22 rfl ?_
  refine s4 hW 5 2 [] 0 [(1, (.ptr 0 2 0)), (2, (bo false)), (6, (io c))] [(0, (.cells [(io c), (lo Cf.enc ts)]))] ?_
  refine CG.pg (pc_small_ref hW c) rfl (by kernel_rfl) ?_
  refine s1 hW 0 2 [] 3 [(9, (bo (!smallB c)))] ?_
  refine sp (smallB c) (fun q6 => ?_) (fun q6 => ?_)
  rw [q6]
  refine s1 hW 2 0 [] 3 [(14, (bo (iLt 12 (Int.ofNat (List.length (List.map Cf.enc ts))))))] ?_
  refine spLtN 12 (List.length (List.map Cf.enc ts)) (fun q7 p7 => ?_) (fun q7 p7 => ?_) <;> simp only [zz] at p7
  refine CG.condT (show (iLt 12 (Int.ofNat (List.length (List.map Cf.enc ts)))) = true from t_lt (by (try simp only [zz] at *) <;> omega)) (by kernel_rfl) ?_
  refine s1 hW 3 0 [] 3 [] ?_
  refine CG.ret (v' := (bo false)) (by kernel_rfl) ?_
  rotate_left
  refine CG.condF (show (iLt 12 (Int.ofNat (List.length (List.map Cf.enc ts)))) = false from f_lt (by (try simp only [zz] at *) <;> omega)) (by kernel_rfl) ?_
  refine s1 hW 7 0 [] 3 [(3, (io 0))] ?_
  rotate_left
  rw [q6]
  refine s1 hW 6 0 [true] 3 [] ?_
  refine CG.ret (v' := (bo false)) (by kernel_rfl) ?_
  rotate_left
  · rw [validL, decide_eq_false (by omega), Bool.and_false, Bool.false_and]
  · skip
    refine CG.loopL ts (fun i a => [(1, (.ptr 0 2 0)), (2, (bo false)), (3, .d (.int .i64 (.ofNat i)))]) (fun i a => [some (.cells [(io c), (lo Cf.enc ts)])]) (fun i a r => (validTs none ts = validTs a r ∧ (i = 0 → a = none) ∧ ∀ k, i = k + 1 → ∃ y, ts[k]? = some y ∧ a = some y.var)) none ?_ (Tidy.refl _ _) ?_ ?_
    · exact ⟨rfl, fun _ => rfl, fun k hk => by omega⟩
    · intro i a hi hd hinv
      obtain ⟨hv, -, -⟩ := hinv
      refine s1 hW 4 0 [] 7 [(19, (bo (iLt (Int.ofNat i) (Int.ofNat (List.length (List.map Cf.enc ts))))))] ?_
      refine CG.condF (show (iLt (Int.ofNat i) (Int.ofNat (List.length (List.map Cf.enc ts)))) = false from f_lt (by (try simp only [zz] at *) <;> omega)) (by kernel_rfl) ?_
      refine CG.exitL (by decide) ?_
      refine s1 hW 5 0 [] 0 [(2, (bo true))] ?_
      refine CG.ret (v' := (bo true)) (by kernel_rfl) ?_
      rotate_left
      rw [validL, hv, decide_eq_true (by omega)]; simp [validTs, *]
    · intro i a x r hd hx hlt hinv
      obtain ⟨hv, h0, h1⟩ := hinv
      rw [validTs] at hv
      cases i with
      | zero =>
        cases h0 rfl
        refine s1 hW 4 0 [] 7 [(19, (bo (iLt 0 (Int.ofNat (List.length (List.map Cf.enc ts))))))] ?_
        refine CG.condT (show (iLt 0 (Int.ofNat (List.length (List.map Cf.enc ts)))) = true from t_lt (by (try simp only [zz] at *) <;> omega)) (by kernel_rfl) ?_
        refine s1 hW 5 3 [] 7 [(23, (lo Cf.enc ts)), (24, (io 0))] ?_
        refine CG.ix (idx_map (enc := Cf.enc) hx) rfl (by kernel_rfl) ?_
        refine s4 hW 3 0 [] 7 [(4, (.ptr 1 2 0))] [(1, (.cells [(so (Cf.var x)), (io (Cf.c x))]))] ?_
        refine CG.drawA orders (by kernel_rfl) (by kernel_rfl) ?_
        refine AO.rd 2 [(27, (.ptr 1 2 0)), (28, (so (Cf.var x)))] (by kernel_rfl) ?_
        refine AO.pcG (pc_name_ref hW (Cf.var x)) rfl (by kernel_rfl) (by kernel_rfl) ?_
        refine AO.rd 2 [(30, (bo (!nameB (Cf.var x)))), (31, (bo (!nameB (Cf.var x))))] (by kernel_rfl) ?_
        refine sp (nameB (Cf.var x)) (fun q17 => ?_) (fun q17 => ?_)
        rw [q17]
        refine AO.rd 5 [(32, (.ptr 1 2 1)), (33, (io (Cf.c x))), (34, (bo (Cf.c x == 0))), (35, (bo (Cf.c x == 0))), (36, (bo (Cf.c x == 0)))] (by kernel_rfl) ?_
        refine spBe (Cf.c x) 0 (fun q19 p19 => ?_) (fun q19 p19 => ?_)
        rw [q19]
        refine AO.rd 21 [(37, (.tuple [])), (38, (.tuple [])), (39, (.tuple [])), (40, (.tuple [])), (41, (bo true)), (42, (bo true)), (43, (.tuple [])), (44, (.tuple [])), (45, (.tuple [])), (46, (.tuple [])), (47, (.tuple [])), (48, (.tuple [])), (49, (.tuple [])), (50, (.tuple [])), (51, (.tuple [])), (52, (.tuple [])), (53, (.tuple [])), (54, (.tuple [])), (55, (.tuple [])), (56, (.tuple [])), (57, (bo true))] (by kernel_rfl) ?_
        refine AO.done [1, 2, 3, 57] rfl rfl (by kernel_rfl) ?_
        refine s1 hW 5 0 [true] 7 [] ?_
        refine CG.retL (v' := (bo false)) (by kernel_rfl) ?_
        rotate_left
        rw [q19]
        refine AO.rd 2 [(37, (.ptr 1 2 1)), (38, (io (Cf.c x)))] (by kernel_rfl) ?_
        refine AO.pcG (pc_small_ref hW (Cf.c x)) rfl (by kernel_rfl) (by kernel_rfl) ?_
        refine AO.rd 3 [(40, (bo (!smallB (Cf.c x)))), (41, (bo (!smallB (Cf.c x)))), (42, (bo (!smallB (Cf.c x))))] (by kernel_rfl) ?_
        refine sp (smallB (Cf.c x)) (fun q20 => ?_) (fun q20 => ?_)
        rw [q20]
        refine AO.rd 15 [(43, (io 0)), (44, (bo false)), (45, (bo false)), (46, (.tuple [])), (47, (.tuple [])), (48, (.tuple [])), (49, (.tuple [])), (50, (.tuple [])), (51, (.tuple [])), (52, (.tuple [])), (53, (.tuple [])), (54, (.tuple [])), (55, (.tuple [])), (56, (bo false)), (57, (bo false))] (by kernel_rfl) ?_
        refine AO.done [1, 2, 3, 57] rfl rfl (by kernel_rfl) ?_
        refine s3 hW 5 3 [false] [(1, (.ptr 0 2 0)), (2, (bo false)), (3, (io 1))] ([some (.cells [(io c), (lo Cf.enc ts)]), some (.cells [(so (Cf.var x)), (io (Cf.c x))])]) ?_
        refine CG.endL rfl ?_
        rotate_left
        rw [q20]
        refine AO.rd 15 [(43, (.tuple [])), (44, (.tuple [])), (45, (.tuple [])), (46, (.tuple [])), (47, (.tuple [])), (48, (.tuple [])), (49, (.tuple [])), (50, (.tuple [])), (51, (.tuple [])), (52, (.tuple [])), (53, (.tuple [])), (54, (.tuple [])), (55, (.tuple [])), (56, (.tuple [])), (57, (bo true))] (by kernel_rfl) ?_
        refine AO.done [1, 2, 3, 57] rfl rfl (by kernel_rfl) ?_
        refine s1 hW 5 0 [true] 7 [] ?_
        refine CG.retL (v' := (bo false)) (by kernel_rfl) ?_
        rotate_left
        rw [q17]
        refine AO.rd 26 [(32, (.tuple [])), (33, (.tuple [])), (34, (.tuple [])), (35, (bo true)), (36, (bo true)), (37, (.tuple [])), (38, (.tuple [])), (39, (.tuple [])), (40, (.tuple [])), (41, (bo true)), (42, (bo true)), (43, (.tuple [])), (44, (.tuple [])), (45, (.tuple [])), (46, (.tuple [])), (47, (.tuple [])), (48, (.tuple [])), (49, (.tuple [])), (50, (.tuple [])), (51, (.tuple [])), (52, (.tuple [])), (53, (.tuple [])), (54, (.tuple [])), (55, (.tuple [])), (56, (.tuple [])), (57, (bo true))] (by kernel_rfl) ?_
        refine AO.done [1, 2, 3, 57] rfl rfl (by kernel_rfl) ?_
        refine s1 hW 5 0 [true] 7 [] ?_
        refine CG.retL (v' := (bo false)) (by kernel_rfl) ?_
        rotate_left
        all_goals first
          | (simp only [validL, hv, lessO]; simp [*]; done)
          | (refine ⟨some x.var, ⟨by rw [hv]; simp [lessO, *], fun h => by omega, fun k hk => ⟨x, by rw [show k = 0 by omega]; exact hx, rfl⟩⟩, Tidy.trim 1 [1, 2, 3] rfl rfl rfl rfl rfl⟩; done)
      | succ k =>
        obtain ⟨y, hy, rfl⟩ := h1 k rfl
        refine s1 hW 4 0 [] 7 [(19, (bo (iLt (Int.ofNat (k + 1)) (Int.ofNat (List.length (List.map Cf.enc ts))))))] ?_
        refine CG.condT (show (iLt (Int.ofNat (k + 1)) (Int.ofNat (List.length (List.map Cf.enc ts)))) = true from t_lt (by (try simp only [zz] at *) <;> omega)) (by kernel_rfl) ?_
        refine s1 hW 5 3 [] 7 [(23, (lo Cf.enc ts)), (24, (no (k + 1)))] ?_
        refine CG.ix (idx_map (enc := Cf.enc) hx) rfl (by kernel_rfl) ?_
        refine s4 hW 3 0 [] 7 [(4, (.ptr 1 2 0))] [(1, (.cells [(so (Cf.var x)), (io (Cf.c x))]))] ?_
        refine CG.drawA orders (by kernel_rfl) (by kernel_rfl) ?_
        refine AO.rd 2 [(27, (.ptr 1 2 0)), (28, (so (Cf.var x)))] (by kernel_rfl) ?_
        refine AO.pcG (pc_name_ref hW (Cf.var x)) rfl (by kernel_rfl) (by kernel_rfl) ?_
        refine AO.rd 2 [(30, (bo (!nameB (Cf.var x)))), (31, (bo (!nameB (Cf.var x))))] (by kernel_rfl) ?_
        refine sp (nameB (Cf.var x)) (fun q20 => ?_) (fun q20 => ?_)
        rw [q20]
        refine AO.rd 5 [(32, (.ptr 1 2 1)), (33, (io (Cf.c x))), (34, (bo (Cf.c x == 0))), (35, (bo (Cf.c x == 0))), (36, (bo (Cf.c x == 0)))] (by kernel_rfl) ?_
        refine spBe (Cf.c x) 0 (fun q22 p22 => ?_) (fun q22 p22 => ?_)
        rw [q22]
        refine AO.rd 21 [(37, (.tuple [])), (38, (.tuple [])), (39, (.tuple [])), (40, (.tuple [])), (41, (bo true)), (42, (bo true)), (43, (.tuple [])), (44, (.tuple [])), (45, (.tuple [])), (46, (.tuple [])), (47, (.tuple [])), (48, (.tuple [])), (49, (.tuple [])), (50, (.tuple [])), (51, (.tuple [])), (52, (.tuple [])), (53, (.tuple [])), (54, (.tuple [])), (55, (.tuple [])), (56, (.tuple [])), (57, (bo true))] (by kernel_rfl) ?_
        refine AO.done [1, 2, 3, 57] rfl rfl (by kernel_rfl) ?_
        refine s1 hW 5 0 [true] 7 [] ?_
        refine CG.retL (v' := (bo false)) (by kernel_rfl) ?_
        rotate_left
        rw [q22]
        refine AO.rd 2 [(37, (.ptr 1 2 1)), (38, (io (Cf.c x)))] (by kernel_rfl) ?_
        refine AO.pcG (pc_small_ref hW (Cf.c x)) rfl (by kernel_rfl) (by kernel_rfl) ?_
        refine AO.rd 3 [(40, (bo (!smallB (Cf.c x)))), (41, (bo (!smallB (Cf.c x)))), (42, (bo (!smallB (Cf.c x))))] (by kernel_rfl) ?_
        refine sp (smallB (Cf.c x)) (fun q23 => ?_) (fun q23 => ?_)
        rw [q23]
        refine AO.rd 3 [(43, (no (k + 1))), (44, (bo (decide (0 < Int.ofNat (k + 1))))), (45, (bo (decide (0 < Int.ofNat (k + 1)))))] (by kernel_rfl) ?_
        have q24 : (decide (0 < Int.ofNat (k + 1))) = true := decide_eq_true (by (try simp only [zz] at *) <;> omega)
        rw [q24]
        refine AO.rd 4 [(46, (.ptr 0 2 1)), (47, (lo Cf.enc ts)), (48, (no (k + 1))), (49, (io (IntKind.wrap IntKind.i64 (Int.ofNat (k + 1) - 1))))] (by kernel_rfl) ?_
        rw [wrapPredW (by omega)]
        refine AO.idx (idx_map (enc := Cf.enc) hy) rfl (by kernel_rfl) (by kernel_rfl) (by kernel_rfl) rfl ?_
        refine AO.rd 7 [(51, (.cptr [(.str (Cf.var y))])), (52, (so (Cf.var y))), (53, (.ptr 1 2 0)), (54, (so (Cf.var x))), (55, (bo (!bytesLess (Cf.var y) (Cf.var x)))), (56, (bo (!bytesLess (Cf.var y) (Cf.var x)))), (57, (bo (!bytesLess (Cf.var y) (Cf.var x))))] (by kernel_rfl) ?_
        refine AO.done [1, 2, 3, 57] rfl rfl (by kernel_rfl) ?_
        refine s1 hW 1 0 [] 15 [] ?_
        refine sp (bytesLess (Cf.var y) (Cf.var x)) (fun q25 => ?_) (fun q25 => ?_)
        refine CG.condF (b := (!bytesLess (Cf.var y) (Cf.var x))) (by rw [q25]; rfl) (by kernel_rfl) ?_
        refine s3 hW 3 3 [] [(1, (.ptr 0 2 0)), (2, (bo false)), (3, (io (wrapF IntKind.i64 (iAdd (Int.ofNat (k + 1)) 1))))] ([some (.cells [(io c), (lo Cf.enc ts)]), some (.cells [(so (Cf.var x)), (io (Cf.c x))])]) ?_
        refine CG.endL rfl ?_
        rw [wrapI (by omega)]
        rotate_left
        refine CG.condT (b := (!bytesLess (Cf.var y) (Cf.var x))) (by rw [q25]; rfl) (by kernel_rfl) ?_
        refine s1 hW 3 0 [] 7 [] ?_
        refine CG.retL (v' := (bo false)) (by kernel_rfl) ?_
        rotate_left
        rw [q23]
        refine AO.rd 15 [(43, (.tuple [])), (44, (.tuple [])), (45, (.tuple [])), (46, (.tuple [])), (47, (.tuple [])), (48, (.tuple [])), (49, (.tuple [])), (50, (.tuple [])), (51, (.tuple [])), (52, (.tuple [])), (53, (.tuple [])), (54, (.tuple [])), (55, (.tuple [])), (56, (.tuple [])), (57, (bo true))] (by kernel_rfl) ?_
        refine AO.done [1, 2, 3, 57] rfl rfl (by kernel_rfl) ?_
        refine s1 hW 5 0 [true] 7 [] ?_
        refine CG.retL (v' := (bo false)) (by kernel_rfl) ?_
        rotate_left
        rw [q20]
        refine AO.rd 26 [(32, (.tuple [])), (33, (.tuple [])), (34, (.tuple [])), (35, (bo true)), (36, (bo true)), (37, (.tuple [])), (38, (.tuple [])), (39, (.tuple [])), (40, (.tuple [])), (41, (bo true)), (42, (bo true)), (43, (.tuple [])), (44, (.tuple [])), (45, (.tuple [])), (46, (.tuple [])), (47, (.tuple [])), (48, (.tuple [])), (49, (.tuple [])), (50, (.tuple [])), (51, (.tuple [])), (52, (.tuple [])), (53, (.tuple [])), (54, (.tuple [])), (55, (.tuple [])), (56, (.tuple [])), (57, (bo true))] (by kernel_rfl) ?_
        refine AO.done [1, 2, 3, 57] rfl rfl (by kernel_rfl) ?_
        refine s1 hW 5 0 [true] 7 [] ?_
        refine CG.retL (v' := (bo false)) (by kernel_rfl) ?_
        rotate_left
        all_goals first
          | (simp only [validL, hv, lessO]; simp [*]; done)
          | (refine ⟨some x.var, ⟨by rw [hv]; simp [lessO, *], fun h => by omega, fun k2 hk => ⟨x, by rw [show k2 = k + 1 by omega]; exact hx, rfl⟩⟩, Tidy.trim 1 [1, 2, 3] rfl rfl rfl rfl rfl⟩; done)
  · rw [validL, show smallB c = false by assumption]; rfl
theorem pc_validW (hW : W0 W) (c : Int) (ts : List Cf) (hl : ts.length < 1099511627776) (hvs : ∀ t ∈ ts, t.var.length ≤ 281474976710656) : PC P (gl W) 18 [.agg [.d (.int .i64 c), .d (.list (ts.map Cf.enc))]] (.d (.bool (validL c ts))) := by
  refine CG.start is18 ca18 rfl ?_
  refine s4 hW 8 0 [] 0 [(1, (.ptr 0 2 0)), (2, (bo false)), (6, (lo Cf.enc ts)), (7, (no (List.length (List.map Cf.enc ts)))), (8, (io 0))] [(0, (.cells [(io c), (lo Cf.enc ts)]))] ?_
  rotate_left
  · skip
    refine CG.loopL ts (fun i a => [(1, (.ptr 0 2 0)), (2, (bo false)), (6, (lo Cf.enc ts)), (7, (no (List.length (List.map Cf.enc ts)))), (8, .d (.int .i64 (.ofNat i)))]) (fun i a => [some (.cells [(io c), (lo Cf.enc ts)])]) (fun i a r => (validTs none ts = validTs a r ∧ (i = 0 → a = none) ∧ ∀ k, i = k + 1 → ∃ y, ts[k]? = some y ∧ a = some y.var)) none ?_ (Tidy.refl _ _) ?_ ?_
    · exact ⟨rfl, fun _ => rfl, fun k hk => by omega⟩
    · intro i a hi hd hinv
      obtain ⟨hv, -, -⟩ := hinv
      refine s1 hW 4 0 [] 23 [(9, (bo (iLt (Int.ofNat i) (Int.ofNat (List.length (List.map Cf.enc ts))))))] ?_
      refine CG.condF (show (iLt (Int.ofNat i) (Int.ofNat (List.length (List.map Cf.enc ts)))) = false from f_lt (by (try simp only [zz] at *) <;> omega)) (by kernel_rfl) ?_
      refine CG.exitL (by decide) ?_
      refine s1 hW 3 2 [] 3 [(46, (io c))] ?_
      refine CG.pg (pc_in hW c) rfl (by kernel_rfl) ?_
      refine s1 hW 0 1 [] 3 [(48, (bo (smallB c)))] ?_
      refine sp (smallB c) (fun q12 => ?_) (fun q12 => ?_)
      rw [q12]
      refine s1 hW 2 0 [] 0 [(2, (bo (!iLt 12 (Int.ofNat (List.length (List.map Cf.enc ts))))))] ?_
      refine CG.ret (v' := (bo (!iLt 12 (Int.ofNat (List.length (List.map Cf.enc ts)))))) (by kernel_rfl) ?_
      rotate_left
      rw [q12]
      refine s1 hW 2 0 [] 2 [] ?_
      refine CG.ret (v' := (bo false)) (by kernel_rfl) ?_
      rotate_left
      · rw [validL, hv, show smallB c = true by assumption, iLt_eq, List.length_map, V.d.injEq, D.bool.injEq, Bool.eq_iff_iff]; simp [validTs]; omega
      · rw [validL, show smallB c = false by assumption]; rfl
    · intro i a x r hd hx hlt hinv
      obtain ⟨hv, h0, h1⟩ := hinv
      rw [validTs] at hv
      cases i with
      | zero =>
        cases h0 rfl
        refine s1 hW 4 0 [] 31 [(9, (bo (iLt 0 (Int.ofNat (List.length (List.map Cf.enc ts))))))] ?_
        refine CG.condT (show (iLt 0 (Int.ofNat (List.length (List.map Cf.enc ts)))) = true from t_lt (by (try simp only [zz] at *) <;> omega)) (by kernel_rfl) ?_
        refine s1 hW 5 1 [] 31 [(10, (io 0))] ?_
        refine CG.ix (idx_map (enc := Cf.enc) hx) rfl (by kernel_rfl) ?_
        refine s4 hW 3 0 [] 31 [(3, (io 0)), (4, (.ptr 1 2 0))] [(1, (.cells [(so (Cf.var x)), (io (Cf.c x))]))] ?_
        refine CG.drawA orders (by kernel_rfl) (by kernel_rfl) ?_
        refine AO.rd 2 [(13, (.ptr 1 2 0)), (14, (so (Cf.var x)))] (by kernel_rfl) ?_
        refine AO.pcG (pc_nameW hW (Cf.var x) (hvs x (List.mem_of_getElem? hx))) rfl (by kernel_rfl) (by kernel_rfl) ?_
        refine AO.rd 2 [(16, (bo (!nameB (Cf.var x)))), (17, (bo (!nameB (Cf.var x))))] (by kernel_rfl) ?_
        refine sp (nameB (Cf.var x)) (fun q15 => ?_) (fun q15 => ?_)
        rw [q15]
        refine AO.rd 5 [(18, (.ptr 1 2 1)), (19, (io (Cf.c x))), (20, (bo (Cf.c x == 0))), (21, (bo (Cf.c x == 0))), (22, (bo (Cf.c x == 0)))] (by kernel_rfl) ?_
        refine spBe (Cf.c x) 0 (fun q17 p17 => ?_) (fun q17 p17 => ?_)
        rw [q17]
        refine AO.rd 21 [(23, (.tuple [])), (24, (.tuple [])), (25, (.tuple [])), (26, (.tuple [])), (27, (bo true)), (28, (bo true)), (29, (.tuple [])), (30, (.tuple [])), (31, (.tuple [])), (32, (.tuple [])), (33, (.tuple [])), (34, (.tuple [])), (35, (.tuple [])), (36, (.tuple [])), (37, (.tuple [])), (38, (.tuple [])), (39, (.tuple [])), (40, (.tuple [])), (41, (.tuple [])), (42, (.tuple [])), (43, (bo true))] (by kernel_rfl) ?_
        refine AO.done [1, 2, 6, 7, 8, 43] rfl rfl (by kernel_rfl) ?_
        refine s1 hW 5 0 [true] 31 [] ?_
        refine CG.retL (v' := (bo false)) (by kernel_rfl) ?_
        rotate_left
        rw [q17]
        refine AO.rd 2 [(23, (.ptr 1 2 1)), (24, (io (Cf.c x)))] (by kernel_rfl) ?_
        refine AO.pcG (pc_in hW (Cf.c x)) rfl (by kernel_rfl) (by kernel_rfl) ?_
        refine AO.rd 3 [(26, (bo (!smallB (Cf.c x)))), (27, (bo (!smallB (Cf.c x)))), (28, (bo (!smallB (Cf.c x))))] (by kernel_rfl) ?_
        refine sp (smallB (Cf.c x)) (fun q18 => ?_) (fun q18 => ?_)
        rw [q18]
        refine AO.rd 15 [(29, (io 0)), (30, (bo false)), (31, (bo false)), (32, (.tuple [])), (33, (.tuple [])), (34, (.tuple [])), (35, (.tuple [])), (36, (.tuple [])), (37, (.tuple [])), (38, (.tuple [])), (39, (.tuple [])), (40, (.tuple [])), (41, (.tuple [])), (42, (bo false)), (43, (bo false))] (by kernel_rfl) ?_
        refine AO.done [1, 2, 6, 7, 8, 43] rfl rfl (by kernel_rfl) ?_
        refine s3 hW 5 2 [false] [(1, (.ptr 0 2 0)), (2, (bo false)), (6, (lo Cf.enc ts)), (7, (no (List.length (List.map Cf.enc ts)))), (8, (io 1))] ([some (.cells [(io c), (lo Cf.enc ts)]), some (.cells [(so (Cf.var x)), (io (Cf.c x))])]) ?_
        refine CG.endL rfl ?_
        rotate_left
        rw [q18]
        refine AO.rd 15 [(29, (.tuple [])), (30, (.tuple [])), (31, (.tuple [])), (32, (.tuple [])), (33, (.tuple [])), (34, (.tuple [])), (35, (.tuple [])), (36, (.tuple [])), (37, (.tuple [])), (38, (.tuple [])), (39, (.tuple [])), (40, (.tuple [])), (41, (.tuple [])), (42, (.tuple [])), (43, (bo true))] (by kernel_rfl) ?_
        refine AO.done [1, 2, 6, 7, 8, 43] rfl rfl (by kernel_rfl) ?_
        refine s1 hW 5 0 [true] 31 [] ?_
        refine CG.retL (v' := (bo false)) (by kernel_rfl) ?_
        rotate_left
        rw [q15]
        refine AO.rd 26 [(18, (.tuple [])), (19, (.tuple [])), (20, (.tuple [])), (21, (bo true)), (22, (bo true)), (23, (.tuple [])), (24, (.tuple [])), (25, (.tuple [])), (26, (.tuple [])), (27, (bo true)), (28, (bo true)), (29, (.tuple [])), (30, (.tuple [])), (31, (.tuple [])), (32, (.tuple [])), (33, (.tuple [])), (34, (.tuple [])), (35, (.tuple [])), (36, (.tuple [])), (37, (.tuple [])), (38, (.tuple [])), (39, (.tuple [])), (40, (.tuple [])), (41, (.tuple [])), (42, (.tuple [])), (43, (bo true))] (by kernel_rfl) ?_
        refine AO.done [1, 2, 6, 7, 8, 43] rfl rfl (by kernel_rfl) ?_
        refine s1 hW 5 0 [true] 31 [] ?_
        refine CG.retL (v' := (bo false)) (by kernel_rfl) ?_
        rotate_left
        all_goals first
          | (simp only [validL, hv, lessO]; simp [*]; done)
          | (refine ⟨some x.var, ⟨by rw [hv]; simp [lessO, *], fun h => by omega, fun k hk => ⟨x, by rw [show k = 0 by omega]; exact hx, rfl⟩⟩, Tidy.trim 1 [1, 2, 6, 7, 8] rfl rfl rfl rfl rfl⟩; done)
      | succ k =>
        obtain ⟨y, hy, rfl⟩ := h1 k rfl
        refine s1 hW 4 0 [] 31 [(9, (bo (iLt (Int.ofNat (k + 1)) (Int.ofNat (List.length (List.map Cf.enc ts))))))] ?_
        refine CG.condT (show (iLt (Int.ofNat (k + 1)) (Int.ofNat (List.length (List.map Cf.enc ts)))) = true from t_lt (by (try simp only [zz] at *) <;> omega)) (by kernel_rfl) ?_
        refine s1 hW 5 1 [] 31 [(10, (no (k + 1)))] ?_
        refine CG.ix (idx_map (enc := Cf.enc) hx) rfl (by kernel_rfl) ?_
        refine s4 hW 3 0 [] 31 [(3, (no (k + 1))), (4, (.ptr 1 2 0))] [(1, (.cells [(so (Cf.var x)), (io (Cf.c x))]))] ?_
        refine CG.drawA orders (by kernel_rfl) (by kernel_rfl) ?_
        refine AO.rd 2 [(13, (.ptr 1 2 0)), (14, (so (Cf.var x)))] (by kernel_rfl) ?_
        refine AO.pcG (pc_nameW hW (Cf.var x) (hvs x (List.mem_of_getElem? hx))) rfl (by kernel_rfl) (by kernel_rfl) ?_
        refine AO.rd 2 [(16, (bo (!nameB (Cf.var x)))), (17, (bo (!nameB (Cf.var x))))] (by kernel_rfl) ?_
        refine sp (nameB (Cf.var x)) (fun q18 => ?_) (fun q18 => ?_)
        rw [q18]
        refine AO.rd 5 [(18, (.ptr 1 2 1)), (19, (io (Cf.c x))), (20, (bo (Cf.c x == 0))), (21, (bo (Cf.c x == 0))), (22, (bo (Cf.c x == 0)))] (by kernel_rfl) ?_
        refine spBe (Cf.c x) 0 (fun q20 p20 => ?_) (fun q20 p20 => ?_)
        rw [q20]
        refine AO.rd 21 [(23, (.tuple [])), (24, (.tuple [])), (25, (.tuple [])), (26, (.tuple [])), (27, (bo true)), (28, (bo true)), (29, (.tuple [])), (30, (.tuple [])), (31, (.tuple [])), (32, (.tuple [])), (33, (.tuple [])), (34, (.tuple [])), (35, (.tuple [])), (36, (.tuple [])), (37, (.tuple [])), (38, (.tuple [])), (39, (.tuple [])), (40, (.tuple [])), (41, (.tuple [])), (42, (.tuple [])), (43, (bo true))] (by kernel_rfl) ?_
        refine AO.done [1, 2, 6, 7, 8, 43] rfl rfl (by kernel_rfl) ?_
        refine s1 hW 5 0 [true] 31 [] ?_
        refine CG.retL (v' := (bo false)) (by kernel_rfl) ?_
        rotate_left
        rw [q20]
        refine AO.rd 2 [(23, (.ptr 1 2 1)), (24, (io (Cf.c x)))] (by kernel_rfl) ?_
        refine AO.pcG (pc_in hW (Cf.c x)) rfl (by kernel_rfl) (by kernel_rfl) ?_
        refine AO.rd 3 [(26, (bo (!smallB (Cf.c x)))), (27, (bo (!smallB (Cf.c x)))), (28, (bo (!smallB (Cf.c x))))] (by kernel_rfl) ?_
        refine sp (smallB (Cf.c x)) (fun q21 => ?_) (fun q21 => ?_)
        rw [q21]
        refine AO.rd 3 [(29, (no (k + 1))), (30, (bo (decide (0 < Int.ofNat (k + 1))))), (31, (bo (decide (0 < Int.ofNat (k + 1)))))] (by kernel_rfl) ?_
        have q22 : (decide (0 < Int.ofNat (k + 1))) = true := decide_eq_true (by (try simp only [zz] at *) <;> omega)
        rw [q22]
        refine AO.rd 4 [(32, (.ptr 0 2 1)), (33, (lo Cf.enc ts)), (34, (no (k + 1))), (35, (io (IntKind.wrap IntKind.i64 (Int.ofNat (k + 1) - 1))))] (by kernel_rfl) ?_
        rw [wrapPredW (by omega)]
        refine AO.idx (idx_map (enc := Cf.enc) hy) rfl (by kernel_rfl) (by kernel_rfl) (by kernel_rfl) rfl ?_
        refine AO.rd 7 [(37, (.cptr [(.str (Cf.var y))])), (38, (so (Cf.var y))), (39, (.ptr 1 2 0)), (40, (so (Cf.var x))), (41, (bo (!bytesLess (Cf.var y) (Cf.var x)))), (42, (bo (!bytesLess (Cf.var y) (Cf.var x)))), (43, (bo (!bytesLess (Cf.var y) (Cf.var x))))] (by kernel_rfl) ?_
        refine AO.done [1, 2, 6, 7, 8, 43] rfl rfl (by kernel_rfl) ?_
        refine s1 hW 1 0 [] 63 [] ?_
        refine sp (bytesLess (Cf.var y) (Cf.var x)) (fun q23 => ?_) (fun q23 => ?_)
        refine CG.condF (b := (!bytesLess (Cf.var y) (Cf.var x))) (by rw [q23]; rfl) (by kernel_rfl) ?_
        refine s3 hW 3 2 [] [(1, (.ptr 0 2 0)), (2, (bo false)), (6, (lo Cf.enc ts)), (7, (no (List.length (List.map Cf.enc ts)))), (8, (io (wrapF IntKind.i64 (iAdd (Int.ofNat (k + 1)) 1))))] ([some (.cells [(io c), (lo Cf.enc ts)]), some (.cells [(so (Cf.var x)), (io (Cf.c x))])]) ?_
        refine CG.endL rfl ?_
        rw [wrapI (by omega)]
        rotate_left
        refine CG.condT (b := (!bytesLess (Cf.var y) (Cf.var x))) (by rw [q23]; rfl) (by kernel_rfl) ?_
        refine s1 hW 3 0 [] 31 [] ?_
        refine CG.retL (v' := (bo false)) (by kernel_rfl) ?_
        rotate_left
        rw [q21]
        refine AO.rd 15 [(29, (.tuple [])), (30, (.tuple [])), (31, (.tuple [])), (32, (.tuple [])), (33, (.tuple [])), (34, (.tuple [])), (35, (.tuple [])), (36, (.tuple [])), (37, (.tuple [])), (38, (.tuple [])), (39, (.tuple [])), (40, (.tuple [])), (41, (.tuple [])), (42, (.tuple [])), (43, (bo true))] (by kernel_rfl) ?_
        refine AO.done [1, 2, 6, 7, 8, 43] rfl rfl (by kernel_rfl) ?_
        refine s1 hW 5 0 [true] 31 [] ?_
        refine CG.retL (v' := (bo false)) (by kernel_rfl) ?_
        rotate_left
        rw [q18]
        refine AO.rd 26 [(18, (.tuple [])), (19, (.tuple [])), (20, (.tuple [])), (21, (bo true)), (22, (bo true)), (23, (.tuple [])), (24, (.tuple [])), (25, (.tuple [])), (26, (.tuple [])), (27, (bo true)), (28, (bo true)), (29, (.tuple [])), (30, (.tuple [])), (31, (.tuple [])), (32, (.tuple [])), (33, (.tuple [])), (34, (.tuple [])), (35, (.tuple [])), (36, (.tuple [])), (37, (.tuple [])), (38, (.tuple [])), (39, (.tuple [])), (40, (.tuple [])), (41, (.tuple [])), (42, (.tuple [])), (43, (bo true))] (by kernel_rfl) ?_
        refine AO.done [1, 2, 6, 7, 8, 43] rfl rfl (by kernel_rfl) ?_
        refine s1 hW 5 0 [true] 31 [] ?_
        refine CG.retL (v' := (bo false)) (by kernel_rfl) ?_
        rotate_left
        all_goals first
          | (simp only [validL, hv, lessO]; simp [*]; done)
          | (refine ⟨some x.var, ⟨by rw [hv]; simp [lessO, *], fun h => by omega, fun k2 hk => ⟨x, by rw [show k2 = k + 1 by omega]; exact hx, rfl⟩⟩, Tidy.trim 1 [1, 2, 6, 7, 8] rfl rfl rfl rfl rfl⟩; done)
theorem pc_valid (hW : W0 W) (c : Int) (ts : List Cf) (hl : ts.length < 1099511627776) (hvs : ∀ t ∈ ts, t.var.length < 1099511627776) : PC P (gl W) 18 [.agg [.d (.int .i64 c), .d (.list (ts.map Cf.enc))]] (.d (.bool (validL c ts))) := pc_validW hW c ts hl (fun t ht => by have := hvs t ht; omega)
end Fw.Tz.Va

/-
  Shapes and types that are valid; what the program and the reference say of any.
-/
namespace Fw.Tz.Vb
open Go Go.Proofs Fw.X Fw.Tz Fw.Nu Fw.Tz.Sd Fw.Tz.Na Fw.Tz.El Fw.Tz.Va
variable {W : World}
def fiV : Option Nat → V
  | some i => .d (.int .i64 (.ofNat i))
  | none => .d (.int .i64 (-1))
def Lin.sm (x : Lin) : Prop := x.ts.length < 1099511627776 ∧ ∀ t ∈ x.ts, t.var.length < 1099511627776
def bad (x : Lin) : Bool := !validL x.c x.ts
def rowB (s : List UInt8) : Bool := Fw.bytesEq s [] || nameB s
def shpB (row : List UInt8) (dims : List Lin) : Bool := rowB row && decide (dims.length ≤ 6) && dims.all Lin.ok
def intS : List UInt8 := [105, 110, 116]
def boolS : List UInt8 := [98, 111, 111, 108]
def fullB (e : List UInt8) : Bool := Fw.bytesEq e intS || Fw.bytesEq e boolS || elemB e
def tyB (t : Ty) : Bool := fullB t.elem && shpB t.row t.dims
theorem any_bad (l : List Lin) : l.any bad = !l.all Lin.ok := by
  induction l with
  | nil => rfl
  | cons x l ih => rw [List.any_cons, List.all_cons, ih, Bool.not_and]; rfl
theorem pc_shpR (hW : W0 W) (row : List UInt8) (dims : List Lin) (hl : dims.length < 1099511627776) (hd : ∀ x ∈ dims, Lin.sm x) : PC P (gl W) 83 [.agg [.d (.str row), .d (.list (dims.map Lin.enc))]] (.d (.bool (shpB row dims))) := by
  refine CG.start is83 ca83 rfl ?_
  refine s4 hW 8 0 [] 0 [(1, (.ptr 0 2 0)), (2, (bo false)), (3, (io 0))] [(0, (.cells [(so row), (lo Lin.enc dims)]))] ?_
  rotate_left
  refine CG.loopL dims (fun i u => [(1, (.ptr 0 2 0)), (2, (bo false)), (3, .d (.int .i64 (.ofNat i)))]) (fun i u => [some (.cells [(so row), (lo Lin.enc dims)])]) (fun i u r => (dims.all Lin.ok = r.all Lin.ok)) () ?_ (Tidy.refl _ _) ?_ ?_
  · rfl
  · intro i u hi hd hinv
    refine s1 hW 4 0 [] 7 [(8, (bo (iLt (Int.ofNat i) (Int.ofNat (List.length (List.map Lin.enc dims))))))] ?_
    refine CG.condF (show (iLt (Int.ofNat i) (Int.ofNat (List.length (List.map Lin.enc dims)))) = false from f_lt (by (try simp only [zz] at *) <;> omega)) (by kernel_rfl) ?_
    refine CG.exitL (by decide) ?_
    refine s1 hW 3 5 [] 3 [(22, (bo (!iLt 6 (Int.ofNat (List.length (List.map Lin.enc dims))))))] ?_
    refine spLtN 6 (List.length (List.map Lin.enc dims)) (fun q13 p13 => ?_) (fun q13 p13 => ?_) <;> simp only [zz] at p13
    have q14 : (iLt 6 (Int.ofNat (List.length (List.map Lin.enc dims)))) = true := t_lt (by (try simp only [zz] at *) <;> omega)
    rw [q14]
    refine s1 hW 2 0 [] 2 [] ?_
    refine CG.ret (v' := (bo false)) (by kernel_rfl) ?_
    rotate_left
    have q15 : (iLt 6 (Int.ofNat (List.length (List.map Lin.enc dims)))) = false := f_lt (by (try simp only [zz] at *) <;> omega)
    rw [q15]
    refine s1 hW 0 4 [] 7 [(26, (bo (bytesEq row [])))] ?_
    refine sp (bytesEq row []) (fun q16 => ?_) (fun q16 => ?_)
    rw [q16]
    refine s1 hW 2 0 [] 0 [(2, (bo true))] ?_
    refine CG.ret (v' := (bo true)) (by kernel_rfl) ?_
    rotate_left
    rw [q16]
    refine s1 hW 0 2 [] 14 [(28, (so row))] ?_
    refine CG.pg (pc_name_ref hW row) rfl (by kernel_rfl) ?_
    refine s1 hW 2 0 [] 0 [(2, (bo (nameB row)))] ?_
    refine CG.ret (v' := (bo (nameB row))) (by kernel_rfl) ?_
    rotate_left
    all_goals first
      | (have h6 : dims.length ≤ 6 := by omega
         simp [shpB, rowB, any_bad, *]; done)
      | (have h6 : ¬ dims.length ≤ 6 := by omega
         simp [shpB, rowB, any_bad, *]; done)
      | (simp [shpB, rowB, any_bad, *]; done)
  · intro i u x r hdr hx hlt hinv
    have hs := hd x (List.mem_of_getElem? hx)
    rw [List.all_cons] at hinv
    refine s1 hW 4 0 [] 7 [(8, (bo (iLt (Int.ofNat i) (Int.ofNat (List.length (List.map Lin.enc dims))))))] ?_
    refine CG.condT (show (iLt (Int.ofNat i) (Int.ofNat (List.length (List.map Lin.enc dims)))) = true from t_lt (by (try simp only [zz] at *) <;> omega)) (by kernel_rfl) ?_
    refine s1 hW 5 3 [] 7 [(12, (lo Lin.enc dims)), (13, (no i))] ?_
    refine CG.ix (idx_map (enc := Lin.enc) hx) rfl (by kernel_rfl) ?_
    refine s1 hW 0 1 [] 7 [(15, (.agg [(io (Lin.c x)), (lo Cf.enc (Lin.ts x))]))] ?_
    refine CG.pg (pc_valid_ref hW (Lin.c x) (Lin.ts x) (And.left hs)) rfl (by kernel_rfl) ?_
    refine s1 hW 2 0 [] 7 [(17, (bo (!validL (Lin.c x) (Lin.ts x))))] ?_
    refine sp (validL (Lin.c x) (Lin.ts x)) (fun q16 => ?_) (fun q16 => ?_)
    refine CG.condF (b := (!validL (Lin.c x) (Lin.ts x))) (by rw [q16]; rfl) (by kernel_rfl) ?_
    refine s3 hW 3 3 [] [(1, (.ptr 0 2 0)), (2, (bo false)), (3, (io (wrapF IntKind.i64 (iAdd (Int.ofNat i) 1))))] ([some (.cells [(so row), (lo Lin.enc dims)])]) ?_
    refine CG.endL rfl ?_
    rw [wrapI (by omega)]
    rotate_left
    refine CG.condT (b := (!validL (Lin.c x) (Lin.ts x))) (by rw [q16]; rfl) (by kernel_rfl) ?_
    refine s1 hW 3 0 [] 7 [] ?_
    refine CG.retL (v' := (bo false)) (by kernel_rfl) ?_
    rotate_left
    · exact ⟨(), by rw [hinv, show Lin.ok x = true by assumption]; rfl, Tidy.refl _ _⟩
    · rw [shpB, hinv, show Lin.ok x = false by assumption]; simp
theorem pc_bad (hW : W0 W) (x : Lin) (hs : Lin.sm x) : PC P (gl W) 112 [.agg [.d (.int .i64 x.c), .d (.list (x.ts.map Cf.enc))]] (.d (.bool (bad x))) := by
  refine CG.start is112 ca112 rfl ?_
  refine s4 hW 4 1 [] 0 [(2, (bo false)), (3, (.agg [(io (Lin.c x)), (lo Cf.enc (Lin.ts x))]))] [(0, (.cells [(io (Lin.c x)), (lo Cf.enc (Lin.ts x))]))] ?_
  refine CG.pg (pc_valid hW (Lin.c x) (Lin.ts x) (And.left hs) (And.right hs)) rfl (by kernel_rfl) ?_
  refine s1 hW 2 0 [] 0 [(2, (bo (!validL (Lin.c x) (Lin.ts x))))] ?_
  refine CG.ret (v' := (bo (!validL (Lin.c x) (Lin.ts x)))) (by kernel_rfl) ?_
  rfl
theorem pc_badIdx (hW : W0 W) (l : List Lin) (hl : l.length < 1099511627776) (hd : ∀ x ∈ l, Lin.sm x) : PC P (gl W) 52 [.d (.list (l.map Lin.enc)), .func 112 [] []] (fiV (l.findIdx? bad)) := by
  refine CG.start is52 ca52 rfl ?_
  refine s1 hW 8 0 [] 3 [(4, (io 0)), (7, (no (List.length (List.map Lin.enc l)))), (8, (io 0))] ?_
  rotate_left
  refine CG.loopL l (fun i u => [(0, (lo Lin.enc l)), (1, (.func 112 [] [])), (4, (io 0)), (7, (no (List.length (List.map Lin.enc l)))), (8, .d (.int .i64 (.ofNat i)))]) (fun i u => []) (fun i u r => (fiV (l.findIdx? bad) = fiV ((r.findIdx? bad).map (· + i)))) () ?_ (Tidy.refl _ _) ?_ ?_
  · cases l.findIdx? bad <;> rfl
  · intro i u hi hd hinv
    refine s1 hW 4 0 [] 23 [(9, (bo (iLt (Int.ofNat i) (Int.ofNat (List.length (List.map Lin.enc l))))))] ?_
    refine CG.condF (show (iLt (Int.ofNat i) (Int.ofNat (List.length (List.map Lin.enc l)))) = false from f_lt (by (try simp only [zz] at *) <;> omega)) (by kernel_rfl) ?_
    refine CG.exitL (by decide) ?_
    refine s1 hW 5 0 [] 0 [(4, (io (-1)))] ?_
    refine CG.ret (v' := (io (-1))) (by kernel_rfl) ?_
    rotate_left
    rw [hinv]; rfl
  · intro i u x r hdr hx hlt hinv
    have hs := hd x (List.mem_of_getElem? hx)
    refine s1 hW 4 0 [] 31 [(9, (bo (iLt (Int.ofNat i) (Int.ofNat (List.length (List.map Lin.enc l))))))] ?_
    refine CG.condT (show (iLt (Int.ofNat i) (Int.ofNat (List.length (List.map Lin.enc l)))) = true from t_lt (by (try simp only [zz] at *) <;> omega)) (by kernel_rfl) ?_
    refine s1 hW 8 3 [] 31 [(5, (no i)), (11, (.func 112 [] [])), (12, (lo Lin.enc l)), (13, (no i))] ?_
    refine CG.ix (idx_map (enc := Lin.enc) hx) rfl (by kernel_rfl) ?_
    refine s1 hW 0 1 [] 127 [(15, (.agg [(io (Lin.c x)), (lo Cf.enc (Lin.ts x))]))] ?_
    refine CG.pcv (first := []) (cap := []) (pc_bad hW x hs) rfl (by kernel_rfl) (by kernel_rfl) (by kernel_rfl) rfl ?_
    refine s1 hW 2 0 [] 319 [] ?_
    refine sp (bad x) (fun q15 => ?_) (fun q15 => ?_)
    refine CG.condT q15 (by kernel_rfl) ?_
    refine s1 hW 3 0 [] 51 [(4, (no i))] ?_
    refine CG.retL (v' := (no i)) (by kernel_rfl) ?_
    rotate_left
    refine CG.condF q15 (by kernel_rfl) ?_
    refine s3 hW 3 2 [] [(0, (lo Lin.enc l)), (1, (.func 112 [] [])), (4, (io 0)), (7, (no (List.length (List.map Lin.enc l)))), (8, (io (wrapF IntKind.i64 (iAdd (Int.ofNat i) 1))))] ([]) ?_
    refine CG.endL rfl ?_
    rw [wrapI (by omega)]
    rotate_left
    · rw [hinv, List.findIdx?_cons, show bad x = true by assumption]; simp [fiV]
    · refine ⟨(), ?_, Tidy.refl _ _⟩
      rw [hinv, List.findIdx?_cons, show bad x = false by assumption]
      cases r.findIdx? bad <;> simp [fiV]
      omega
theorem pc_badAny (hW : W0 W) (l : List Lin) (hl : l.length < 1099511627776) (hd : ∀ x ∈ l, Lin.sm x) : PC P (gl W) 29 [.d (.list (l.map Lin.enc)), .func 112 [] []] (.d (.bool (l.any bad))) := by
  refine CG.start is29 ca29 rfl ?_
  refine s1 hW 4 2 [] 0 [(4, (bo false)), (5, (lo Lin.enc l)), (6, (.func 112 [] []))] ?_
  refine CG.pg (pc_badIdx hW _ hl hd) rfl (by kernel_rfl) ?_
  rotate_left
  have : l.any bad = (l.findIdx? bad).isSome := by rw [List.findIdx?_isSome]
  rw [this]
  cases l.findIdx? bad with
  | none => refine s1 hW 2 0 [] 1 [] ?_
            refine CG.ret (v' := (bo false)) (by kernel_rfl) ?_
            rfl
  | some i => refine s1 hW 2 0 [] 0 [(4, (bo true))] ?_
              refine CG.ret (v' := (bo true)) (by kernel_rfl) ?_
              rfl
theorem pc_shp (hW : W0 W) (row : List UInt8) (dims : List Lin) (hr : row.length < 1099511627776) (hl : dims.length < 1099511627776) (hd : ∀ x ∈ dims, Lin.sm x) : PC P (gl W) 75 [.agg [.d (.str row), .d (.list (dims.map Lin.enc))]] (.d (.bool (shpB row dims))) := by
  refine CG.start is75 ca75 rfl ?_
  refine s4 hW 4 4 [] 0 [(1, (.ptr 0 2 0)), (2, (bo false)), (6, (bo (bytesEq row [])))] [(0, (.cells [(so row), (lo Lin.enc dims)]))] ?_
  refine sp (bytesEq row []) (fun q8 => ?_) (fun q8 => ?_)
  rw [q8]
  refine s1 hW 0 11 [] 3 [(17, (bo (!iLt 6 (Int.ofNat (List.length (List.map Lin.enc dims))))))] ?_
  refine spLtN 6 (List.length (List.map Lin.enc dims)) (fun q10 p10 => ?_) (fun q10 p10 => ?_) <;> simp only [zz] at p10
  have q11 : (iLt 6 (Int.ofNat (List.length (List.map Lin.enc dims)))) = true := t_lt (by (try simp only [zz] at *) <;> omega)
  rw [q11]
  refine s1 hW 2 0 [] 2 [] ?_
  refine CG.ret (v' := (bo false)) (by kernel_rfl) ?_
  rotate_left
  have q12 : (iLt 6 (Int.ofNat (List.length (List.map Lin.enc dims)))) = false := f_lt (by (try simp only [zz] at *) <;> omega)
  rw [q12]
  refine s1 hW 0 2 [] 6 [(19, (lo Lin.enc dims))] ?_
  refine CG.pg (pc_badAny hW _ hl hd) rfl (by kernel_rfl) ?_
  refine s1 hW 2 0 [] 0 [(2, (bo (!List.any dims bad)))] ?_
  refine CG.ret (v' := (bo (!List.any dims bad))) (by kernel_rfl) ?_
  rotate_left
  rw [q8]
  refine s1 hW 0 2 [] 7 [(8, (so row))] ?_
  refine CG.pg (pc_name hW _ hr) rfl (by kernel_rfl) ?_
  refine s1 hW 0 2 [] 3 [(11, (bo (nameB row)))] ?_
  refine sp (nameB row) (fun q13 => ?_) (fun q13 => ?_)
  rw [q13]
  refine s1 hW 0 6 [] 3 [(17, (bo (!iLt 6 (Int.ofNat (List.length (List.map Lin.enc dims))))))] ?_
  refine spLtN 6 (List.length (List.map Lin.enc dims)) (fun q15 p15 => ?_) (fun q15 p15 => ?_) <;> simp only [zz] at p15
  have q16 : (iLt 6 (Int.ofNat (List.length (List.map Lin.enc dims)))) = true := t_lt (by (try simp only [zz] at *) <;> omega)
  rw [q16]
  refine s1 hW 2 0 [] 2 [] ?_
  refine CG.ret (v' := (bo false)) (by kernel_rfl) ?_
  rotate_left
  have q17 : (iLt 6 (Int.ofNat (List.length (List.map Lin.enc dims)))) = false := f_lt (by (try simp only [zz] at *) <;> omega)
  rw [q17]
  refine s1 hW 0 2 [] 6 [(19, (lo Lin.enc dims))] ?_
  refine CG.pg (pc_badAny hW _ hl hd) rfl (by kernel_rfl) ?_
  refine s1 hW 2 0 [] 0 [(2, (bo (!List.any dims bad)))] ?_
  refine CG.ret (v' := (bo (!List.any dims bad))) (by kernel_rfl) ?_
  rotate_left
  rw [q13]
  refine s1 hW 2 0 [] 2 [] ?_
  refine CG.ret (v' := (bo false)) (by kernel_rfl) ?_
  rotate_left
  all_goals first
    | (have h6 : dims.length ≤ 6 := by omega
       simp [shpB, rowB, any_bad, *]; done)
    | (have h6 : ¬ dims.length ≤ 6 := by omega
       simp [shpB, rowB, any_bad, *]; done)
    | (simp [shpB, rowB, any_bad, *]; done)
theorem pc_ty (hW : W0 W) (e row : List UInt8) (dims : List Lin) (he : e.length < 1099511627776) (hr : row.length < 1099511627776) (hl : dims.length < 1099511627776) (hd : ∀ x ∈ dims, Lin.sm x) : PC P (gl W) 40 [.agg [.d (.str e), .d (.str row), .d (.list (dims.map Lin.enc))]] (.d (.bool (tyB ⟨e, row, dims⟩))) := by
  refine CG.start is40 ca40 rfl ?_
  refine s4 hW 4 4 [] 0 [(1, (.ptr 0 3 0)), (2, (bo false)), (6, (bo (bytesEq e [105, 110, 116])))] [(0, (.cells [(so e), (so row), (lo Lin.enc dims)]))] ?_
  refine sp (bytesEq e [105, 110, 116]) (fun q10 => ?_) (fun q10 => ?_)
  rw [q10]
  refine s1 hW 0 12 [] 2 [(16, (bo true)), (18, (.agg [(so row), (lo Lin.enc dims)]))] ?_
  refine CG.pg (pc_shp hW _ _ hr hl hd) rfl (by kernel_rfl) ?_
  refine s1 hW 2 0 [] 0 [(2, (bo (shpB row dims)))] ?_
  refine CG.ret (v' := (bo (shpB row dims))) (by kernel_rfl) ?_
  rotate_left
  rw [q10]
  refine s1 hW 0 5 [] 3 [(11, (bo (bytesEq e [98, 111, 111, 108])))] ?_
  refine sp (bytesEq e [98, 111, 111, 108]) (fun q11 => ?_) (fun q11 => ?_)
  rw [q11]
  refine s1 hW 0 7 [] 2 [(16, (bo true)), (18, (.agg [(so row), (lo Lin.enc dims)]))] ?_
  refine CG.pg (pc_shp hW _ _ hr hl hd) rfl (by kernel_rfl) ?_
  refine s1 hW 2 0 [] 0 [(2, (bo (shpB row dims)))] ?_
  refine CG.ret (v' := (bo (shpB row dims))) (by kernel_rfl) ?_
  rotate_left
  rw [q11]
  refine s1 hW 0 2 [] 7 [(13, (so e))] ?_
  refine CG.pg (pc_elemVar hW _ he) rfl (by kernel_rfl) ?_
  refine s1 hW 0 2 [] 3 [(16, (bo (elemB e)))] ?_
  refine sp (elemB e) (fun q12 => ?_) (fun q12 => ?_)
  rw [q12]
  refine s1 hW 0 2 [] 6 [(18, (.agg [(so row), (lo Lin.enc dims)]))] ?_
  refine CG.pg (pc_shp hW _ _ hr hl hd) rfl (by kernel_rfl) ?_
  refine s1 hW 2 0 [] 0 [(2, (bo (shpB row dims)))] ?_
  refine CG.ret (v' := (bo (shpB row dims))) (by kernel_rfl) ?_
  rotate_left
  rw [q12]
  refine s1 hW 2 0 [] 2 [] ?_
  refine CG.ret (v' := (bo false)) (by kernel_rfl) ?_
  rotate_left
  all_goals simp [tyB, fullB, intS, boolS, *]
theorem pc_fullR (hW : W0 W) (e : List UInt8) (he : e.length < 1099511627776) : PC P (gl W) 82 [.d (.str e)] (.d (.bool (fullB e))) := by
  refine CG.start is82 ca82 rfl ?_
  refine s1 hW 4 3 [] 1 [(2, (bo false)), (5, (bo (bytesEq e [105, 110, 116])))] ?_
  refine sp (bytesEq e [105, 110, 116]) (fun q5 => ?_) (fun q5 => ?_)
  rw [q5]
  refine s1 hW 2 0 [] 0 [(2, (bo true))] ?_
  refine CG.ret (v' := (bo true)) (by kernel_rfl) ?_
  rotate_left
  rw [q5]
  refine s1 hW 0 4 [] 3 [(9, (bo (bytesEq e [98, 111, 111, 108])))] ?_
  refine sp (bytesEq e [98, 111, 111, 108]) (fun q6 => ?_) (fun q6 => ?_)
  rw [q6]
  refine s1 hW 2 0 [] 0 [(2, (bo true))] ?_
  refine CG.ret (v' := (bo true)) (by kernel_rfl) ?_
  rotate_left
  rw [q6]
  refine s1 hW 0 1 [] 6 [(10, (so e))] ?_
  refine CG.pg (pc_elemVar_ref hW _ he) rfl (by kernel_rfl) ?_
  refine s1 hW 2 0 [] 0 [(2, (bo (elemB e)))] ?_
  refine CG.ret (v' := (bo (elemB e))) (by kernel_rfl) ?_
  rotate_left
  all_goals simp [fullB, intS, boolS, *]
theorem pc_tyR (hW : W0 W) (e row : List UInt8) (dims : List Lin) (he : e.length < 1099511627776) (hl : dims.length < 1099511627776) (hd : ∀ x ∈ dims, Lin.sm x) : PC P (gl W) 49 [.agg [.d (.str e), .d (.str row), .d (.list (dims.map Lin.enc))]] (.d (.bool (tyB ⟨e, row, dims⟩))) := by
  refine CG.start is49 ca49 rfl ?_
  refine s4 hW 4 2 [] 0 [(1, (.ptr 0 3 0)), (2, (bo false)), (4, (so e))] [(0, (.cells [(so e), (so row), (lo Lin.enc dims)]))] ?_
  refine CG.pg (pc_fullR hW _ he) rfl (by kernel_rfl) ?_
  refine s1 hW 0 1 [] 3 [(6, (bo (fullB e)))] ?_
  refine sp (fullB e) (fun q9 => ?_) (fun q9 => ?_)
  rw [q9]
  refine s1 hW 0 2 [] 6 [(8, (.agg [(so row), (lo Lin.enc dims)]))] ?_
  refine CG.pg (pc_shpR hW row dims hl hd) rfl (by kernel_rfl) ?_
  refine s1 hW 2 0 [] 0 [(2, (bo (shpB row dims)))] ?_
  refine CG.ret (v' := (bo (shpB row dims))) (by kernel_rfl) ?_
  rotate_left
  rw [q9]
  refine s1 hW 2 0 [] 2 [] ?_
  refine CG.ret (v' := (bo false)) (by kernel_rfl) ?_
  rotate_left
  all_goals simp [tyB, *]
end Fw.Tz.Vb

/-
  Equality of expressions, shapes and types as functions.
-/
set_option linter.unusedVariables false
namespace Fw.Tz.Eq
open Go Fw.Tz.Va Fw.Tz.Vb
def lEq {α : Type} (f : α → α → Bool) : List α → List α → Bool
  | [], [] => true
  | a :: l, b :: m => f a b && lEq f l m
  | _, _ => false
theorem lEq_iff {α : Type} {f : α → α → Bool} (h : ∀ a b, f a b = true ↔ a = b) : ∀ (l m : List α), lEq f l m = true ↔ l = m
  | [], [] => by simp [lEq]
  | [], _ :: _ => by simp [lEq]
  | _ :: _, [] => by simp [lEq]
  | a :: l, b :: m => by rw [lEq, Bool.and_eq_true, h, lEq_iff h l m, List.cons.injEq]
def cfEq (a b : Cf) : Bool := Fw.bytesEq a.var b.var && decide (a.c = b.c)
def linEq (a b : Lin) : Bool := decide (a.c = b.c) && lEq cfEq a.ts b.ts
theorem cfEq_iff (a b : Cf) : cfEq a b = true ↔ a = b := by
  cases a; cases b
  simp [cfEq, Fw.bytesEq_iff]
theorem linEq_iff (a b : Lin) : linEq a b = true ↔ a = b := by
  cases a; cases b
  simp [linEq, lEq_iff cfEq_iff]
end Fw.Tz.Eq
