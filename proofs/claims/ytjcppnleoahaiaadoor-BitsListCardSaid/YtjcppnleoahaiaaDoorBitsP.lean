/- Words of 64 bits out of a predicate; what the operators tell of them. -/
import Derived.Laws.Bits64b
import Derived.RowKit
namespace Go.Proofs.YtjcppnleoahaiaaDoor.P
open Go.RowKit
set_option linter.unusedVariables false
set_option linter.unusedSimpArgs false
def wsum (f : Nat → Bool) : Nat → Nat
  | 0 => 0
  | n + 1 => wsum f n + (if f n then 2 ^ n else 0)
theorem wsum_lt (f : Nat → Bool) : ∀ n, wsum f n < 2 ^ n
  | 0 => by simp [wsum]
  | n + 1 => by
    have := wsum_lt f n
    have h2 : 2 ^ (n + 1) = 2 ^ n + 2 ^ n := by rw [Nat.pow_succ]; omega
    unfold wsum
    split <;> omega
theorem wsum_bit (f : Nat → Bool) : ∀ n j, (wsum f n).testBit j = (decide (j < n) && f j)
  | 0, j => by simp [wsum]
  | n + 1, j => by
    have hlt := wsum_lt f n
    unfold wsum
    by_cases hf : f n = true
    · rw [if_pos hf, Nat.add_comm]
      by_cases hj : j < n
      · rw [Nat.testBit_two_pow_add_gt hj, wsum_bit f n j]
        simp [hj, show j < n + 1 by omega]
      · by_cases e : j = n
        · subst e
          rw [Nat.testBit_two_pow_add_eq, wsum_bit f j j]
          simp [hf]
        · have h2 : 2 ^ n + wsum f n < 2 ^ j := by
            have h3 : 2 ^ (n + 1) ≤ 2 ^ j := Nat.pow_le_pow_right (by omega) (by omega)
            have h4 : 2 ^ (n + 1) = 2 ^ n + 2 ^ n := by rw [Nat.pow_succ]; omega
            omega
          rw [Nat.testBit_lt_two_pow h2]
          simp [show ¬ j < n + 1 by omega]
    · have hf' : f n = false := by simpa using hf
      rw [if_neg hf, Nat.add_zero, wsum_bit f n j]
      by_cases hj : j < n
      · simp [hj, show j < n + 1 by omega]
      · by_cases e : j = n
        · subst e; simp [hf']
        · simp [hj, show ¬ j < n + 1 by omega]
/-- Word i of a set. -/
def word (m : Nat → Bool) (i : Nat) : Nat := wsum (fun j => m (64 * i + j)) 64
theorem word_lt (m : Nat → Bool) (i : Nat) : word m i < 18446744073709551616 := wsum_lt _ 64
theorem word_bit (m : Nat → Bool) (i j : Nat) : (word m i).testBit j = (decide (j < 64) && m (64 * i + j)) := wsum_bit _ 64 j
theorem word_ext {m m' : Nat → Bool} {i : Nat} (h : ∀ j, j < 64 → m (64 * i + j) = m' (64 * i + j)) : word m i = word m' i := by
  apply Nat.eq_of_testBit_eq
  intro j
  rw [word_bit, word_bit]
  by_cases hj : j < 64
  · rw [h j hj]
  · simp [hj]
theorem word_inj {m m' : Nat → Bool} {i : Nat} (h : word m i = word m' i) : ∀ j, j < 64 → m (64 * i + j) = m' (64 * i + j) := by
  intro j hj
  have h1 := congrArg (fun x => x.testBit j) h
  simpa [word_bit, hj] using h1
theorem andNot_nat (a b : Nat) (ha : a < 18446744073709551616) (hb : b < 18446744073709551616) :
    bits .andNot .u64 (a : Int) (b : Int) = ((a &&& (18446744073709551615 - b) : Nat) : Int) := by
  have hx : a &&& (18446744073709551615 - b) < 2 ^ 64 := Nat.and_lt_two_pow _ (by omega)
  have h1 : (BitVec.ofInt 64 (a : Int)).toNat = a := by
    rw [BitVec.ofInt_natCast, BitVec.toNat_ofNat]; exact Nat.mod_eq_of_lt (by omega)
  have h2 : (BitVec.ofInt 64 (b : Int)).toNat = b := by
    rw [BitVec.ofInt_natCast, BitVec.toNat_ofNat]; exact Nat.mod_eq_of_lt (by omega)
  show IntKind.u64.wrap ((BitVec.ofInt 64 (a : Int) &&& ~~~ BitVec.ofInt 64 (b : Int)).toNat : Int) = _
  rw [BitVec.toNat_and, BitVec.toNat_not, h1, h2, IntKind.wrap_u64]
  have e : (2 : Nat) ^ 64 - 1 - b = 18446744073709551615 - b := by omega
  rw [e]
  omega
theorem not_bit (b j : Nat) (hb : b < 18446744073709551616) : (18446744073709551615 - b).testBit j = (decide (j < 64) && !b.testBit j) := by
  have e : 18446744073709551615 - b = 2 ^ 64 - (b + 1) := by omega
  rw [e, Nat.testBit_two_pow_sub_succ hb]
/-- The operators on words. -/
theorem or_word (m m' : Nat → Bool) (i : Nat) : bits .or .u64 (word m i : Int) (word m' i : Int) = (word (fun n => m n || m' n) i : Int) := by
  rw [bits_or_u64_nat _ _ (word_lt _ _) (word_lt _ _)]
  congr 1
  apply Nat.eq_of_testBit_eq
  intro j
  rw [Nat.testBit_or, word_bit, word_bit, word_bit]
  cases decide (j < 64) <;> simp
theorem and_word (m m' : Nat → Bool) (i : Nat) : bits .and .u64 (word m i : Int) (word m' i : Int) = (word (fun n => m n && m' n) i : Int) := by
  rw [bits_and_u64_nat _ _ (word_lt _ _) (word_lt _ _)]
  congr 1
  apply Nat.eq_of_testBit_eq
  intro j
  rw [Nat.testBit_and, word_bit, word_bit, word_bit]
  cases decide (j < 64) <;> simp
theorem andNot_word (m m' : Nat → Bool) (i : Nat) : bits .andNot .u64 (word m i : Int) (word m' i : Int) = (word (fun n => m n && !m' n) i : Int) := by
  rw [andNot_nat _ _ (word_lt _ _) (word_lt _ _)]
  congr 1
  apply Nat.eq_of_testBit_eq
  intro j
  rw [Nat.testBit_and, not_bit _ _ (word_lt _ _), word_bit, word_bit, word_bit]
  cases decide (j < 64) <;> simp
/-- One bit. -/
theorem one_word (n : Nat) (hn : n < 4096) : (2 ^ (n % 64) : Nat) = word (fun k => decide (k = n)) (n / 64) := by
  apply Nat.eq_of_testBit_eq
  intro j
  rw [Nat.testBit_two_pow, word_bit]
  by_cases h : n % 64 = j
  · subst h
    have h1 : n % 64 < 64 := Nat.mod_lt _ (by omega)
    simp [h1]
    omega
  · by_cases hj : j < 64
    · simp [h, hj]
      omega
    · simp [h, hj]
theorem one_other (n i : Nat) (h : i ≠ n / 64) (m : Nat → Bool) : word (fun k => m k || decide (k = n)) i = word m i := by
  apply word_ext
  intro j hj
  have : 64 * i + j ≠ n := by omega
  simp [this]
end Go.Proofs.YtjcppnleoahaiaaDoor.P
