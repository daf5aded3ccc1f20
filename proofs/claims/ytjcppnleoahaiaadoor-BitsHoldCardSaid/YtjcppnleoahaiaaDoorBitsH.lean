/- Words of 64 bits out of a predicate; what the operators tell of them. bits.Set: what a set is in memory; Has, With, Without. How many bits a word has: the sums of math/bits.OnesCount64. math/bits.OnesCount64 counts the bits of a word. bits.Set: With, Without. bits.Set: Or, And, Minus. bits.Set: With, Without and Has of any number; Of a list. bits.Set: Same, Within, Count. bits.Set: Count. -/
import Derived.Laws.Bits64b
import Derived.RowKit
import Derived.Test.YtjcppnleoahaiaaDoorPf37
import Derived.Lib.Hide
import Derived.Outline
import Derived.BigQuiet
import Derived.LoopTactic
import Derived.Deep.RegionHeld3
import Derived.Test.YtjcppnleoahaiaaDoorPf41
import Derived.Laws.Bits128
import Derived.Laws.Tables
import Derived.RegionTactic
import Derived.BigRegion
import Derived.ChangeKeysEq
namespace Go.Proofs.YtjcppnleoahaiaaDoor.P
open Go.RowKit
set_option linter.unusedVariables false
set_option linter.unusedSimpArgs false
def wsum (f : Nat → Bool) : Nat → Nat
  | 0 => 0
  | n + 1 => wsum f n + (if f n then 2 ^ n else 0)
theorem wsum_lt (f : Nat → Bool) : ∀ n, wsum f n < 2 ^ n
  | 0 => by simp [wsum]
  | n + 1 => by
    have := wsum_lt f n
    have h2 : 2 ^ (n + 1) = 2 ^ n + 2 ^ n := by rw [Nat.pow_succ]; omega
    unfold wsum
    split <;> omega
theorem wsum_bit (f : Nat → Bool) : ∀ n j, (wsum f n).testBit j = (decide (j < n) && f j)
  | 0, j => by simp [wsum]
  | n + 1, j => by
    have hlt := wsum_lt f n
    unfold wsum
    by_cases hf : f n = true
    · rw [if_pos hf, Nat.add_comm]
      by_cases hj : j < n
      · rw [Nat.testBit_two_pow_add_gt hj, wsum_bit f n j]
        simp [hj, show j < n + 1 by omega]
      · by_cases e : j = n
        · subst e
          rw [Nat.testBit_two_pow_add_eq, wsum_bit f j j]
          simp [hf]
        · have h2 : 2 ^ n + wsum f n < 2 ^ j := by
            have h3 : 2 ^ (n + 1) ≤ 2 ^ j := Nat.pow_le_pow_right (by omega) (by omega)
            have h4 : 2 ^ (n + 1) = 2 ^ n + 2 ^ n := by rw [Nat.pow_succ]; omega
            omega
          rw [Nat.testBit_lt_two_pow h2]
          simp [show ¬ j < n + 1 by omega]
    · have hf' : f n = false := by simpa using hf
      rw [if_neg hf, Nat.add_zero, wsum_bit f n j]
      by_cases hj : j < n
      · simp [hj, show j < n + 1 by omega]
      · by_cases e : j = n
        · subst e; simp [hf']
        · simp [hj, show ¬ j < n + 1 by omega]
/-- Word i of a set. -/
def word (m : Nat → Bool) (i : Nat) : Nat := wsum (fun j => m (64 * i + j)) 64
theorem word_lt (m : Nat → Bool) (i : Nat) : word m i < 18446744073709551616 := wsum_lt _ 64
theorem word_bit (m : Nat → Bool) (i j : Nat) : (word m i).testBit j = (decide (j < 64) && m (64 * i + j)) := wsum_bit _ 64 j
theorem word_ext {m m' : Nat → Bool} {i : Nat} (h : ∀ j, j < 64 → m (64 * i + j) = m' (64 * i + j)) : word m i = word m' i := by
  apply Nat.eq_of_testBit_eq
  intro j
  rw [word_bit, word_bit]
  by_cases hj : j < 64
  · rw [h j hj]
  · simp [hj]
theorem word_inj {m m' : Nat → Bool} {i : Nat} (h : word m i = word m' i) : ∀ j, j < 64 → m (64 * i + j) = m' (64 * i + j) := by
  intro j hj
  have h1 := congrArg (fun x => x.testBit j) h
  simpa [word_bit, hj] using h1
theorem andNot_nat (a b : Nat) (ha : a < 18446744073709551616) (hb : b < 18446744073709551616) :
    bits .andNot .u64 (a : Int) (b : Int) = ((a &&& (18446744073709551615 - b) : Nat) : Int) := by
  have hx : a &&& (18446744073709551615 - b) < 2 ^ 64 := Nat.and_lt_two_pow _ (by omega)
  have h1 : (BitVec.ofInt 64 (a : Int)).toNat = a := by
    rw [BitVec.ofInt_natCast, BitVec.toNat_ofNat]; exact Nat.mod_eq_of_lt (by omega)
  have h2 : (BitVec.ofInt 64 (b : Int)).toNat = b := by
    rw [BitVec.ofInt_natCast, BitVec.toNat_ofNat]; exact Nat.mod_eq_of_lt (by omega)
  show IntKind.u64.wrap ((BitVec.ofInt 64 (a : Int) &&& ~~~ BitVec.ofInt 64 (b : Int)).toNat : Int) = _
  rw [BitVec.toNat_and, BitVec.toNat_not, h1, h2, IntKind.wrap_u64]
  have e : (2 : Nat) ^ 64 - 1 - b = 18446744073709551615 - b := by omega
  rw [e]
  omega
theorem not_bit (b j : Nat) (hb : b < 18446744073709551616) : (18446744073709551615 - b).testBit j = (decide (j < 64) && !b.testBit j) := by
  have e : 18446744073709551615 - b = 2 ^ 64 - (b + 1) := by omega
  rw [e, Nat.testBit_two_pow_sub_succ hb]
/-- The operators on words. -/
theorem or_word (m m' : Nat → Bool) (i : Nat) : bits .or .u64 (word m i : Int) (word m' i : Int) = (word (fun n => m n || m' n) i : Int) := by
  rw [bits_or_u64_nat _ _ (word_lt _ _) (word_lt _ _)]
  congr 1
  apply Nat.eq_of_testBit_eq
  intro j
  rw [Nat.testBit_or, word_bit, word_bit, word_bit]
  cases decide (j < 64) <;> simp
theorem and_word (m m' : Nat → Bool) (i : Nat) : bits .and .u64 (word m i : Int) (word m' i : Int) = (word (fun n => m n && m' n) i : Int) := by
  rw [bits_and_u64_nat _ _ (word_lt _ _) (word_lt _ _)]
  congr 1
  apply Nat.eq_of_testBit_eq
  intro j
  rw [Nat.testBit_and, word_bit, word_bit, word_bit]
  cases decide (j < 64) <;> simp
theorem andNot_word (m m' : Nat → Bool) (i : Nat) : bits .andNot .u64 (word m i : Int) (word m' i : Int) = (word (fun n => m n && !m' n) i : Int) := by
  rw [andNot_nat _ _ (word_lt _ _) (word_lt _ _)]
  congr 1
  apply Nat.eq_of_testBit_eq
  intro j
  rw [Nat.testBit_and, not_bit _ _ (word_lt _ _), word_bit, word_bit, word_bit]
  cases decide (j < 64) <;> simp
/-- One bit. -/
theorem one_word (n : Nat) (hn : n < 4096) : (2 ^ (n % 64) : Nat) = word (fun k => decide (k = n)) (n / 64) := by
  apply Nat.eq_of_testBit_eq
  intro j
  rw [Nat.testBit_two_pow, word_bit]
  by_cases h : n % 64 = j
  · subst h
    have h1 : n % 64 < 64 := Nat.mod_lt _ (by omega)
    simp [h1]
    omega
  · by_cases hj : j < 64
    · simp [h, hj]
      omega
    · simp [h, hj]
theorem one_other (n i : Nat) (h : i ≠ n / 64) (m : Nat → Bool) : word (fun k => m k || decide (k = n)) i = word m i := by
  apply word_ext
  intro j hj
  have : 64 * i + j ≠ n := by omega
  simp [this]
end Go.Proofs.YtjcppnleoahaiaaDoor.P
namespace Go.Proofs.YtjcppnleoahaiaaDoor.P
open Go.RowKit Go.Proofs.YtjcppnleoahaiaaDoorW.PrintWords Go.Proofs.YtjcppnleoahaiaaDoorW.PrintLast Go.Proofs.YtjcppnleoahaiaaDoorW.PrintMore
set_option linter.unusedVariables false
set_option linter.unusedSimpArgs false
/-- The 64 words of a set. -/
def cells (m : Nat → Bool) : Array Value := ((List.range 64).map fun i => Value.int .u64 (word m i)).toArray
theorem cells_size (m : Nat → Bool) : (cells m).size = 64 := by simp [cells]
theorem cells_at (m : Nat → Bool) {i : Nat} (h : i < 64) : (cells m)[i]? = some (.int .u64 (word m i)) := by simp [cells, h]
theorem cells_ext {m m' : Nat → Bool} (h : ∀ n, n < 4096 → m n = m' n) : cells m = cells m' := by
  unfold cells
  congr 1
  apply List.map_congr_left
  intro i hi
  have hi' : i < 64 := by simpa using hi
  rw [word_ext (fun j hj => h (64 * i + j) (by omega))]
theorem within_no {n : Int} (h : ¬ (0 ≤ n ∧ n < 4096)) : bits_within.f n = some false := by
  unfold bits_within.f
  by_cases h0 : n ≥ 0
  · rw [if_pos h0]
    simp; omega
  · rw [if_neg h0]
theorem within_yes {n : Nat} (h : n < 4096) : bits_within.f (n : Int) = some true := by
  unfold bits_within.f
  rw [if_pos (by omega)]
  simp; omega
theorem within_call (n : Int) (r : Bool) (w : World) (h : bits_within.f n = some r) : Calls Tryd.prog 37 #[.int .i64 n] w fun e w' => e = .returned (.bool r) ∧ Below w.heap.size w w' :=
  (bits_within.calls n r w h).mono fun _ _ hh => ⟨hh.1, hh.2.below⟩
set_option maxRecDepth 100000 in
set_option maxHeartbeats 2000000 in
theorem has_no (m : Nat → Bool) (n : Int) (w : World) (h : ¬ (0 ≤ n ∧ n < 4096)) :
    Calls Tryd.prog 17 #[.agg (cells m), .int .i64 n] w fun e w' => e = .returned (.bool false) ∧ Below w.heap.size w w' := by
  have hsz := cells_size m
  obtain ⟨cs, hcs⟩ : ∃ cs, cs = cells m := ⟨_, rfl⟩
  rw [← hcs] at hsz ⊢
  clear hcs
  have HW := Lib.hid (within_no h)
  clear h
  go_enter Tryd.func17, Tryd.ntmps17
  go_wp2_with fail
  refine (within_call n false _ HW.out).mono ?_
  rintro e w1 ⟨rfl, hb⟩
  go_wp2_with fail
  go_ret
  exact ⟨rfl, below_step (below_alloc (Below.refl _ _) _) hb⟩
theorem has_bit (m : Nat → Bool) (n W : Nat) (h : W = word m (n / 64)) (hl : W < 18446744073709551616) : (bits .and .u64 ((W : Int) / 2 ^ (n % 64)) 1 == 1) = m n := by
  have e : (W : Int) / 2 ^ (n % 64) = ((W / 2 ^ (n % 64) : Nat) : Int) := by push_cast; rfl
  have hd : W / 2 ^ (n % 64) < 18446744073709551616 := Nat.lt_of_le_of_lt (Nat.div_le_self _ _) hl
  have e1 : (1 : Int) = ((1 : Nat) : Int) := rfl
  rw [e]
  conv => lhs; rw [e1]
  rw [bits_and_u64_nat _ _ hd (by decide), Nat.and_one_is_mod]
  have hb := word_bit m (n / 64) (n % 64)
  have e2 : 64 * (n / 64) + n % 64 = n := Nat.div_add_mod n 64
  have hm : n % 64 < 64 := Nat.mod_lt _ (by omega)
  rw [← h, e2, Nat.testBit_eq_decide_div_mod_eq] at hb
  simp only [hm, decide_true, Bool.true_and] at hb
  rw [← hb]
  by_cases h1 : W / 2 ^ (n % 64) % 2 = 1
  · simp [h1]
  · have h0 : W / 2 ^ (n % 64) % 2 = 0 := by omega
    simp [h0]
set_option maxRecDepth 100000 in
set_option maxHeartbeats 2000000 in
theorem has_yes (m : Nat → Bool) (n : Nat) (w : World) (h : n < 4096) :
    Calls Tryd.prog 17 #[.agg (cells m), .int .i64 n] w fun e w' => e = .returned (.bool (m n)) ∧ Below w.heap.size w w' := by
  have hsz := cells_size m
  have hat := cells_at m (i := n / 64) (by omega)
  obtain ⟨W, hW⟩ : ∃ W, W = word m (n / 64) := ⟨_, rfl⟩
  have hWl := word_lt m (n / 64)
  rw [← hW] at hat hWl
  obtain ⟨cs, hcs⟩ : ∃ cs, cs = cells m := ⟨_, rfl⟩
  rw [← hcs] at hsz hat ⊢
  have HW := Lib.hid (within_yes h)
  have HM := Lib.hid hW
  clear hcs hW
  go_enter Tryd.func17, Tryd.ntmps17
  go_wp2_with fail
  refine (within_call n true _ HW.out).mono ?_
  rintro e w1 ⟨rfl, hb⟩
  have BK := blk_below (heap_alloc_new w (.cells cs 27)) hb
  have cw : w1.cell? ⟨w.heap.size, n / 64, none⟩ = some (.int .u64 W) := (blk_cell BK (n / 64)).trans hat
  have HB := Lib.hid hb
  clear BK hb hat
  have i0 : (0 : Int) ≤ (n : Int) / 64 := by omega
  have i1 : (n : Int) / 64 < 64 := by omega
  go_wp2_with fail
  have hbit := has_bit m n W HM.out hWl
  rw [hbit]
  go_ret
  exact ⟨rfl, below_step (below_alloc (Below.refl _ _) _) HB.out⟩
end Go.Proofs.YtjcppnleoahaiaaDoor.P
namespace Go.Proofs.YtjcppnleoahaiaaDoor.P
open Go.RowKit
/-- Digits to a base, the least first. -/
def num (B : Nat) (d : Nat → Nat) : Nat → Nat
  | 0 => 0
  | n + 1 => d 0 + B * num B (fun j => d (j + 1)) n
def sumN (d : Nat → Nat) : Nat → Nat
  | 0 => 0
  | n + 1 => sumN d n + d n
theorem sumN_low (d : Nat → Nat) : ∀ n, sumN d (n + 1) = d 0 + sumN (fun j => d (j + 1)) n
  | 0 => by simp [sumN]
  | n + 1 => by rw [sumN, sumN_low d n, sumN]; omega
theorem sumN_pairs (d : Nat → Nat) : ∀ n, sumN (fun j => d (2 * j) + d (2 * j + 1)) n = sumN d (2 * n)
  | 0 => rfl
  | n + 1 => by rw [sumN, sumN_pairs d n, show 2 * (n + 1) = 2 * n + 1 + 1 by omega, sumN, sumN]; omega
theorem num_top (B : Nat) : ∀ (n : Nat) (d : Nat → Nat), num B d (n + 1) = num B d n + d n * B ^ n
  | 0, d => by simp [num]
  | n + 1, d => by
    rw [num, num_top B n, num, Nat.mul_add, Nat.pow_succ, ← Nat.mul_assoc, Nat.mul_comm B (d (n + 1)), Nat.mul_assoc (d (n + 1)) B, Nat.mul_comm B (B ^ n), Nat.add_assoc]
theorem num_pairs (B : Nat) : ∀ (n : Nat) (d : Nat → Nat), num B d (2 * n) = num (B * B) (fun j => d (2 * j) + B * d (2 * j + 1)) n
  | 0, d => rfl
  | n + 1, d => by
    rw [show 2 * (n + 1) = 2 * n + 1 + 1 by omega, num, num, num, num_pairs B n (fun j => d (j + 1 + 1)), Nat.mul_add, Nat.mul_assoc, Nat.add_assoc]
    rfl
theorem num_add (B : Nat) : ∀ (n : Nat) (x y : Nat → Nat), num B x n + num B y n = num B (fun j => x j + y j) n
  | 0, x, y => rfl
  | n + 1, x, y => by rw [num, num, num, ← num_add B n, Nat.mul_add]; omega
theorem num_lt (B : Nat) (hB : 0 < B) : ∀ (n : Nat) (d : Nat → Nat), (∀ j, d j < B) → num B d n < B ^ n
  | 0, d, _ => by simp [num]
  | n + 1, d, h => by
    have h1 := num_lt B hB n (fun j => d (j + 1)) (fun j => h (j + 1))
    have h2 := h 0
    have h3 : B * (num B (fun j => d (j + 1)) n + 1) ≤ B * B ^ n := Nat.mul_le_mul_left _ h1
    rw [num, Nat.pow_succ, Nat.mul_comm (B ^ n)]
    rw [Nat.mul_add] at h3
    omega
theorem and_split (s a b c d : Nat) (ha : a < 2 ^ s) (hc : c < 2 ^ s) : (a + 2 ^ s * b) &&& (c + 2 ^ s * d) = (a &&& c) + 2 ^ s * (b &&& d) := by
  have e : ∀ x : Nat, x = x % 2 ^ s + 2 ^ s * (x / 2 ^ s) := fun x => (Nat.mod_add_div x _).symm
  rw [e ((a + 2 ^ s * b) &&& (c + 2 ^ s * d)), Nat.and_mod_two_pow, Nat.and_div_two_pow]
  have p : 0 < 2 ^ s := Nat.two_pow_pos s
  rw [Nat.add_mul_mod_self_left, Nat.add_mul_mod_self_left, Nat.mod_eq_of_lt ha, Nat.mod_eq_of_lt hc, Nat.add_mul_div_left _ _ p, Nat.add_mul_div_left _ _ p, Nat.div_eq_of_lt ha, Nat.div_eq_of_lt hc, Nat.zero_add, Nat.zero_add]
/-- The even digits alone. -/
theorem num_even (s : Nat) : ∀ (n : Nat) (x y : Nat → Nat), (∀ j, x j < 2 ^ s) → (∀ j, y j < 2 ^ s) →
    num (2 ^ (s + s)) (fun j => x j + 2 ^ s * y j) n &&& num (2 ^ (s + s)) (fun _ => 2 ^ s - 1) n = num (2 ^ (s + s)) x n
  | 0, x, y, _, _ => by simp [num]
  | n + 1, x, y, hx, hy => by
    have hp : 2 ^ (s + s) = 2 ^ s * 2 ^ s := Nat.pow_add 2 s s
    have p : 0 < 2 ^ s := Nat.two_pow_pos s
    have h1 := hx 0
    have h2 : 2 ^ s * (y 0 + 1) ≤ 2 ^ s * 2 ^ s := Nat.mul_le_mul_left _ (hy 0)
    have h3 : 2 ^ s * 1 ≤ 2 ^ s * 2 ^ s := Nat.mul_le_mul_left _ p
    rw [Nat.mul_add] at h2
    rw [num, num, num, and_split (s + s) _ _ _ _ (by omega) (by omega), num_even s n _ _ (fun j => hx (j + 1)) (fun j => hy (j + 1))]
    rw [Nat.and_two_pow_sub_one_eq_mod, Nat.add_mul_mod_self_left, Nat.mod_eq_of_lt h1]
/-- The odd digits alone. -/
theorem num_odd (s : Nat) : ∀ (n : Nat) (x y : Nat → Nat), (∀ j, x j < 2 ^ s) → (∀ j, y j < 2 ^ s) →
    (num (2 ^ (s + s)) (fun j => x j + 2 ^ s * y j) n) / 2 ^ s &&& num (2 ^ (s + s)) (fun _ => 2 ^ s - 1) n = num (2 ^ (s + s)) y n
  | 0, x, y, _, _ => by simp [num]
  | n + 1, x, y, hx, hy => by
    have hp : 2 ^ (s + s) = 2 ^ s * 2 ^ s := Nat.pow_add 2 s s
    have p : 0 < 2 ^ s := Nat.two_pow_pos s
    have ih := num_odd s n _ _ (fun j => hx (j + 1)) (fun j => hy (j + 1))
    rw [num, num, num]
    obtain ⟨W, hW⟩ : ∃ W, W = num (2 ^ (s + s)) (fun j => x (j + 1) + 2 ^ s * y (j + 1)) n := ⟨_, rfl⟩
    rw [← hW] at ih ⊢
    have e1 : (x 0 + 2 ^ s * y 0 + 2 ^ (s + s) * W) / 2 ^ s = y 0 + 2 ^ s * W := by
      rw [hp, Nat.mul_assoc, Nat.add_assoc, ← Nat.mul_add, Nat.add_mul_div_left _ _ p, Nat.div_eq_of_lt (hx 0), Nat.zero_add]
    have e2 : y 0 + 2 ^ s * W = (y 0 + 2 ^ s * (W % 2 ^ s)) + 2 ^ (s + s) * (W / 2 ^ s) := by
      have := Nat.mod_add_div W (2 ^ s)
      rw [hp, Nat.mul_assoc, Nat.add_assoc, ← Nat.mul_add, this]
    have h1 := hy 0
    have h2 : 2 ^ s * (W % 2 ^ s + 1) ≤ 2 ^ s * 2 ^ s := Nat.mul_le_mul_left _ (Nat.mod_lt W p)
    have h3 : 2 ^ s * 1 ≤ 2 ^ s * 2 ^ s := Nat.mul_le_mul_left _ p
    rw [Nat.mul_add] at h2
    rw [e1, e2, and_split (s + s) _ _ _ _ (by omega) (by omega), ih, Nat.and_two_pow_sub_one_eq_mod, Nat.add_mul_mod_self_left, Nat.mod_eq_of_lt h1]
/-- Both, where no sum runs over. -/
theorem num_both : ∀ (n : Nat) (x y : Nat → Nat), (∀ j, x j ≤ 7) → (∀ j, y j ≤ 7) →
    (num 256 (fun j => x j + 16 * y j) n / 16 + num 256 (fun j => x j + 16 * y j) n) &&& num 256 (fun _ => 15) n = num 256 (fun j => x j + y j) n
  | 0, x, y, _, _ => by simp [num]
  | n + 1, x, y, hx, hy => by
    have ih := num_both n _ _ (fun j => hx (j + 1)) (fun j => hy (j + 1))
    have hq : ∃ q r, num 256 (fun j => x (j + 1) + 16 * y (j + 1)) n = r + 16 * q ∧ r ≤ 7 := by
      cases n with
      | zero => exact ⟨0, 0, by simp [num], by omega⟩
      | succ k =>
        refine ⟨y 1 + 16 * num 256 (fun j => x (j + 1 + 1) + 16 * y (j + 1 + 1)) k, x 1, ?_, hx 1⟩
        rw [num]
        simp only [Nat.zero_add]
        omega
    rw [num, num, num]
    obtain ⟨W, hW⟩ : ∃ W, W = num 256 (fun j => x (j + 1) + 16 * y (j + 1)) n := ⟨_, rfl⟩
    rw [← hW] at ih hq ⊢
    obtain ⟨q, r, hqr, hr⟩ := hq
    have h1 := hx 0
    have h2 := hy 0
    have e : (x 0 + 16 * y 0 + 256 * W) / 16 + (x 0 + 16 * y 0 + 256 * W) = ((x 0 + y 0) + 16 * ((y 0 + r) % 16)) + 2 ^ 8 * (W / 16 + W) := by omega
    have e2 : 15 + 256 * num 256 (fun _ => 15) n = 15 + 2 ^ 8 * num 256 (fun _ => 15) n := rfl
    rw [e, e2, and_split 8 _ _ _ _ (by omega) (by omega), ih, show (15 : Nat) = 2 ^ 4 - 1 from rfl, Nat.and_two_pow_sub_one_eq_mod]
    have e3 : (x 0 + y 0 + 16 * ((y 0 + r) % 16)) % 2 ^ 4 = x 0 + y 0 := by omega
    rw [e3]
def cnt (f : Nat → Bool) (n : Nat) : Nat := sumN (fun j => (f j).toNat) n
theorem wsum_num (f : Nat → Bool) : ∀ n, wsum f n = num 2 (fun j => (f j).toNat) n
  | 0 => rfl
  | n + 1 => by
    rw [num_top, ← wsum_num f n, wsum]
    cases f n <;> simp
end Go.Proofs.YtjcppnleoahaiaaDoor.P
namespace Go.Proofs.YtjcppnleoahaiaaDoor.P
open Go.RowKit
theorem u64_id (n : Nat) (h : n < 18446744073709551616) : IntKind.u64.wrap (n : Int) = (n : Int) := by rw [IntKind.wrap_u64]; omega
theorem and_u64 (x : Int) (a b : Nat) (h : x = (a : Int)) (ha : a < 18446744073709551616) (hb : b < 18446744073709551616) : bits .and .u64 x (b : Int) = ((a &&& b : Nat) : Int) := by rw [h]; exact bits_and_u64_nat a b ha hb
theorem num_bnd {B : Nat} (hB : 0 < B) (n m : Nat) (d : Nat → Nat) (h : ∀ j, d j < B) (he : B ^ n = m) : num B d n < m := he ▸ num_lt B hB n d h
theorem step1 (b : Nat → Nat) (hb : ∀ j, b j ≤ 1) :
    IntKind.u64.wrap ((bits .and .u64 ((num 2 b 64 : Nat) / 2 : Int) 6148914691236517205) + (bits .and .u64 (num 2 b 64 : Nat) 6148914691236517205)) = (num 4 (fun j => b (2 * j) + b (2 * j + 1)) 32 : Nat) := by
  have hl := num_bnd (B := 2) (by omega) 64 18446744073709551616 b (fun j => by have := hb j; omega) rfl
  have e0 : num 2 b 64 = num 4 (fun j => b (2 * j) + 2 * b (2 * j + 1)) 32 := num_pairs 2 32 b
  have hM : num 4 (fun _ => 1) 32 = 6148914691236517205 := by decide +kernel
  have h1 := num_even 1 32 (fun j => b (2 * j)) (fun j => b (2 * j + 1)) (fun j => by have := hb (2 * j); simp; omega) (fun j => by have := hb (2 * j + 1); simp; omega)
  have h2 := num_odd 1 32 (fun j => b (2 * j)) (fun j => b (2 * j + 1)) (fun j => by have := hb (2 * j); simp; omega) (fun j => by have := hb (2 * j + 1); simp; omega)
  simp only [show (2 : Nat) ^ (1 + 1) = 4 from rfl, show (2 : Nat) ^ 1 = 2 from rfl, show (2 : Nat) - 1 = 1 from rfl] at h1 h2
  rw [hM, ← e0] at h1 h2
  have hlt := num_bnd (B := 4) (by omega) 32 18446744073709551616 (fun j => b (2 * j) + b (2 * j + 1)) (fun j => by have := hb (2 * j); have := hb (2 * j + 1); simp; omega) rfl
  have a1 := and_u64 ((num 2 b 64 : Nat) / 2 : Int) (num 2 b 64 / 2) 6148914691236517205 (by omega) (by omega) (by omega)
  have a2 := and_u64 ((num 2 b 64 : Nat) : Int) (num 2 b 64) 6148914691236517205 rfl (by omega) (by omega)
  have ad := num_add 4 32 (fun j => b (2 * j)) (fun j => b (2 * j + 1))
  rw [h2] at a1
  rw [h1] at a2
  rw [show (6148914691236517205 : Int) = ((6148914691236517205 : Nat) : Int) from rfl, a1, a2, ← Int.natCast_add, Nat.add_comm, ad]
  exact u64_id _ hlt
theorem step2 (b : Nat → Nat) (hb : ∀ j, b j ≤ 2) :
    IntKind.u64.wrap ((bits .and .u64 ((num 4 b 32 : Nat) / 4 : Int) 3689348814741910323) + (bits .and .u64 (num 4 b 32 : Nat) 3689348814741910323)) = (num 16 (fun j => b (2 * j) + b (2 * j + 1)) 16 : Nat) := by
  have hl := num_bnd (B := 4) (by omega) 32 18446744073709551616 b (fun j => by have := hb j; omega) rfl
  have e0 : num 4 b 32 = num 16 (fun j => b (2 * j) + 4 * b (2 * j + 1)) 16 := num_pairs 4 16 b
  have hM : num 16 (fun _ => 3) 16 = 3689348814741910323 := by decide +kernel
  have h1 := num_even 2 16 (fun j => b (2 * j)) (fun j => b (2 * j + 1)) (fun j => by have := hb (2 * j); simp; omega) (fun j => by have := hb (2 * j + 1); simp; omega)
  have h2 := num_odd 2 16 (fun j => b (2 * j)) (fun j => b (2 * j + 1)) (fun j => by have := hb (2 * j); simp; omega) (fun j => by have := hb (2 * j + 1); simp; omega)
  simp only [show (2 : Nat) ^ (2 + 2) = 16 from rfl, show (2 : Nat) ^ 2 = 4 from rfl, show (4 : Nat) - 1 = 3 from rfl] at h1 h2
  rw [hM, ← e0] at h1 h2
  have hlt := num_bnd (B := 16) (by omega) 16 18446744073709551616 (fun j => b (2 * j) + b (2 * j + 1)) (fun j => by have := hb (2 * j); have := hb (2 * j + 1); simp; omega) rfl
  have a1 := and_u64 ((num 4 b 32 : Nat) / 4 : Int) (num 4 b 32 / 4) 3689348814741910323 (by omega) (by omega) (by omega)
  have a2 := and_u64 ((num 4 b 32 : Nat) : Int) (num 4 b 32) 3689348814741910323 rfl (by omega) (by omega)
  have ad := num_add 16 16 (fun j => b (2 * j)) (fun j => b (2 * j + 1))
  rw [h2] at a1
  rw [h1] at a2
  rw [show (3689348814741910323 : Int) = ((3689348814741910323 : Nat) : Int) from rfl, a1, a2, ← Int.natCast_add, Nat.add_comm, ad]
  exact u64_id _ hlt
theorem step3 (b : Nat → Nat) (hb : ∀ j, b j ≤ 4) :
    bits .and .u64 (IntKind.u64.wrap ((num 16 b 16 : Nat) / 16 + (num 16 b 16 : Nat))) 1085102592571150095 = (num 256 (fun j => b (2 * j) + b (2 * j + 1)) 8 : Nat) := by
  have hl : num 16 b 16 < 5534023222112865485 := by
    have h := num_add 16 16 b (fun j => 4 - b j)
    have e : num 16 (fun j => b j + (4 - b j)) 16 = 4919131752989213764 := by
      have : (fun j => b j + (4 - b j)) = fun _ => 4 := by funext j; have := hb j; omega
      rw [this]; decide +kernel
    omega
  have e0 : num 16 b 16 = num 256 (fun j => b (2 * j) + 16 * b (2 * j + 1)) 8 := num_pairs 16 8 b
  have hM : num 256 (fun _ => 15) 8 = 1085102592571150095 := by decide +kernel
  have h1 := num_both 8 (fun j => b (2 * j)) (fun j => b (2 * j + 1)) (fun j => by have := hb (2 * j); omega) (fun j => by have := hb (2 * j + 1); omega)
  rw [hM, ← e0] at h1
  have e1 : ((num 16 b 16 : Nat) / 16 + (num 16 b 16 : Nat) : Int) = ((num 16 b 16 / 16 + num 16 b 16 : Nat) : Int) := by omega
  have h3 := bits_and_u64_nat (num 16 b 16 / 16 + num 16 b 16) 1085102592571150095 (by omega) (by omega)
  rw [e1, u64_id _ (by omega), ← h1]
  exact h3
theorem dv2 (lo hi : Nat) (h : lo < 65536) : ((lo + 65536 * hi : Nat) : Int) / 65536 = (hi : Int) := by omega
theorem dv3 (lo hi : Nat) (h : lo < 4294967296) : ((lo + 4294967296 * hi : Nat) : Int) / 4294967296 = (hi : Int) := by omega
theorem step4 (g : Nat → Nat) (hg : ∀ j, g j ≤ 8) :
    ∃ V1 V2 V3 : Nat, IntKind.u64.wrap ((num 256 g 8 : Nat) + (num 256 g 8 : Nat) / 256) = V1 ∧ IntKind.u64.wrap ((V1 : Int) + (V1 : Int) / 65536) = V2 ∧ IntKind.u64.wrap ((V2 : Int) + (V2 : Int) / 4294967296) = V3 ∧ V3 % 128 = sumN g 8 ∧ V3 < 9223372036854775808 := by
  have e : num 256 g 8 = g 0 + 256 * g 1 + 65536 * g 2 + 16777216 * g 3 + 4294967296 * g 4 + 1099511627776 * g 5 + 281474976710656 * g 6 + 72057594037927936 * g 7 := by simp [num]; omega
  have s : sumN g 8 = g 0 + g 1 + g 2 + g 3 + g 4 + g 5 + g 6 + g 7 := by simp [sumN]
  have h0 := hg 0; have h1 := hg 1; have h2 := hg 2; have h3 := hg 3; have h4 := hg 4; have h5 := hg 5; have h6 := hg 6; have h7 := hg 7
  rw [e, s]
  obtain ⟨a, ha⟩ : ∃ a, a = g 0 := ⟨_, rfl⟩
  generalize g 0 = g0 at *; generalize g 1 = g1 at *; generalize g 2 = g2 at *; generalize g 3 = g3 at *; generalize g 4 = g4 at *; generalize g 5 = g5 at *; generalize g 6 = g6 at *; generalize g 7 = g7 at *
  refine ⟨(g0 + g1) + 256 * (g1 + g2) + 65536 * (g2 + g3) + 16777216 * (g3 + g4) + 4294967296 * (g4 + g5) + 1099511627776 * (g5 + g6) + 281474976710656 * (g6 + g7) + 72057594037927936 * g7,
    (g0 + g1 + g2 + g3) + 256 * (g1 + g2 + g3 + g4) + 65536 * (g2 + g3 + g4 + g5) + 16777216 * (g3 + g4 + g5 + g6) + 4294967296 * (g4 + g5 + g6 + g7) + 1099511627776 * (g5 + g6 + g7) + 281474976710656 * (g6 + g7) + 72057594037927936 * g7,
    (g0 + g1 + g2 + g3 + g4 + g5 + g6 + g7) + 256 * (g1 + g2 + g3 + g4 + g5 + g6 + g7) + 65536 * (g2 + g3 + g4 + g5 + g6 + g7) + 16777216 * (g3 + g4 + g5 + g6 + g7) + 4294967296 * (g4 + g5 + g6 + g7) + 1099511627776 * (g5 + g6 + g7) + 281474976710656 * (g6 + g7) + 72057594037927936 * g7, ?_, ?_, ?_, ?_, ?_⟩
  · rw [IntKind.wrap_u64]; omega
  · have e1 : (g0 + g1) + 256 * (g1 + g2) + 65536 * (g2 + g3) + 16777216 * (g3 + g4) + 4294967296 * (g4 + g5) + 1099511627776 * (g5 + g6) + 281474976710656 * (g6 + g7) + 72057594037927936 * g7
        = ((g0 + g1) + 256 * (g1 + g2)) + 65536 * ((g2 + g3) + 256 * (g3 + g4) + 65536 * (g4 + g5) + 16777216 * (g5 + g6) + 4294967296 * (g6 + g7) + 1099511627776 * g7) := by omega
    rw [e1, dv2 _ _ (by omega), ← Int.natCast_add, u64_id _ (by omega)]
    congr 1
    omega
  · have e1 : (g0 + g1 + g2 + g3) + 256 * (g1 + g2 + g3 + g4) + 65536 * (g2 + g3 + g4 + g5) + 16777216 * (g3 + g4 + g5 + g6) + 4294967296 * (g4 + g5 + g6 + g7) + 1099511627776 * (g5 + g6 + g7) + 281474976710656 * (g6 + g7) + 72057594037927936 * g7
        = ((g0 + g1 + g2 + g3) + 256 * (g1 + g2 + g3 + g4) + 65536 * (g2 + g3 + g4 + g5) + 16777216 * (g3 + g4 + g5 + g6)) + 4294967296 * ((g4 + g5 + g6 + g7) + 256 * (g5 + g6 + g7) + 65536 * (g6 + g7) + 16777216 * g7) := by omega
    rw [e1, dv3 _ _ (by omega), ← Int.natCast_add, u64_id _ (by omega)]
    congr 1
    omega
  · omega
  · omega
theorem cnt_le (f : Nat → Bool) : ∀ n, cnt f n ≤ n
  | 0 => Nat.le_refl _
  | n + 1 => by
    have h := cnt_le f n
    unfold cnt at h ⊢
    rw [sumN]
    have : (f n).toNat ≤ 1 := Bool.toNat_le (f n)
    omega
theorem pop_word (f : Nat → Bool) : bits_OnesCount64.f (wsum f 64 : Nat) = some (cnt f 64 : Int) := by
  have hb : ∀ j, (f j).toNat ≤ 1 := fun j => Bool.toNat_le (f j)
  obtain ⟨b, hbd⟩ : ∃ b : Nat → Nat, b = fun j => (f j).toNat := ⟨_, rfl⟩
  have hb1 : ∀ j, b j ≤ 1 := by intro j; rw [hbd]; exact hb j
  have hw : wsum f 64 = num 2 b 64 := by rw [hbd]; exact wsum_num f 64
  have hc : cnt f 64 = sumN b 64 := by rw [hbd]; rfl
  obtain ⟨d1, h1⟩ : ∃ d, d = fun j => b (2 * j) + b (2 * j + 1) := ⟨_, rfl⟩
  have l1 : ∀ j, d1 j ≤ 2 := by intro j; rw [h1]; have := hb1 (2 * j); have := hb1 (2 * j + 1); simp only; omega
  obtain ⟨d2, h2⟩ : ∃ d, d = fun j => d1 (2 * j) + d1 (2 * j + 1) := ⟨_, rfl⟩
  have l2 : ∀ j, d2 j ≤ 4 := by intro j; rw [h2]; have := l1 (2 * j); have := l1 (2 * j + 1); simp only; omega
  obtain ⟨d3, h3⟩ : ∃ d, d = fun j => d2 (2 * j) + d2 (2 * j + 1) := ⟨_, rfl⟩
  have l3 : ∀ j, d3 j ≤ 8 := by intro j; rw [h3]; have := l2 (2 * j); have := l2 (2 * j + 1); simp only; omega
  have s1 := step1 b hb1
  rw [← h1] at s1
  have s2 := step2 d1 l1
  rw [← h2] at s2
  have s3 := step3 d2 l2
  rw [← h3] at s3
  obtain ⟨V1, V2, V3, s4, s5, s6, s7, s8⟩ := step4 d3 l3
  have es : sumN d3 8 = cnt f 64 := by
    have e3 : sumN d3 8 = sumN d2 16 := by rw [h3]; exact sumN_pairs d2 8
    have e2 : sumN d2 16 = sumN d1 32 := by rw [h2]; exact sumN_pairs d1 16
    have e1 : sumN d1 32 = sumN b 64 := by rw [h1]; exact sumN_pairs b 32
    rw [e3, e2, e1, hc]
  unfold bits_OnesCount64.f
  rw [hw, s1, s2, s3, s4, s5, s6]
  have hw : wrap64 (V3 : Int) = (V3 : Int) := by
    unfold wrap64
    omega
  rw [hw, i64_and127, ← es, ← s7]
  rfl
theorem pop_call (f : Nat → Bool) (w : World) : Calls Tryd.prog 41 #[.int .u64 (wsum f 64 : Nat)] w fun e w' => e = .returned (.int .i64 (cnt f 64 : Nat)) ∧ Below w.heap.size w w' :=
  (bits_OnesCount64.calls _ _ w (pop_word f)).mono fun _ _ h => ⟨h.1, h.2.below⟩
end Go.Proofs.YtjcppnleoahaiaaDoor.P
namespace Go.Proofs.YtjcppnleoahaiaaDoor.P
open Go.RowKit Go.Proofs.YtjcppnleoahaiaaDoorW.PrintWords Go.Proofs.YtjcppnleoahaiaaDoorW.PrintLast Go.Proofs.YtjcppnleoahaiaaDoorW.PrintMore
set_option linter.unusedVariables false
set_option linter.unusedSimpArgs false
def Stp (p : Prop) : Prop := p
theorem Stp.out {p : Prop} (h : Stp p) : p := h
def noughts : Array Value := #[.int .u64 0, .int .u64 0, .int .u64 0, .int .u64 0, .int .u64 0, .int .u64 0, .int .u64 0, .int .u64 0, .int .u64 0, .int .u64 0, .int .u64 0, .int .u64 0, .int .u64 0, .int .u64 0, .int .u64 0, .int .u64 0, .int .u64 0, .int .u64 0, .int .u64 0, .int .u64 0, .int .u64 0, .int .u64 0, .int .u64 0, .int .u64 0, .int .u64 0, .int .u64 0, .int .u64 0, .int .u64 0, .int .u64 0, .int .u64 0, .int .u64 0, .int .u64 0, .int .u64 0, .int .u64 0, .int .u64 0, .int .u64 0, .int .u64 0, .int .u64 0, .int .u64 0, .int .u64 0, .int .u64 0, .int .u64 0, .int .u64 0, .int .u64 0, .int .u64 0, .int .u64 0, .int .u64 0, .int .u64 0, .int .u64 0, .int .u64 0, .int .u64 0, .int .u64 0, .int .u64 0, .int .u64 0, .int .u64 0, .int .u64 0, .int .u64 0, .int .u64 0, .int .u64 0, .int .u64 0, .int .u64 0, .int .u64 0, .int .u64 0, .int .u64 0]
theorem noughts_size : noughts.size = 64 := by decide
theorem cells_one (m : Nat → Bool) : (cells m).all (·.oneCell') = true := by
  simp [cells, Value.oneCell']
theorem blk_new1 (X : World) (o o' : Obj) : ((X.alloc o).alloc o').heap[X.heap.size + 1]? = some o' := by
  have h := heap_alloc_new (X.alloc o) o'
  have e : (X.alloc o).heap.size = X.heap.size + 1 := by simp
  rwa [e] at h
theorem blk_row {w : World} {g : Nat} {cs old : Array Value} {t : TypeId} (h : w.heap[g]? = some (.cells old t (0, 0))) : (w.setRow g cs).heap[g]? = some (.cells cs t (0, 0)) := by
  simp [World.setRow, Array.getElem?_modify, h]
theorem row_other {w : World} {g k : Nat} {cs : Array Value} (h : k ≠ g) : (w.setRow g cs).heap[k]? = w.heap[k]? := by
  simp [World.setRow, Array.getElem?_modify, Ne.symm h]
theorem below_row {n g : Nat} {w W : World} {cs : Array Value} (h : Below n w W) (hg : n ≤ g) : Below n w (W.setRow g cs) :=
  ⟨h.os, h.tape, h.output, by simpa [World.setRow] using h.size, fun k hk => (row_other (by omega)).trans (h.block k hk)⟩
theorem put_word (m m' : Nat → Bool) (n : Nat) (hn : n < 4096) (hne : ∀ i, i < 64 → i ≠ n / 64 → word m' i = word m i) : (cells m).setIfInBounds (n / 64) (.int .u64 (word m' (n / 64))) = cells m' := by
  apply Array.ext
  · simp [cells]
  · intro i h1 h2
    have hi : i < 64 := by rw [cells_size] at h2; exact h2
    by_cases e : n / 64 = i
    · subst e
      simp [cells]
    · simp [cells, Array.getElem_setIfInBounds, e]
      exact_mod_cast (hne i hi (Ne.symm e)).symm
def withF (m : Nat → Bool) (n : Nat) (k : Nat) : Bool := m k || decide (k = n)
def outF (m : Nat → Bool) (n : Nat) (k : Nat) : Bool := m k && !decide (k = n)
theorem with_word (m : Nat → Bool) (n W : Nat) (hn : n < 4096) (h : W = word m (n / 64)) : bits .or .u64 (W : Int) (2 ^ (n % 64)) = (word (withF m n) (n / 64) : Int) := by
  have e : ((2 : Int) ^ (n % 64)) = ((2 ^ (n % 64) : Nat) : Int) := by push_cast; rfl
  rw [e, one_word n hn, h, or_word]
  rfl
theorem out_word (m : Nat → Bool) (n W : Nat) (hn : n < 4096) (h : W = word m (n / 64)) : bits .andNot .u64 (W : Int) (2 ^ (n % 64)) = (word (outF m n) (n / 64) : Int) := by
  have e : ((2 : Int) ^ (n % 64)) = ((2 ^ (n % 64) : Nat) : Int) := by push_cast; rfl
  rw [e, one_word n hn, h, andNot_word]
  rfl
theorem pow_wrap (n : Nat) : IntKind.u64.wrap (2 ^ (n % 64)) = 2 ^ (n % 64) := by
  have h1 : n % 64 ≤ 63 := by omega
  have h2 : (2 : Nat) ^ (n % 64) ≤ 2 ^ 63 := Nat.pow_le_pow_right (by omega) h1
  have e : ((2 : Int) ^ (n % 64)) = ((2 ^ (n % 64) : Nat) : Int) := by push_cast; rfl
  obtain ⟨p, hp⟩ : ∃ p : Nat, p = 2 ^ (n % 64) := ⟨_, rfl⟩
  rw [e, ← hp, IntKind.wrap_u64]
  rw [← hp] at h2
  omega
theorem with_other (m : Nat → Bool) (n i : Nat) (h : i ≠ n / 64) : word (withF m n) i = word m i := by
  apply word_ext
  intro j hj
  have : 64 * i + j ≠ n := by omega
  simp [withF, this]
theorem out_other (m : Nat → Bool) (n i : Nat) (h : i ≠ n / 64) : word (outF m n) i = word m i := by
  apply word_ext
  intro j hj
  have : 64 * i + j ≠ n := by omega
  simp [outF, this]
theorem cell_drew_ {X : World} {a : Addr} {v : Value} (h : X.cell? a = some v) : X.drew.cell? a = some v := h
set_option maxRecDepth 100000 in
set_option maxHeartbeats 2000000 in
theorem with_no (m : Nat → Bool) (n : Int) (w : World) (h : ¬ (0 ≤ n ∧ n < 4096)) :
    Calls Tryd.prog 13 #[.agg (cells m), .int .i64 n] w fun e w' => e = .returned (.agg (cells m)) ∧ Below w.heap.size w w' := by
  have hsz := cells_size m
  have hone := cells_one m
  obtain ⟨cs, hcs⟩ : ∃ cs, cs = cells m := ⟨_, rfl⟩
  rw [← hcs] at hsz hone ⊢
  clear hcs
  have HW := Lib.hid (within_no h)
  have hi : (Tryd.prog.info? 27).map (·.size) = some cs.size := by rw [hsz]; kernel_rfl
  clear h
  go_enter Tryd.func13, Tryd.ntmps13
  go_wp2_with fail
  obtain ⟨w2, hw2⟩ : ∃ W_, W_ = (w.alloc (.cells cs 27)).alloc (.cells noughts 27) := ⟨_, rfl⟩
  unfold noughts at hw2
  rw [← hw2]
  have K1 : w2.heap[w.heap.size]? = some (.cells cs 27 (0, 0)) := by rw [hw2]; exact blk_alloc (heap_alloc_new w _) _
  have K2 : w2.heap[w.heap.size + 1]? = some (.cells noughts 27 (0, 0)) := by rw [hw2]; exact blk_new1 w _ _
  have B2 : Below w.heap.size w w2 := by rw [hw2]; exact below_alloc (below_alloc (Below.refl _ _) _) _
  have HK1 := Lib.hid K1
  have HK2 := Lib.hid K2
  clear hw2 K1 K2
  refine (within_call n false _ HW.out).mono ?_
  rintro e w3 ⟨rfl, hb⟩
  have HK3 := Lib.hid (blk_below HK1.out hb)
  have HK4 := Lib.hid (blk_below HK2.out hb)
  have HB := Lib.hid (below_step B2 hb)
  clear HK1 HK2 hb B2
  go_wp2_with (((with_reducible refine gate_dst (N := 18) rfl ?_); refine Stp.out ?_))
  unfold Stp
  refine wpList_load_row rfl 27 (.tmp 2) rfl w.heap.size rfl 27 cs (0, 0) _ HK3.out Tryd.underlying27 rfl hi ?_
  refine wpList_store_row rfl 27 (.tmp 4) (.tmp 18) rfl (w.heap.size + 1) cs rfl rfl 27 noughts HK4.out hi (by rw [hsz]; rfl) hone ?_
  go_wp2_with fail
  refine bodyPost_ret (results_cell_row rfl _ _ (w.heap.size + 1) 27 cs (0, 0) _ rfl (blk_row HK4.out) Tryd.underlying27 rfl hi) rfl ?_
  exact ⟨rfl, below_row HB.out (by omega)⟩
set_option maxRecDepth 100000 in
set_option maxHeartbeats 2000000 in
theorem out_no (m : Nat → Bool) (n : Int) (w : World) (h : ¬ (0 ≤ n ∧ n < 4096)) :
    Calls Tryd.prog 15 #[.agg (cells m), .int .i64 n] w fun e w' => e = .returned (.agg (cells m)) ∧ Below w.heap.size w w' := by
  have hsz := cells_size m
  have hone := cells_one m
  obtain ⟨cs, hcs⟩ : ∃ cs, cs = cells m := ⟨_, rfl⟩
  rw [← hcs] at hsz hone ⊢
  clear hcs
  have HW := Lib.hid (within_no h)
  have hi : (Tryd.prog.info? 27).map (·.size) = some cs.size := by rw [hsz]; kernel_rfl
  clear h
  go_enter Tryd.func15, Tryd.ntmps15
  go_wp2_with fail
  obtain ⟨w2, hw2⟩ : ∃ W_, W_ = (w.alloc (.cells cs 27)).alloc (.cells noughts 27) := ⟨_, rfl⟩
  unfold noughts at hw2
  rw [← hw2]
  have K1 : w2.heap[w.heap.size]? = some (.cells cs 27 (0, 0)) := by rw [hw2]; exact blk_alloc (heap_alloc_new w _) _
  have K2 : w2.heap[w.heap.size + 1]? = some (.cells noughts 27 (0, 0)) := by rw [hw2]; exact blk_new1 w _ _
  have B2 : Below w.heap.size w w2 := by rw [hw2]; exact below_alloc (below_alloc (Below.refl _ _) _) _
  have HK1 := Lib.hid K1
  have HK2 := Lib.hid K2
  clear hw2 K1 K2
  refine (within_call n false _ HW.out).mono ?_
  rintro e w3 ⟨rfl, hb⟩
  have HK3 := Lib.hid (blk_below HK1.out hb)
  have HK4 := Lib.hid (blk_below HK2.out hb)
  have HB := Lib.hid (below_step B2 hb)
  clear HK1 HK2 hb B2
  go_wp2_with (((with_reducible refine gate_dst (N := 18) rfl ?_); refine Stp.out ?_))
  unfold Stp
  refine wpList_load_row rfl 27 (.tmp 2) rfl w.heap.size rfl 27 cs (0, 0) _ HK3.out Tryd.underlying27 rfl hi ?_
  refine wpList_store_row rfl 27 (.tmp 4) (.tmp 18) rfl (w.heap.size + 1) cs rfl rfl 27 noughts HK4.out hi (by rw [hsz]; rfl) hone ?_
  go_wp2_with fail
  refine bodyPost_ret (results_cell_row rfl _ _ (w.heap.size + 1) 27 cs (0, 0) _ rfl (blk_row HK4.out) Tryd.underlying27 rfl hi) rfl ?_
  exact ⟨rfl, below_row HB.out (by omega)⟩
set_option maxRecDepth 100000 in
set_option maxHeartbeats 2000000 in
theorem with_yes (m : Nat → Bool) (n : Nat) (w : World) (h : n < 4096) :
    Calls Tryd.prog 13 #[.agg (cells m), .int .i64 n] w fun e w' => e = .returned (.agg (cells (withF m n))) ∧ Below w.heap.size w w' := by
  have hsz := cells_size m
  have hat := cells_at m (i := n / 64) (by omega)
  obtain ⟨W, hW⟩ : ∃ W, W = word m (n / 64) := ⟨_, rfl⟩
  have hWl := word_lt m (n / 64)
  rw [← hW] at hat hWl
  have hput : Hid ((cells m).setIfInBounds (n / 64) (.int .u64 (word (withF m n) (n / 64))) = cells (withF m n)) := Lib.hid (put_word m _ n h (fun i _ hi => with_other m n i hi))
  have hsz2 := cells_size (withF m n)
  have hone2 := cells_one (withF m n)
  obtain ⟨cs2, hcs2⟩ : ∃ cs, cs = cells (withF m n) := ⟨_, rfl⟩
  rw [← hcs2] at hput hsz2 hone2 ⊢
  obtain ⟨cs, hcs⟩ : ∃ cs, cs = cells m := ⟨_, rfl⟩
  rw [← hcs] at hsz hat hput ⊢
  have HW := Lib.hid (within_yes h)
  have HV := Lib.hid (with_word m n W h hW)
  have hi : (Tryd.prog.info? 27).map (·.size) = some cs2.size := by rw [hsz2]; kernel_rfl
  clear hcs hcs2 hW
  go_enter Tryd.func13, Tryd.ntmps13
  go_wp2_with fail
  obtain ⟨w2, hw2⟩ : ∃ W_, W_ = (w.alloc (.cells cs 27)).alloc (.cells noughts 27) := ⟨_, rfl⟩
  unfold noughts at hw2
  rw [← hw2]
  have K1 : w2.heap[w.heap.size]? = some (.cells cs 27 (0, 0)) := by rw [hw2]; exact blk_alloc (heap_alloc_new w _) _
  have K2 : w2.heap[w.heap.size + 1]? = some (.cells noughts 27 (0, 0)) := by rw [hw2]; exact blk_new1 w _ _
  have B2 : Below w.heap.size w w2 := by rw [hw2]; exact below_alloc (below_alloc (Below.refl _ _) _) _
  have HK1 := Lib.hid K1
  have HK2 := Lib.hid K2
  clear hw2 K1 K2
  refine (within_call n true _ HW.out).mono ?_
  rintro e w3 ⟨rfl, hb⟩
  have HK3 := Lib.hid (blk_below HK1.out hb)
  have HK4 := Lib.hid (blk_below HK2.out hb)
  have HB := Lib.hid (below_step B2 hb)
  have cw : w3.cell? ⟨w.heap.size, n / 64, none⟩ = some (.int .u64 W) := (blk_cell HK3.out (n / 64)).trans hat
  have fw : w3.frozen? ⟨w.heap.size, n / 64, none⟩ = false := blk_frozen HK3.out (n / 64)
  have i0 : (0 : Int) ≤ (n : Int) / 64 := by omega
  have i1 : (n : Int) / 64 < 64 := by omega
  clear HK1 HK2 hb B2 hat
  go_wp2_with fail
  go_region
  have e1 : IntKind.u64.wrap (2 ^ (n % 64)) = 2 ^ (n % 64) := pow_wrap n
  rw [e1, HV.out]
  obtain ⟨w4, hw4⟩ : ∃ W_, W_ = (w3.setCell ⟨w.heap.size, n / 64, none⟩ (.int .u64 (word (withF m n) (n / 64)))).drew := ⟨_, rfl⟩
  rw [← hw4]
  have HK5 : Hid (w4.heap[w.heap.size]? = some (.cells cs2 27 (0, 0))) := Lib.hid (by rw [hw4, ← hput.out]; exact blk_put HK3.out _ _ rfl)
  have HK6 : Hid (w4.heap[w.heap.size + 1]? = some (.cells noughts 27 (0, 0))) := Lib.hid (by rw [hw4]; exact (Below.heap_setCell _ _ _ _ (Nat.succ_ne_self _)).trans HK4.out)
  have HB4 : Hid (Below w.heap.size w w4) := Lib.hid (by rw [hw4]; exact below_drew (HB.out.setCell (Nat.le_refl _) _))
  clear hw4 cw fw e1
  go_wp2_with (((with_reducible refine gate_dst (N := 18) rfl ?_); refine Stp.out ?_))
  unfold Stp
  refine wpList_load_row rfl 27 (.tmp 2) rfl w.heap.size rfl 27 cs2 (0, 0) _ HK5.out Tryd.underlying27 rfl hi ?_
  refine wpList_store_row rfl 27 (.tmp 4) (.tmp 18) rfl (w.heap.size + 1) cs2 rfl rfl 27 noughts HK6.out hi (by rw [hsz2]; rfl) hone2 ?_
  go_wp2_with fail
  refine bodyPost_ret (results_cell_row rfl _ _ (w.heap.size + 1) 27 cs2 (0, 0) _ rfl (blk_row HK6.out) Tryd.underlying27 rfl hi) rfl ?_
  exact ⟨rfl, below_row HB4.out (by omega)⟩
set_option maxRecDepth 100000 in
set_option maxHeartbeats 2000000 in
theorem out_yes (m : Nat → Bool) (n : Nat) (w : World) (h : n < 4096) :
    Calls Tryd.prog 15 #[.agg (cells m), .int .i64 n] w fun e w' => e = .returned (.agg (cells (outF m n))) ∧ Below w.heap.size w w' := by
  have hsz := cells_size m
  have hat := cells_at m (i := n / 64) (by omega)
  obtain ⟨W, hW⟩ : ∃ W, W = word m (n / 64) := ⟨_, rfl⟩
  have hWl := word_lt m (n / 64)
  rw [← hW] at hat hWl
  have hput : Hid ((cells m).setIfInBounds (n / 64) (.int .u64 (word (outF m n) (n / 64))) = cells (outF m n)) := Lib.hid (put_word m _ n h (fun i _ hi => out_other m n i hi))
  have hsz2 := cells_size (outF m n)
  have hone2 := cells_one (outF m n)
  obtain ⟨cs2, hcs2⟩ : ∃ cs, cs = cells (outF m n) := ⟨_, rfl⟩
  rw [← hcs2] at hput hsz2 hone2 ⊢
  obtain ⟨cs, hcs⟩ : ∃ cs, cs = cells m := ⟨_, rfl⟩
  rw [← hcs] at hsz hat hput ⊢
  have HW := Lib.hid (within_yes h)
  have HV := Lib.hid (out_word m n W h hW)
  have hi : (Tryd.prog.info? 27).map (·.size) = some cs2.size := by rw [hsz2]; kernel_rfl
  clear hcs hcs2 hW
  go_enter Tryd.func15, Tryd.ntmps15
  go_wp2_with fail
  obtain ⟨w2, hw2⟩ : ∃ W_, W_ = (w.alloc (.cells cs 27)).alloc (.cells noughts 27) := ⟨_, rfl⟩
  unfold noughts at hw2
  rw [← hw2]
  have K1 : w2.heap[w.heap.size]? = some (.cells cs 27 (0, 0)) := by rw [hw2]; exact blk_alloc (heap_alloc_new w _) _
  have K2 : w2.heap[w.heap.size + 1]? = some (.cells noughts 27 (0, 0)) := by rw [hw2]; exact blk_new1 w _ _
  have B2 : Below w.heap.size w w2 := by rw [hw2]; exact below_alloc (below_alloc (Below.refl _ _) _) _
  have HK1 := Lib.hid K1
  have HK2 := Lib.hid K2
  clear hw2 K1 K2
  refine (within_call n true _ HW.out).mono ?_
  rintro e w3 ⟨rfl, hb⟩
  have HK3 := Lib.hid (blk_below HK1.out hb)
  have HK4 := Lib.hid (blk_below HK2.out hb)
  have HB := Lib.hid (below_step B2 hb)
  have cw : w3.cell? ⟨w.heap.size, n / 64, none⟩ = some (.int .u64 W) := (blk_cell HK3.out (n / 64)).trans hat
  have fw : w3.frozen? ⟨w.heap.size, n / 64, none⟩ = false := blk_frozen HK3.out (n / 64)
  have i0 : (0 : Int) ≤ (n : Int) / 64 := by omega
  have i1 : (n : Int) / 64 < 64 := by omega
  clear HK1 HK2 hb B2 hat
  go_wp2_with fail
  go_region
  have e1 : IntKind.u64.wrap (2 ^ (n % 64)) = 2 ^ (n % 64) := pow_wrap n
  rw [e1, HV.out]
  obtain ⟨w4, hw4⟩ : ∃ W_, W_ = (w3.setCell ⟨w.heap.size, n / 64, none⟩ (.int .u64 (word (outF m n) (n / 64)))).drew := ⟨_, rfl⟩
  rw [← hw4]
  have HK5 : Hid (w4.heap[w.heap.size]? = some (.cells cs2 27 (0, 0))) := Lib.hid (by rw [hw4, ← hput.out]; exact blk_put HK3.out _ _ rfl)
  have HK6 : Hid (w4.heap[w.heap.size + 1]? = some (.cells noughts 27 (0, 0))) := Lib.hid (by rw [hw4]; exact (Below.heap_setCell _ _ _ _ (Nat.succ_ne_self _)).trans HK4.out)
  have HB4 : Hid (Below w.heap.size w w4) := Lib.hid (by rw [hw4]; exact below_drew (HB.out.setCell (Nat.le_refl _) _))
  clear hw4 cw fw e1
  go_wp2_with (((with_reducible refine gate_dst (N := 18) rfl ?_); refine Stp.out ?_))
  unfold Stp
  refine wpList_load_row rfl 27 (.tmp 2) rfl w.heap.size rfl 27 cs2 (0, 0) _ HK5.out Tryd.underlying27 rfl hi ?_
  refine wpList_store_row rfl 27 (.tmp 4) (.tmp 18) rfl (w.heap.size + 1) cs2 rfl rfl 27 noughts HK6.out hi (by rw [hsz2]; rfl) hone2 ?_
  go_wp2_with fail
  refine bodyPost_ret (results_cell_row rfl _ _ (w.heap.size + 1) 27 cs2 (0, 0) _ rfl (blk_row HK6.out) Tryd.underlying27 rfl hi) rfl ?_
  exact ⟨rfl, below_row HB4.out (by omega)⟩
end Go.Proofs.YtjcppnleoahaiaaDoor.P
namespace Go.Proofs.YtjcppnleoahaiaaDoor.P
open Go.RowKit Go.Proofs.YtjcppnleoahaiaaDoorW.PrintWords Go.Proofs.YtjcppnleoahaiaaDoorW.PrintLast Go.Proofs.YtjcppnleoahaiaaDoorW.PrintMore
set_option linter.unusedVariables false
set_option linter.unusedSimpArgs false
theorem blk_new2 (X : World) (o o' o2 : Obj) : (((X.alloc o).alloc o').alloc o2).heap[X.heap.size + 1 + 1]? = some o2 := by
  have h := heap_alloc_new ((X.alloc o).alloc o') o2
  have e : ((X.alloc o).alloc o').heap.size = X.heap.size + 1 + 1 := by simp
  rwa [e] at h
theorem put_at (m m' : Nat → Bool) (k : Nat) (hne : ∀ i, i < 64 → i ≠ k → word m' i = word m i) : (cells m).setIfInBounds k (.int .u64 (word m' k)) = cells m' := by
  apply Array.ext
  · simp [cells]
  · intro i h1 h2
    have hi : i < 64 := by rw [cells_size] at h2; exact h2
    by_cases e : k = i
    · subst e
      simp [cells]
    · simp [cells, Array.getElem_setIfInBounds, e]
      exact_mod_cast (hne i hi (Ne.symm e)).symm
def orF (m m' : Nat → Bool) (n : Nat) : Bool := m n || m' n
def andF (m m' : Nat → Bool) (n : Nat) : Bool := m n && m' n
def minF (m m' : Nat → Bool) (n : Nat) : Bool := m n && !m' n
/-- The first k words done. -/
def part (m r : Nat → Bool) (k : Nat) (n : Nat) : Bool := if n < 64 * k then r n else m n
theorem part_word_lo (m r : Nat → Bool) (k i : Nat) (h : i < k) : word (part m r k) i = word r i := by
  apply word_ext
  intro j hj
  have : 64 * i + j < 64 * k := by omega
  simp [part, this]
theorem part_word_hi (m r : Nat → Bool) (k i : Nat) (h : k ≤ i) : word (part m r k) i = word m i := by
  apply word_ext
  intro j hj
  have : ¬ 64 * i + j < 64 * k := by omega
  simp [part, this]
theorem part_next (m r : Nat → Bool) (k : Nat) : (cells (part m r k)).setIfInBounds k (.int .u64 (word r k)) = cells (part m r (k + 1)) := by
  rw [← part_word_lo m r (k + 1) k (by omega)]
  refine put_at _ _ k (fun i _ hi => ?_)
  by_cases h : i < k
  · rw [part_word_lo _ _ _ _ h, part_word_lo _ _ _ _ (by omega)]
  · rw [part_word_hi _ _ _ _ (by omega), part_word_hi _ _ _ _ (by omega)]
theorem part_all (m r : Nat → Bool) : cells (part m r 64) = cells r := cells_ext (fun n hn => by simp [part, show n < 64 * 64 by omega])
theorem part_none (m r : Nat → Bool) : cells (part m r 0) = cells m := cells_ext (fun n hn => by simp [part])
/-- What stands at a round's head. -/
def OpRel (w : World) (m r : Nat → Bool) (i : Value) (wr : World) : Prop := ∃ k : Nat, k ≤ 64 ∧ i = .int .i64 k ∧ wr.heap[w.heap.size]? = some (.cells (cells (part m r k)) 27 (0, 0)) ∧ wr.heap[w.heap.size + 1 + 1]? = some (.cells noughts 27 (0, 0)) ∧ Below w.heap.size w wr
theorem index_row {cs : Array Value} {k : Nat} {u : Value} (w : World) (h : cs[k]? = some u) (hs : cs.size = 64) (hk : k < 64) : (Instr.index 25 (.agg cs) (.int .i64 k)).run Tryd.prog w = .ok u w := by
  have e : ¬ (k : Int) < 0 := by omega
  simp [go_sem, Instr.index, h, hs, e]
  intro
  omega
theorem or_at (m m' : Nat → Bool) (k : Nat) : bits .or .u64 (word m k : Int) (word m' k : Int) = (word (orF m m') k : Int) := or_word m m' k
set_option maxRecDepth 100000 in
set_option maxHeartbeats 4000000 in
theorem or_any (m m' : Nat → Bool) (w : World) :
    Calls Tryd.prog 24 #[.agg (cells m), .agg (cells m')] w fun e w' => e = .returned (.agg (cells (orF m m'))) ∧ Below w.heap.size w w' := by
  have hsz := cells_size m
  have hsz' := cells_size m'
  obtain ⟨cs, hcs⟩ : ∃ cs, cs = cells m := ⟨_, rfl⟩
  obtain ⟨cs', hcs'⟩ : ∃ cs, cs = cells m' := ⟨_, rfl⟩
  rw [← hcs] at hsz ⊢
  rw [← hcs'] at hsz' ⊢
  have HCS := Lib.hid hcs
  have HCS' := Lib.hid hcs'
  have hi' : (Tryd.prog.info? 25).map (·.size) = some cs'.size := by rw [hsz']; kernel_rfl
  clear hcs hcs'
  go_enter Tryd.func24, Tryd.ntmps24
  go_wp2_with (((with_reducible refine gate_dst (N := 8) rfl ?_); refine Stp.out ?_))
  unfold Stp
  obtain ⟨w2, hw2⟩ : ∃ W_, W_ = ((w.alloc (.cells cs 27)).alloc (.cells cs' 27)).alloc (.cells noughts 27) := ⟨_, rfl⟩
  unfold noughts at hw2
  rw [← hw2]
  have HK1 : Hid (w2.heap[w.heap.size]? = some (.cells cs 27 (0, 0))) := Lib.hid (by rw [hw2]; exact blk_alloc (blk_alloc (heap_alloc_new w _) _) _)
  have HK2 : Hid (w2.heap[w.heap.size + 1]? = some (.cells cs' 27 (0, 0))) := Lib.hid (by rw [hw2]; exact blk_alloc (blk_new1 w _ _) _)
  have HK3 : Hid (w2.heap[w.heap.size + 1 + 1]? = some (.cells noughts 27 (0, 0))) := Lib.hid (by rw [hw2]; exact blk_new2 w _ _ _)
  have HB : Hid (Below w.heap.size w w2) := Lib.hid (by rw [hw2]; exact below_alloc (below_alloc (below_alloc (Below.refl _ _) _) _) _)
  clear hw2
  refine wpList_load_row rfl 25 (.tmp 7) rfl (w.heap.size + 1) rfl 27 cs' (0, 0) _ HK2.out Tryd.underlying25 rfl hi' ?_
  go_wp2_with fail
  go_loopw [9] (fun i wr => OpRel w m (orF m m') i wr) (fun i _ => 64 - (intOf i).toNat)
  case atStart => exact ⟨0, Nat.zero_le _, rfl, by rw [part_none, ← HCS.out]; exact HK1.out, HK3.out, HB.out⟩
  case round =>
    obtain ⟨k, hk, rfl, h1, h2, hb⟩ := hrel
    by_cases hlt : k < 64
    · have hat' := cells_at m' hlt
      have hat : wr.cell? ⟨w.heap.size, k, none⟩ = some (.int .u64 (word m k)) := (blk_cell h1 k).trans (by rw [cells_at _ hlt, part_word_hi _ _ _ _ (Nat.le_refl _)])
      have hfr : wr.frozen? ⟨w.heap.size, k, none⟩ = false := blk_frozen h1 k
      rw [← HCS'.out] at hat'
      have HE := Lib.hid (or_at m m' k)
      obtain ⟨W, hW⟩ : ∃ W, W = word m k := ⟨_, rfl⟩
      obtain ⟨W', hW'⟩ : ∃ W, W = word m' k := ⟨_, rfl⟩
      have l1 := word_lt m k
      have l2 := word_lt m' k
      rw [← hW] at hat HE l1
      rw [← hW'] at hat' HE l2
      have H1 := Lib.hid h1
      have H2 := Lib.hid h2
      have HB2 := Lib.hid hb
      have i0 : (0 : Int) ≤ (k : Int) := by omega
      have i1 : (k : Int) < 64 := by omega
      have hidx : ∀ W_ : World, (Instr.index 25 (.agg cs') (.int .i64 k)).run Tryd.prog W_ = .ok (.int .u64 W') W_ := fun W_ => index_row W_ hat' hsz' hlt
      clear hW hW' h1 h2 hb
      go_wp2_with fail
      refine ⟨⟨k + 1, by omega, by norm_cast, ?_, ?_, ?_⟩, ?_⟩
      · rw [HE.out, ← part_next]
        exact blk_put H1.out _ _ rfl
      · exact (Below.heap_setCell _ _ _ _ (by show w.heap.size + 1 + 1 ≠ w.heap.size; omega)).trans H2.out
      · exact HB2.out.setCell (Nat.le_refl _) _
      · simp [intOf]
        omega
    · obtain rfl : k = 64 := by omega
      rw [part_all] at h1
      have hsz2 := cells_size (orF m m')
      have hone2 := cells_one (orF m m')
      obtain ⟨cs2, hcs2⟩ : ∃ cs, cs = cells (orF m m') := ⟨_, rfl⟩
      rw [← hcs2] at h1 hsz2 hone2
      have HC2 := Lib.hid hcs2
      have hi : (Tryd.prog.info? 27).map (·.size) = some cs2.size := by rw [hsz2]; kernel_rfl
      have HB2 := Lib.hid hb
      have H1 := Lib.hid h1
      have H2 := Lib.hid h2
      clear hcs2 h1 h2 hb
      go_wp2_with (((with_reducible refine gate_dst (N := 22) rfl ?_); refine Stp.out ?_))
      unfold Stp
      refine wpList_load_row rfl 27 (.tmp 2) rfl w.heap.size rfl 27 cs2 (0, 0) _ H1.out Tryd.underlying27 rfl hi ?_
      refine wpList_store_row rfl 27 (.tmp 4) (.tmp 22) rfl (w.heap.size + 1 + 1) cs2 rfl rfl 27 noughts H2.out hi (by rw [hsz2]; rfl) hone2 ?_
      go_wp2_with fail
      refine bodyPost_ret (results_cell_row rfl _ _ (w.heap.size + 1 + 1) 27 cs2 (0, 0) _ rfl (blk_row H2.out) Tryd.underlying27 rfl hi) rfl ?_
      exact ⟨by rw [HC2.out], below_row HB2.out (by omega)⟩
theorem and_at (m m' : Nat → Bool) (k : Nat) : bits .and .u64 (word m k : Int) (word m' k : Int) = (word (andF m m') k : Int) := and_word m m' k
set_option maxRecDepth 100000 in
set_option maxHeartbeats 4000000 in
theorem and_any (m m' : Nat → Bool) (w : World) :
    Calls Tryd.prog 26 #[.agg (cells m), .agg (cells m')] w fun e w' => e = .returned (.agg (cells (andF m m'))) ∧ Below w.heap.size w w' := by
  have hsz := cells_size m
  have hsz' := cells_size m'
  obtain ⟨cs, hcs⟩ : ∃ cs, cs = cells m := ⟨_, rfl⟩
  obtain ⟨cs', hcs'⟩ : ∃ cs, cs = cells m' := ⟨_, rfl⟩
  rw [← hcs] at hsz ⊢
  rw [← hcs'] at hsz' ⊢
  have HCS := Lib.hid hcs
  have HCS' := Lib.hid hcs'
  have hi' : (Tryd.prog.info? 25).map (·.size) = some cs'.size := by rw [hsz']; kernel_rfl
  clear hcs hcs'
  go_enter Tryd.func26, Tryd.ntmps26
  go_wp2_with (((with_reducible refine gate_dst (N := 8) rfl ?_); refine Stp.out ?_))
  unfold Stp
  obtain ⟨w2, hw2⟩ : ∃ W_, W_ = ((w.alloc (.cells cs 27)).alloc (.cells cs' 27)).alloc (.cells noughts 27) := ⟨_, rfl⟩
  unfold noughts at hw2
  rw [← hw2]
  have HK1 : Hid (w2.heap[w.heap.size]? = some (.cells cs 27 (0, 0))) := Lib.hid (by rw [hw2]; exact blk_alloc (blk_alloc (heap_alloc_new w _) _) _)
  have HK2 : Hid (w2.heap[w.heap.size + 1]? = some (.cells cs' 27 (0, 0))) := Lib.hid (by rw [hw2]; exact blk_alloc (blk_new1 w _ _) _)
  have HK3 : Hid (w2.heap[w.heap.size + 1 + 1]? = some (.cells noughts 27 (0, 0))) := Lib.hid (by rw [hw2]; exact blk_new2 w _ _ _)
  have HB : Hid (Below w.heap.size w w2) := Lib.hid (by rw [hw2]; exact below_alloc (below_alloc (below_alloc (Below.refl _ _) _) _) _)
  clear hw2
  refine wpList_load_row rfl 25 (.tmp 7) rfl (w.heap.size + 1) rfl 27 cs' (0, 0) _ HK2.out Tryd.underlying25 rfl hi' ?_
  go_wp2_with fail
  go_loopw [9] (fun i wr => OpRel w m (andF m m') i wr) (fun i _ => 64 - (intOf i).toNat)
  case atStart => exact ⟨0, Nat.zero_le _, rfl, by rw [part_none, ← HCS.out]; exact HK1.out, HK3.out, HB.out⟩
  case round =>
    obtain ⟨k, hk, rfl, h1, h2, hb⟩ := hrel
    by_cases hlt : k < 64
    · have hat' := cells_at m' hlt
      have hat : wr.cell? ⟨w.heap.size, k, none⟩ = some (.int .u64 (word m k)) := (blk_cell h1 k).trans (by rw [cells_at _ hlt, part_word_hi _ _ _ _ (Nat.le_refl _)])
      have hfr : wr.frozen? ⟨w.heap.size, k, none⟩ = false := blk_frozen h1 k
      rw [← HCS'.out] at hat'
      have HE := Lib.hid (and_at m m' k)
      obtain ⟨W, hW⟩ : ∃ W, W = word m k := ⟨_, rfl⟩
      obtain ⟨W', hW'⟩ : ∃ W, W = word m' k := ⟨_, rfl⟩
      have l1 := word_lt m k
      have l2 := word_lt m' k
      rw [← hW] at hat HE l1
      rw [← hW'] at hat' HE l2
      have H1 := Lib.hid h1
      have H2 := Lib.hid h2
      have HB2 := Lib.hid hb
      have i0 : (0 : Int) ≤ (k : Int) := by omega
      have i1 : (k : Int) < 64 := by omega
      have hidx : ∀ W_ : World, (Instr.index 25 (.agg cs') (.int .i64 k)).run Tryd.prog W_ = .ok (.int .u64 W') W_ := fun W_ => index_row W_ hat' hsz' hlt
      clear hW hW' h1 h2 hb
      go_wp2_with fail
      refine ⟨⟨k + 1, by omega, by norm_cast, ?_, ?_, ?_⟩, ?_⟩
      · rw [HE.out, ← part_next]
        exact blk_put H1.out _ _ rfl
      · exact (Below.heap_setCell _ _ _ _ (by show w.heap.size + 1 + 1 ≠ w.heap.size; omega)).trans H2.out
      · exact HB2.out.setCell (Nat.le_refl _) _
      · simp [intOf]
        omega
    · obtain rfl : k = 64 := by omega
      rw [part_all] at h1
      have hsz2 := cells_size (andF m m')
      have hone2 := cells_one (andF m m')
      obtain ⟨cs2, hcs2⟩ : ∃ cs, cs = cells (andF m m') := ⟨_, rfl⟩
      rw [← hcs2] at h1 hsz2 hone2
      have HC2 := Lib.hid hcs2
      have hi : (Tryd.prog.info? 27).map (·.size) = some cs2.size := by rw [hsz2]; kernel_rfl
      have HB2 := Lib.hid hb
      have H1 := Lib.hid h1
      have H2 := Lib.hid h2
      clear hcs2 h1 h2 hb
      go_wp2_with (((with_reducible refine gate_dst (N := 22) rfl ?_); refine Stp.out ?_))
      unfold Stp
      refine wpList_load_row rfl 27 (.tmp 2) rfl w.heap.size rfl 27 cs2 (0, 0) _ H1.out Tryd.underlying27 rfl hi ?_
      refine wpList_store_row rfl 27 (.tmp 4) (.tmp 22) rfl (w.heap.size + 1 + 1) cs2 rfl rfl 27 noughts H2.out hi (by rw [hsz2]; rfl) hone2 ?_
      go_wp2_with fail
      refine bodyPost_ret (results_cell_row rfl _ _ (w.heap.size + 1 + 1) 27 cs2 (0, 0) _ rfl (blk_row H2.out) Tryd.underlying27 rfl hi) rfl ?_
      exact ⟨by rw [HC2.out], below_row HB2.out (by omega)⟩
theorem minus_at (m m' : Nat → Bool) (k : Nat) : bits .andNot .u64 (word m k : Int) (word m' k : Int) = (word (minF m m') k : Int) := andNot_word m m' k
set_option maxRecDepth 100000 in
set_option maxHeartbeats 4000000 in
theorem minus_any (m m' : Nat → Bool) (w : World) :
    Calls Tryd.prog 27 #[.agg (cells m), .agg (cells m')] w fun e w' => e = .returned (.agg (cells (minF m m'))) ∧ Below w.heap.size w w' := by
  have hsz := cells_size m
  have hsz' := cells_size m'
  obtain ⟨cs, hcs⟩ : ∃ cs, cs = cells m := ⟨_, rfl⟩
  obtain ⟨cs', hcs'⟩ : ∃ cs, cs = cells m' := ⟨_, rfl⟩
  rw [← hcs] at hsz ⊢
  rw [← hcs'] at hsz' ⊢
  have HCS := Lib.hid hcs
  have HCS' := Lib.hid hcs'
  have hi' : (Tryd.prog.info? 25).map (·.size) = some cs'.size := by rw [hsz']; kernel_rfl
  clear hcs hcs'
  go_enter Tryd.func27, Tryd.ntmps27
  go_wp2_with (((with_reducible refine gate_dst (N := 8) rfl ?_); refine Stp.out ?_))
  unfold Stp
  obtain ⟨w2, hw2⟩ : ∃ W_, W_ = ((w.alloc (.cells cs 27)).alloc (.cells cs' 27)).alloc (.cells noughts 27) := ⟨_, rfl⟩
  unfold noughts at hw2
  rw [← hw2]
  have HK1 : Hid (w2.heap[w.heap.size]? = some (.cells cs 27 (0, 0))) := Lib.hid (by rw [hw2]; exact blk_alloc (blk_alloc (heap_alloc_new w _) _) _)
  have HK2 : Hid (w2.heap[w.heap.size + 1]? = some (.cells cs' 27 (0, 0))) := Lib.hid (by rw [hw2]; exact blk_alloc (blk_new1 w _ _) _)
  have HK3 : Hid (w2.heap[w.heap.size + 1 + 1]? = some (.cells noughts 27 (0, 0))) := Lib.hid (by rw [hw2]; exact blk_new2 w _ _ _)
  have HB : Hid (Below w.heap.size w w2) := Lib.hid (by rw [hw2]; exact below_alloc (below_alloc (below_alloc (Below.refl _ _) _) _) _)
  clear hw2
  refine wpList_load_row rfl 25 (.tmp 7) rfl (w.heap.size + 1) rfl 27 cs' (0, 0) _ HK2.out Tryd.underlying25 rfl hi' ?_
  go_wp2_with fail
  go_loopw [9] (fun i wr => OpRel w m (minF m m') i wr) (fun i _ => 64 - (intOf i).toNat)
  case atStart => exact ⟨0, Nat.zero_le _, rfl, by rw [part_none, ← HCS.out]; exact HK1.out, HK3.out, HB.out⟩
  case round =>
    obtain ⟨k, hk, rfl, h1, h2, hb⟩ := hrel
    by_cases hlt : k < 64
    · have hat' := cells_at m' hlt
      have hat : wr.cell? ⟨w.heap.size, k, none⟩ = some (.int .u64 (word m k)) := (blk_cell h1 k).trans (by rw [cells_at _ hlt, part_word_hi _ _ _ _ (Nat.le_refl _)])
      have hfr : wr.frozen? ⟨w.heap.size, k, none⟩ = false := blk_frozen h1 k
      rw [← HCS'.out] at hat'
      have HE := Lib.hid (minus_at m m' k)
      obtain ⟨W, hW⟩ : ∃ W, W = word m k := ⟨_, rfl⟩
      obtain ⟨W', hW'⟩ : ∃ W, W = word m' k := ⟨_, rfl⟩
      have l1 := word_lt m k
      have l2 := word_lt m' k
      rw [← hW] at hat HE l1
      rw [← hW'] at hat' HE l2
      have H1 := Lib.hid h1
      have H2 := Lib.hid h2
      have HB2 := Lib.hid hb
      have i0 : (0 : Int) ≤ (k : Int) := by omega
      have i1 : (k : Int) < 64 := by omega
      have hidx : ∀ W_ : World, (Instr.index 25 (.agg cs') (.int .i64 k)).run Tryd.prog W_ = .ok (.int .u64 W') W_ := fun W_ => index_row W_ hat' hsz' hlt
      clear hW hW' h1 h2 hb
      go_wp2_with fail
      refine ⟨⟨k + 1, by omega, by norm_cast, ?_, ?_, ?_⟩, ?_⟩
      · rw [HE.out, ← part_next]
        exact blk_put H1.out _ _ rfl
      · exact (Below.heap_setCell _ _ _ _ (by show w.heap.size + 1 + 1 ≠ w.heap.size; omega)).trans H2.out
      · exact HB2.out.setCell (Nat.le_refl _) _
      · simp [intOf]
        omega
    · obtain rfl : k = 64 := by omega
      rw [part_all] at h1
      have hsz2 := cells_size (minF m m')
      have hone2 := cells_one (minF m m')
      obtain ⟨cs2, hcs2⟩ : ∃ cs, cs = cells (minF m m') := ⟨_, rfl⟩
      rw [← hcs2] at h1 hsz2 hone2
      have HC2 := Lib.hid hcs2
      have hi : (Tryd.prog.info? 27).map (·.size) = some cs2.size := by rw [hsz2]; kernel_rfl
      have HB2 := Lib.hid hb
      have H1 := Lib.hid h1
      have H2 := Lib.hid h2
      clear hcs2 h1 h2 hb
      go_wp2_with (((with_reducible refine gate_dst (N := 22) rfl ?_); refine Stp.out ?_))
      unfold Stp
      refine wpList_load_row rfl 27 (.tmp 2) rfl w.heap.size rfl 27 cs2 (0, 0) _ H1.out Tryd.underlying27 rfl hi ?_
      refine wpList_store_row rfl 27 (.tmp 4) (.tmp 22) rfl (w.heap.size + 1 + 1) cs2 rfl rfl 27 noughts H2.out hi (by rw [hsz2]; rfl) hone2 ?_
      go_wp2_with fail
      refine bodyPost_ret (results_cell_row rfl _ _ (w.heap.size + 1 + 1) 27 cs2 (0, 0) _ rfl (blk_row H2.out) Tryd.underlying27 rfl hi) rfl ?_
      exact ⟨by rw [HC2.out], below_row HB2.out (by omega)⟩
end Go.Proofs.YtjcppnleoahaiaaDoor.P
namespace Go.Proofs.YtjcppnleoahaiaaDoor.P
open Go.RowKit Go.Proofs.YtjcppnleoahaiaaDoorW.PrintWords Go.Proofs.YtjcppnleoahaiaaDoorW.PrintLast Go.Proofs.YtjcppnleoahaiaaDoorW.PrintMore
set_option linter.unusedVariables false
set_option linter.unusedSimpArgs false
def withI (m : Nat → Bool) (n : Int) (k : Nat) : Bool := m k || decide ((k : Int) = n)
def outI (m : Nat → Bool) (n : Int) (k : Nat) : Bool := m k && !decide ((k : Int) = n)
def hasI (m : Nat → Bool) (n : Int) : Bool := decide (0 ≤ n ∧ n < 4096) && m n.toNat
theorem with_any (m : Nat → Bool) (n : Int) (w : World) : Calls Tryd.prog 13 #[.agg (cells m), .int .i64 n] w fun e w' => e = .returned (.agg (cells (withI m n))) ∧ Below w.heap.size w w' := by
  by_cases h : 0 ≤ n ∧ n < 4096
  · obtain ⟨k, rfl⟩ : ∃ k : Nat, n = k := ⟨n.toNat, by omega⟩
    have e : cells (withI m k) = cells (withF m k) := cells_ext (fun j _ => by
      have e : ((j : Int) = k) ↔ j = k := by omega
      simp [withI, withF, e])
    rw [e]
    exact with_yes m k w (by omega)
  · have e : cells (withI m n) = cells m := cells_ext (fun j hj => by
      have : ¬ (j : Int) = n := by omega
      simp [withI, this])
    rw [e]
    exact with_no m n w h
theorem out_any (m : Nat → Bool) (n : Int) (w : World) : Calls Tryd.prog 15 #[.agg (cells m), .int .i64 n] w fun e w' => e = .returned (.agg (cells (outI m n))) ∧ Below w.heap.size w w' := by
  by_cases h : 0 ≤ n ∧ n < 4096
  · obtain ⟨k, rfl⟩ : ∃ k : Nat, n = k := ⟨n.toNat, by omega⟩
    have e : cells (outI m k) = cells (outF m k) := cells_ext (fun j _ => by
      have e : ((j : Int) = k) ↔ j = k := by omega
      simp [outI, outF, e])
    rw [e]
    exact out_yes m k w (by omega)
  · have e : cells (outI m n) = cells m := cells_ext (fun j hj => by
      have : ¬ (j : Int) = n := by omega
      simp [outI, this])
    rw [e]
    exact out_no m n w h
theorem has_any (m : Nat → Bool) (n : Int) (w : World) : Calls Tryd.prog 17 #[.agg (cells m), .int .i64 n] w fun e w' => e = .returned (.bool (hasI m n)) ∧ Below w.heap.size w w' := by
  by_cases h : 0 ≤ n ∧ n < 4096
  · obtain ⟨k, rfl⟩ : ∃ k : Nat, n = k := ⟨n.toNat, by omega⟩
    have e : hasI m k = m k := by simp [hasI]; omega
    rw [e]
    exact has_yes m k w (by omega)
  · have e : hasI m n = false := by simp [hasI, h]
    rw [e]
    exact has_no m n w h
/-- A list's numbers. -/
def ofF (l : List Int) (k : Nat) : Bool := decide ((k : Int) ∈ l)
theorem of_next (l : List Int) (k : Nat) (h : k < l.length) : cells (withI (ofF (l.take k)) l[k]) = cells (ofF (l.take (k + 1))) := cells_ext (fun j _ => by
  rw [List.take_succ_eq_append_getElem h]
  simp only [withI, ofF, List.mem_append, List.mem_singleton, Bool.decide_or])
theorem word_none (i : Nat) : word (fun _ => false) i = 0 := by
  apply Nat.eq_of_testBit_eq
  intro j
  rw [word_bit]
  simp
theorem noughts_eq : cells (fun _ => false) = noughts := by
  unfold cells
  simp only [word_none]
  rfl
theorem of_none : cells (ofF ([] : List Int)) = noughts := by
  have e : cells (ofF ([] : List Int)) = cells (fun _ => false) := cells_ext (fun j _ => by simp [ofF])
  exact e.trans noughts_eq
theorem ints_at {w : World} {A : Option Addr} {l : List Int} (h : Kd.C (Kd.int .i64) w A l.length l) (k : Nat) (hk : k < l.length) : ∃ b off, A = some ⟨b, off, none⟩ ∧ b < w.heap.size ∧ w.cell? ⟨b, off + k, none⟩ = some (.int .i64 l[k]) := by
  obtain ⟨ad, c, rfl, hcl, hK, hc⟩ := Kd.C_get h 0 (k : Int) (by omega) (by omega)
  have e : c = [.int .i64 l[k]] := by
    have h2 : c = [.int .i64 (l.getD (k : Int).toNat 0)] := hK
    rw [h2]
    simp [hk]
  subst e
  have h0 := hc 0 _ rfl
  obtain ⟨ad', c', he, _, hK', hc'⟩ := Kd.C_get h 0 0 (by omega) (by omega)
  cases he
  have e' : c' = [.int .i64 (l.getD (0 : Int).toNat 0)] := hK'
  subst e'
  have h0' := hc' 0 _ rfl
  obtain ⟨_, _, _, _, hs⟩ := World.shape?_of_cell? h0'
  have hs' : ad.spot = none := by simpa [Addr.add] using hs
  obtain ⟨b, off, spot⟩ := ad
  simp only at hs'
  subst hs'
  have hlt := World.block_lt_of_cell? w _ h0
  have e1 : (Kd.int .i64).sz = 1 := rfl
  have ea : ∀ n, (⟨b, off, none⟩ : Addr).add n = ⟨b, off + n, none⟩ := fun n => by unfold Addr.add; simp
  simp only [ea, e1, Int.toNat_natCast, Nat.mul_one, Nat.add_zero] at h0 hlt
  exact ⟨b, off, rfl, hlt, h0⟩
/-- What stands at a round's head. -/
def OfRel (w : World) (l : List Int) (i : Value) (wr : World) : Prop := ∃ k : Nat, k ≤ l.length ∧ i = .int .i64 k ∧ wr.heap[w.heap.size]? = some (.cells noughts 27 (0, 0)) ∧ wr.heap[w.heap.size + 1]? = some (.cells (cells (ofF (l.take k))) 27 (0, 0)) ∧ Below w.heap.size w wr
set_option maxRecDepth 100000 in
set_option maxHeartbeats 4000000 in
theorem of_any (A : Option Addr) (c : Nat) (l : List Int) (w : World) (hr : Kd.C (Kd.int .i64) w A l.length l) :
    Calls Tryd.prog 10 #[.slice A l.length c] w fun e w' => e = .returned (.agg (cells (ofF l))) ∧ Below w.heap.size w w' := by
  have HRD := Lib.hid (fun k hk => ints_at hr k hk)
  have HLEN := hr.2.1
  obtain ⟨N, hN⟩ : ∃ N, N = l.length := ⟨_, rfl⟩
  rw [← hN] at HLEN ⊢
  have HN := Lib.hid hN
  clear hN hr
  go_enter Tryd.func10, Tryd.ntmps10
  go_wp2_with fail
  obtain ⟨w2, hw2⟩ : ∃ W_, W_ = (w.alloc (.cells noughts 27)).alloc (.cells noughts 27) := ⟨_, rfl⟩
  unfold noughts at hw2
  rw [← hw2]
  have HK1 : Hid (w2.heap[w.heap.size]? = some (.cells noughts 27 (0, 0))) := Lib.hid (by rw [hw2]; exact blk_alloc (heap_alloc_new w _) _)
  have HK2 : Hid (w2.heap[w.heap.size + 1]? = some (.cells noughts 27 (0, 0))) := Lib.hid (by rw [hw2]; exact blk_new1 w _ _)
  have HB : Hid (Below w.heap.size w w2) := Lib.hid (by rw [hw2]; exact below_alloc (below_alloc (Below.refl _ _) _) _)
  clear hw2
  go_loopw [8] (fun i wr => OfRel w l i wr) (fun i _ => N - (intOf i).toNat)
  case atStart => exact ⟨0, Nat.zero_le _, rfl, HK1.out, by rw [List.take_zero, of_none]; exact HK2.out, HB.out⟩
  case round =>
    obtain ⟨k, hk, rfl, h1, h2, hb⟩ := hrel
    rw [← HN.out] at hk
    by_cases hlt : k < N
    · obtain ⟨b, off, rfl, hblt, hcell⟩ := HRD.out k (by rw [← HN.out]; exact hlt)
      have hat : wr.cell? ⟨b, off + k, none⟩ = some (.int .i64 (l[k]'(by rw [← HN.out]; exact hlt))) := (hb.cell (p := ⟨b, off + k, none⟩) hblt).trans hcell
      obtain ⟨x, hx⟩ : ∃ x, x = l[k]'(by rw [← HN.out]; exact hlt) := ⟨_, rfl⟩
      rw [← hx] at hat
      have HX := Lib.hid hx
      have H1 := Lib.hid h1
      have H2 := Lib.hid h2
      have HB2 := Lib.hid hb
      clear hcell hx h1 h2 hb
      have hsz := cells_size (ofF (l.take k))
      have hcall := with_any (ofF (l.take k)) x
      obtain ⟨m', hm'⟩ : ∃ m', m' = withI (ofF (l.take k)) x := ⟨_, rfl⟩
      have hnx : Hid (cells m' = cells (ofF (l.take (k + 1)))) := Lib.hid (by rw [hm', HX.out]; exact of_next l k (by rw [← HN.out]; exact hlt))
      have hsz2 := cells_size m'
      have hone2 := cells_one m'
      rw [← hm'] at hcall
      obtain ⟨cs, hcs⟩ : ∃ cs, cs = cells (ofF (l.take k)) := ⟨_, rfl⟩
      obtain ⟨cs2, hcs2⟩ : ∃ cs, cs = cells m' := ⟨_, rfl⟩
      rw [← hcs] at hcall H2 hsz
      rw [← hcs2] at hcall hnx hsz2 hone2
      have hi : (Tryd.prog.info? 27).map (·.size) = some cs.size := by rw [hsz]; kernel_rfl
      have hi2 : (Tryd.prog.info? 27).map (·.size) = some cs2.size := by rw [hsz2]; kernel_rfl
      have i0 : (0 : Int) ≤ (k : Int) := by omega
      have i1 : (k : Int) < (N : Int) := by omega
      have HCALL := Lib.hid hcall
      clear hcs hcs2 hm' hcall
      go_wp2_with (((with_reducible refine gate_dst (N := 12) rfl ?_); refine Stp.out ?_))
      unfold Stp
      refine wpList_load_row rfl 27 (.tmp 3) rfl (w.heap.size + 1) rfl 27 cs (0, 0) _ H2.out Tryd.underlying27 rfl hi ?_
      go_wp2_with fail
      refine (HCALL.out wr).mono ?_
      rintro e w3 ⟨rfl, hb3⟩
      have H1b := Lib.hid (blk_below H1.out hb3)
      have H2b := Lib.hid (blk_below H2.out hb3)
      have HB3 := Lib.hid (below_step HB2.out hb3)
      clear hb3 HCALL
      go_wp2_with (refine wpList_store_row rfl 27 (.tmp 3) (.tmp 14) rfl (w.heap.size + 1) cs2 rfl rfl 27 cs H2b.out hi2 (by rw [hsz2, hsz]) hone2 ?_)
      go_roundw
      case rel => exact ⟨k + 1, by rw [← HN.out]; omega, by norm_cast, (row_other (by omega)).trans H1b.out, by rw [blk_row H2b.out, hnx.out], below_row HB3.out (by omega)⟩
      case measure => simp [intOf]; omega
    · obtain rfl : k = N := by omega
      have hall : Hid (cells (ofF (l.take k)) = cells (ofF l)) := Lib.hid (by rw [HN.out, List.take_length])
      rw [hall.out] at h2
      have hsz2 := cells_size (ofF l)
      have hone2 := cells_one (ofF l)
      obtain ⟨cs2, hcs2⟩ : ∃ cs, cs = cells (ofF l) := ⟨_, rfl⟩
      rw [← hcs2] at h2 hsz2 hone2
      have HC2 := Lib.hid hcs2
      have hi2 : (Tryd.prog.info? 27).map (·.size) = some cs2.size := by rw [hsz2]; kernel_rfl
      have H1 := Lib.hid h1
      have H2 := Lib.hid h2
      have HB2 := Lib.hid hb
      clear hcs2 h1 h2 hb hall
      go_wp2_with (((with_reducible refine gate_dst (N := 16) rfl ?_); refine Stp.out ?_))
      unfold Stp
      refine wpList_load_row rfl 27 (.tmp 3) rfl (w.heap.size + 1) rfl 27 cs2 (0, 0) _ H2.out Tryd.underlying27 rfl hi2 ?_
      refine wpList_store_row rfl 27 (.tmp 2) (.tmp 16) rfl w.heap.size cs2 rfl rfl 27 noughts H1.out hi2 (by rw [hsz2]; rfl) hone2 ?_
      go_wp2_with fail
      refine bodyPost_ret (results_cell_row rfl _ _ w.heap.size 27 cs2 (0, 0) _ rfl (blk_row H1.out) Tryd.underlying27 rfl hi2) rfl ?_
      exact ⟨by rw [HC2.out], below_row HB2.out (Nat.le_refl _)⟩
end Go.Proofs.YtjcppnleoahaiaaDoor.P
namespace Go.Proofs.YtjcppnleoahaiaaDoor.P
open Go.RowKit Go.Proofs.YtjcppnleoahaiaaDoorW.PrintWords Go.Proofs.YtjcppnleoahaiaaDoorW.PrintLast Go.Proofs.YtjcppnleoahaiaaDoorW.PrintMore
set_option linter.unusedVariables false
set_option linter.unusedSimpArgs false
theorem eq_items (m m' : Nat → Bool) (w : World) (d : Nat) : ∀ is : List Nat, (∀ i ∈ is, i < 64) → (Op.eqItems (d + 1) 24 1 (cells m) (cells m') is).run Tryd.prog w = .ok (is.all (fun i => word m i == word m' i)) w
  | [], _ => by simp [Op.eqItems]
  | i :: is, h => by
    have hi := h i (by simp)
    have e1 := cells_at m hi
    have e2 := cells_at m' hi
    have ih := eq_items m m' w d is (fun j hj => h j (by simp [hj]))
    have u24 := Tryd.underlying24
    have a24 := Tryd.isAgg24
    have z24 := Tryd.sizeOf24
    have hp : Tryd.prog.plainKey 24 = true := by kernel_rfl
    have p1 := Go.run_part_plain (P := Tryd.prog) w (e := 24) hp e1
    have p2 := Go.run_part_plain (P := Tryd.prog) w (e := 24) hp e2
    have p3 := run_equalIn_int (P := Tryd.prog) w d 24 .u64 .u64 (word m i) (word m' i) u24
    simp only [Op.eqItems, Nat.mul_one, Sem.run_bind, p1, p2, p3, Result.andThen_ok]
    by_cases hw : word m i = word m' i
    · simp [hw, ih]
    · have : ((word m i : Int) == (word m' i : Int)) = false := by simp; omega
      simp [this, hw]
def sameF (m m' : Nat → Bool) : Bool := (List.range 64).all (fun i => word m i == word m' i)
theorem part25 (m : Nat → Bool) (w : World) : (Go.part 25 (cells m) 0).run Tryd.prog w = .ok (.agg (cells m)) w := by
  have a25 := Tryd.isAgg25
  have z25 := Tryd.sizeOf25
  have hs := cells_size m
  unfold Go.part
  go_simp
theorem eq27 (m m' : Nat → Bool) (w : World) : (Op.equalIn 10000 27 (.agg (cells m)) (.agg (cells m'))).run Tryd.prog w = .ok (sameF m m') w := by
  refine eqA_of (d := 9999) (P := Tryd.prog) Tryd.underlying27 (by kernel_rfl) ?_
  refine eqf_last (P := Tryd.prog) (by kernel_rfl) (part25 m w) (part25 m' w) ?_
  rw [show (9999 : Nat) = 9998 + 1 from rfl]
  refine (Go.run_equalIn_array (P := Tryd.prog) w 9998 (e := 24) (n := 64) (cells m) (cells m') Tryd.underlying25 (i := _) rfl).trans ?_
  exact eq_items m m' w 9997 (List.range 64) (fun i h => List.mem_range.1 h)
set_option maxRecDepth 100000 in
set_option maxHeartbeats 4000000 in
theorem same_any (m m' : Nat → Bool) (w : World) :
    Calls Tryd.prog 28 #[.agg (cells m), .agg (cells m')] w fun e w' => e = .returned (.bool (sameF m m')) ∧ Below w.heap.size w w' := by
  have hsz := cells_size m
  have hsz' := cells_size m'
  obtain ⟨cs, hcs⟩ : ∃ cs, cs = cells m := ⟨_, rfl⟩
  obtain ⟨cs', hcs'⟩ : ∃ cs, cs = cells m' := ⟨_, rfl⟩
  rw [← hcs] at hsz ⊢
  rw [← hcs'] at hsz' ⊢
  have heq : ∀ W_ : World, (Op.equalIn 10000 27 (.agg cs) (.agg cs')).run Tryd.prog W_ = .ok (sameF m m') W_ := fun W_ => by rw [hcs, hcs']; exact eq27 m m' W_
  have hgu : Tryd.prog.eqGuardType Tryd.prog.depth 27 = false := by kernel_rfl
  have hi : (Tryd.prog.info? 27).map (·.size) = some cs.size := by rw [hsz]; kernel_rfl
  have hi' : (Tryd.prog.info? 27).map (·.size) = some cs'.size := by rw [hsz']; kernel_rfl
  clear hcs hcs'
  go_enter Tryd.func28, Tryd.ntmps28
  go_wp2_with (((with_reducible refine gate_dst (N := 5) rfl ?_); refine Stp.out ?_))
  unfold Stp
  have K1 : ((w.alloc (.cells cs 27)).alloc (.cells cs' 27)).heap[w.heap.size]? = some (.cells cs 27 (0, 0)) := blk_alloc (heap_alloc_new w _) _
  have K2 : ((w.alloc (.cells cs 27)).alloc (.cells cs' 27)).heap[w.heap.size + 1]? = some (.cells cs' 27 (0, 0)) := blk_new1 w _ _
  refine wpList_load_row rfl 27 (.tmp 2) rfl w.heap.size rfl 27 cs (0, 0) _ K1 Tryd.underlying27 rfl hi ?_
  refine wpList_load_row rfl 27 (.tmp 3) rfl (w.heap.size + 1) rfl 27 cs' (0, 0) _ K2 Tryd.underlying27 rfl hi' ?_
  go_wp2_with fail
  go_ret
  exact ⟨rfl, below_alloc (below_alloc (Below.refl _ _) _) _⟩
end Go.Proofs.YtjcppnleoahaiaaDoor.P
namespace Go.Proofs.YtjcppnleoahaiaaDoor.P
open Go.RowKit Go.Proofs.YtjcppnleoahaiaaDoorW.PrintWords Go.Proofs.YtjcppnleoahaiaaDoorW.PrintLast Go.Proofs.YtjcppnleoahaiaaDoorW.PrintMore
set_option linter.unusedVariables false
set_option linter.unusedSimpArgs false
theorem sumN_more (d : Nat → Nat) (a : Nat) : ∀ n, sumN d (a + n) = sumN d a + sumN (fun j => d (a + j)) n
  | 0 => by simp [sumN]
  | n + 1 => by rw [← Nat.add_assoc, sumN, sumN_more d a n, sumN]; omega
theorem cnt_next (m : Nat → Bool) (k : Nat) : cnt m (64 * k) + cnt (fun j => m (64 * k + j)) 64 = cnt m (64 * (k + 1)) := by
  unfold cnt
  rw [show 64 * (k + 1) = 64 * k + 64 by omega, sumN_more]
theorem pop_at (m : Nat → Bool) (i : Nat) (w : World) : Calls Tryd.prog 41 #[.int .u64 (word m i : Nat)] w fun e w' => e = .returned (.int .i64 (cnt (fun j => m (64 * i + j)) 64 : Nat)) ∧ Below w.heap.size w w' := pop_call _ w
/-- What stands at a round's head. -/
def CountRel (w : World) (m : Nat → Bool) (i n : Value) (wr : World) : Prop := ∃ k : Nat, k ≤ 64 ∧ i = .int .i64 k ∧ n = .int .i64 (cnt m (64 * k) : Nat) ∧ Below w.heap.size w wr
set_option maxRecDepth 100000 in
set_option maxHeartbeats 4000000 in
theorem count_any (m : Nat → Bool) (w : World) :
    Calls Tryd.prog 25 #[.agg (cells m)] w fun e w' => e = .returned (.int .i64 (cnt m 4096 : Nat)) ∧ Below w.heap.size w w' := by
  have hsz := cells_size m
  obtain ⟨cs, hcs⟩ : ∃ cs, cs = cells m := ⟨_, rfl⟩
  rw [← hcs] at hsz ⊢
  have HCS := Lib.hid hcs
  have hi : (Tryd.prog.info? 25).map (·.size) = some cs.size := by rw [hsz]; kernel_rfl
  clear hcs
  go_enter Tryd.func25, Tryd.ntmps25
  go_wp2_with (((with_reducible refine gate_dst (N := 7) rfl ?_); refine Stp.out ?_))
  unfold Stp
  obtain ⟨w2, hw2⟩ : ∃ W_, W_ = w.alloc (.cells cs 27) := ⟨_, rfl⟩
  rw [← hw2]
  have HK1 : Hid (w2.heap[w.heap.size]? = some (.cells cs 27 (0, 0))) := Lib.hid (by rw [hw2]; exact heap_alloc_new w _)
  have HB : Hid (Below w.heap.size w w2) := Lib.hid (by rw [hw2]; exact below_alloc (Below.refl _ _) _)
  clear hw2
  refine wpList_load_row rfl 25 (.tmp 6) rfl w.heap.size rfl 27 cs (0, 0) _ HK1.out Tryd.underlying25 rfl hi ?_
  go_wp2_with fail
  go_loopw [8, 3] (fun i n wr => CountRel w m i n wr) (fun i _ _ => 64 - (intOf i).toNat)
  case atStart => exact ⟨0, Nat.zero_le _, rfl, rfl, HB.out⟩
  case round =>
    obtain ⟨k, hk, rfl, rfl, hb⟩ := hrel
    by_cases hlt : k < 64
    · have hat := cells_at m hlt
      rw [← HCS.out] at hat
      have hcall := pop_at m k
      have hn := cnt_next m k
      have hn2 : cnt m (64 * (k + 1)) ≤ 4096 := Nat.le_trans (cnt_le m _) (by omega)
      obtain ⟨W, hW⟩ : ∃ W, W = word m k := ⟨_, rfl⟩
      obtain ⟨p, hp⟩ : ∃ p, p = cnt (fun j => m (64 * k + j)) 64 := ⟨_, rfl⟩
      obtain ⟨s, hs⟩ : ∃ s, s = cnt m (64 * k) := ⟨_, rfl⟩
      rw [← hW] at hat hcall
      rw [← hp] at hcall hn
      rw [← hs] at hn ⊢
      have HCALL := Lib.hid hcall
      have HN := Lib.hid hn
      have HB2 := Lib.hid hb
      have b1 : (p : Int) + s ≤ 4096 := by omega
      have i0 : (0 : Int) ≤ (k : Int) := by omega
      have i1 : (k : Int) < 64 := by omega
      have hidx : ∀ W_ : World, (Instr.index 25 (.agg cs) (.int .i64 k)).run Tryd.prog W_ = .ok (.int .u64 W) W_ := fun W_ => index_row W_ hat hsz hlt
      clear hW hp hs hcall hn hb hn2
      go_wp2_with fail
      refine (HCALL.out _).mono ?_
      rintro e w3 ⟨rfl, hb3⟩
      have HB3 := Lib.hid (below_step HB2.out hb3)
      clear hb3 HCALL
      go_wp2_with fail
      go_roundw
      case rel => exact ⟨k + 1, by omega, by norm_cast, by rw [← HN.out]; congr 1, HB3.out⟩
      case measure => simp [intOf]; omega
    · obtain rfl : k = 64 := by omega
      go_wp2_with fail
      go_ret
      exact ⟨rfl, hb⟩
end Go.Proofs.YtjcppnleoahaiaaDoor.P
