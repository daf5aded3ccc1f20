/- How many bits a word has: the sums of math/bits.OnesCount64. -/
import Derived.Test.YtjcppnleoahaiaaDoorBitsP
import Derived.Test.YtjcppnleoahaiaaDoorPf41
namespace Go.Proofs.YtjcppnleoahaiaaDoor.P
open Go.RowKit
/-- Digits to a base, the least first. -/
def num (B : Nat) (d : Nat → Nat) : Nat → Nat
  | 0 => 0
  | n + 1 => d 0 + B * num B (fun j => d (j + 1)) n
def sumN (d : Nat → Nat) : Nat → Nat
  | 0 => 0
  | n + 1 => sumN d n + d n
theorem sumN_low (d : Nat → Nat) : ∀ n, sumN d (n + 1) = d 0 + sumN (fun j => d (j + 1)) n
  | 0 => by simp [sumN]
  | n + 1 => by rw [sumN, sumN_low d n, sumN]; omega
theorem sumN_pairs (d : Nat → Nat) : ∀ n, sumN (fun j => d (2 * j) + d (2 * j + 1)) n = sumN d (2 * n)
  | 0 => rfl
  | n + 1 => by rw [sumN, sumN_pairs d n, show 2 * (n + 1) = 2 * n + 1 + 1 by omega, sumN, sumN]; omega
theorem num_top (B : Nat) : ∀ (n : Nat) (d : Nat → Nat), num B d (n + 1) = num B d n + d n * B ^ n
  | 0, d => by simp [num]
  | n + 1, d => by
    rw [num, num_top B n, num, Nat.mul_add, Nat.pow_succ, ← Nat.mul_assoc, Nat.mul_comm B (d (n + 1)), Nat.mul_assoc (d (n + 1)) B, Nat.mul_comm B (B ^ n), Nat.add_assoc]
theorem num_pairs (B : Nat) : ∀ (n : Nat) (d : Nat → Nat), num B d (2 * n) = num (B * B) (fun j => d (2 * j) + B * d (2 * j + 1)) n
  | 0, d => rfl
  | n + 1, d => by
    rw [show 2 * (n + 1) = 2 * n + 1 + 1 by omega, num, num, num, num_pairs B n (fun j => d (j + 1 + 1)), Nat.mul_add, Nat.mul_assoc, Nat.add_assoc]
    rfl
theorem num_add (B : Nat) : ∀ (n : Nat) (x y : Nat → Nat), num B x n + num B y n = num B (fun j => x j + y j) n
  | 0, x, y => rfl
  | n + 1, x, y => by rw [num, num, num, ← num_add B n, Nat.mul_add]; omega
theorem num_lt (B : Nat) (hB : 0 < B) : ∀ (n : Nat) (d : Nat → Nat), (∀ j, d j < B) → num B d n < B ^ n
  | 0, d, _ => by simp [num]
  | n + 1, d, h => by
    have h1 := num_lt B hB n (fun j => d (j + 1)) (fun j => h (j + 1))
    have h2 := h 0
    have h3 : B * (num B (fun j => d (j + 1)) n + 1) ≤ B * B ^ n := Nat.mul_le_mul_left _ h1
    rw [num, Nat.pow_succ, Nat.mul_comm (B ^ n)]
    rw [Nat.mul_add] at h3
    omega
theorem and_split (s a b c d : Nat) (ha : a < 2 ^ s) (hc : c < 2 ^ s) : (a + 2 ^ s * b) &&& (c + 2 ^ s * d) = (a &&& c) + 2 ^ s * (b &&& d) := by
  have e : ∀ x : Nat, x = x % 2 ^ s + 2 ^ s * (x / 2 ^ s) := fun x => (Nat.mod_add_div x _).symm
  rw [e ((a + 2 ^ s * b) &&& (c + 2 ^ s * d)), Nat.and_mod_two_pow, Nat.and_div_two_pow]
  have p : 0 < 2 ^ s := Nat.two_pow_pos s
  rw [Nat.add_mul_mod_self_left, Nat.add_mul_mod_self_left, Nat.mod_eq_of_lt ha, Nat.mod_eq_of_lt hc, Nat.add_mul_div_left _ _ p, Nat.add_mul_div_left _ _ p, Nat.div_eq_of_lt ha, Nat.div_eq_of_lt hc, Nat.zero_add, Nat.zero_add]
/-- The even digits alone. -/
theorem num_even (s : Nat) : ∀ (n : Nat) (x y : Nat → Nat), (∀ j, x j < 2 ^ s) → (∀ j, y j < 2 ^ s) →
    num (2 ^ (s + s)) (fun j => x j + 2 ^ s * y j) n &&& num (2 ^ (s + s)) (fun _ => 2 ^ s - 1) n = num (2 ^ (s + s)) x n
  | 0, x, y, _, _ => by simp [num]
  | n + 1, x, y, hx, hy => by
    have hp : 2 ^ (s + s) = 2 ^ s * 2 ^ s := Nat.pow_add 2 s s
    have p : 0 < 2 ^ s := Nat.two_pow_pos s
    have h1 := hx 0
    have h2 : 2 ^ s * (y 0 + 1) ≤ 2 ^ s * 2 ^ s := Nat.mul_le_mul_left _ (hy 0)
    have h3 : 2 ^ s * 1 ≤ 2 ^ s * 2 ^ s := Nat.mul_le_mul_left _ p
    rw [Nat.mul_add] at h2
    rw [num, num, num, and_split (s + s) _ _ _ _ (by omega) (by omega), num_even s n _ _ (fun j => hx (j + 1)) (fun j => hy (j + 1))]
    rw [Nat.and_two_pow_sub_one_eq_mod, Nat.add_mul_mod_self_left, Nat.mod_eq_of_lt h1]
/-- The odd digits alone. -/
theorem num_odd (s : Nat) : ∀ (n : Nat) (x y : Nat → Nat), (∀ j, x j < 2 ^ s) → (∀ j, y j < 2 ^ s) →
    (num (2 ^ (s + s)) (fun j => x j + 2 ^ s * y j) n) / 2 ^ s &&& num (2 ^ (s + s)) (fun _ => 2 ^ s - 1) n = num (2 ^ (s + s)) y n
  | 0, x, y, _, _ => by simp [num]
  | n + 1, x, y, hx, hy => by
    have hp : 2 ^ (s + s) = 2 ^ s * 2 ^ s := Nat.pow_add 2 s s
    have p : 0 < 2 ^ s := Nat.two_pow_pos s
    have ih := num_odd s n _ _ (fun j => hx (j + 1)) (fun j => hy (j + 1))
    rw [num, num, num]
    obtain ⟨W, hW⟩ : ∃ W, W = num (2 ^ (s + s)) (fun j => x (j + 1) + 2 ^ s * y (j + 1)) n := ⟨_, rfl⟩
    rw [← hW] at ih ⊢
    have e1 : (x 0 + 2 ^ s * y 0 + 2 ^ (s + s) * W) / 2 ^ s = y 0 + 2 ^ s * W := by
      rw [hp, Nat.mul_assoc, Nat.add_assoc, ← Nat.mul_add, Nat.add_mul_div_left _ _ p, Nat.div_eq_of_lt (hx 0), Nat.zero_add]
    have e2 : y 0 + 2 ^ s * W = (y 0 + 2 ^ s * (W % 2 ^ s)) + 2 ^ (s + s) * (W / 2 ^ s) := by
      have := Nat.mod_add_div W (2 ^ s)
      rw [hp, Nat.mul_assoc, Nat.add_assoc, ← Nat.mul_add, this]
    have h1 := hy 0
    have h2 : 2 ^ s * (W % 2 ^ s + 1) ≤ 2 ^ s * 2 ^ s := Nat.mul_le_mul_left _ (Nat.mod_lt W p)
    have h3 : 2 ^ s * 1 ≤ 2 ^ s * 2 ^ s := Nat.mul_le_mul_left _ p
    rw [Nat.mul_add] at h2
    rw [e1, e2, and_split (s + s) _ _ _ _ (by omega) (by omega), ih, Nat.and_two_pow_sub_one_eq_mod, Nat.add_mul_mod_self_left, Nat.mod_eq_of_lt h1]
/-- Both, where no sum runs over. -/
theorem num_both : ∀ (n : Nat) (x y : Nat → Nat), (∀ j, x j ≤ 7) → (∀ j, y j ≤ 7) →
    (num 256 (fun j => x j + 16 * y j) n / 16 + num 256 (fun j => x j + 16 * y j) n) &&& num 256 (fun _ => 15) n = num 256 (fun j => x j + y j) n
  | 0, x, y, _, _ => by simp [num]
  | n + 1, x, y, hx, hy => by
    have ih := num_both n _ _ (fun j => hx (j + 1)) (fun j => hy (j + 1))
    have hq : ∃ q r, num 256 (fun j => x (j + 1) + 16 * y (j + 1)) n = r + 16 * q ∧ r ≤ 7 := by
      cases n with
      | zero => exact ⟨0, 0, by simp [num], by omega⟩
      | succ k =>
        refine ⟨y 1 + 16 * num 256 (fun j => x (j + 1 + 1) + 16 * y (j + 1 + 1)) k, x 1, ?_, hx 1⟩
        rw [num]
        simp only [Nat.zero_add]
        omega
    rw [num, num, num]
    obtain ⟨W, hW⟩ : ∃ W, W = num 256 (fun j => x (j + 1) + 16 * y (j + 1)) n := ⟨_, rfl⟩
    rw [← hW] at ih hq ⊢
    obtain ⟨q, r, hqr, hr⟩ := hq
    have h1 := hx 0
    have h2 := hy 0
    have e : (x 0 + 16 * y 0 + 256 * W) / 16 + (x 0 + 16 * y 0 + 256 * W) = ((x 0 + y 0) + 16 * ((y 0 + r) % 16)) + 2 ^ 8 * (W / 16 + W) := by omega
    have e2 : 15 + 256 * num 256 (fun _ => 15) n = 15 + 2 ^ 8 * num 256 (fun _ => 15) n := rfl
    rw [e, e2, and_split 8 _ _ _ _ (by omega) (by omega), ih, show (15 : Nat) = 2 ^ 4 - 1 from rfl, Nat.and_two_pow_sub_one_eq_mod]
    have e3 : (x 0 + y 0 + 16 * ((y 0 + r) % 16)) % 2 ^ 4 = x 0 + y 0 := by omega
    rw [e3]
def cnt (f : Nat → Bool) (n : Nat) : Nat := sumN (fun j => (f j).toNat) n
theorem wsum_num (f : Nat → Bool) : ∀ n, wsum f n = num 2 (fun j => (f j).toNat) n
  | 0 => rfl
  | n + 1 => by
    rw [num_top, ← wsum_num f n, wsum]
    cases f n <;> simp
end Go.Proofs.YtjcppnleoahaiaaDoor.P
