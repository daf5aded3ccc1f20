/- The next number of a set: plain. -/
import Derived.Test.YtjcppnleoahaiaaDoorBitsP
import Derived.Lib.TrailingZeros
namespace Go.Proofs.YtjcppnleoahaiaaDoor.P
open Go.RowKit
theorem shr_bit (m : Nat → Bool) (v t : Nat) : (word m (v / 64) / 2 ^ (v % 64)).testBit t = (decide (v % 64 + t < 64) && m (v + t)) := by
  rw [Nat.testBit_div_two_pow, word_bit]
  have e : 64 * (v / 64) + (t + v % 64) = v + t := by omega
  rw [e, Nat.add_comm t]
theorem ctz_bit (x : Nat) (h0 : x ≠ 0) (h : x < 18446744073709551616) : x.testBit (Lib.ctz 64 x) = true ∧ (∀ t, t < Lib.ctz 64 x → x.testBit t = false) ∧ Lib.ctz 64 x < 64 := by
  obtain ⟨q, hq, hc⟩ := Lib.ctzFrom_spec 64 x (by omega) h
  have e : Lib.ctz 64 x = Lib.ctzFrom 64 x := by simp [Lib.ctz, h0]
  rw [e]
  generalize Lib.ctzFrom 64 x = c at *
  refine ⟨?_, fun t ht => ?_, hc⟩
  · rw [hq, Nat.testBit_two_pow_mul]
    simp
  · rw [hq, Nat.testBit_two_pow_mul]
    simp; omega
/-- The least number of a set from v on. -/
def nextF (m : Nat → Bool) (v : Int) : Int :=
  match (List.range 4096).find? (fun (j : Nat) => decide (v ≤ (j : Int)) && m j) with
  | some j => (j : Int)
  | none => -1
theorem next_some (m : Nat → Bool) (v : Int) (j : Nat) (hj : j < 4096) (hm : m j = true) (hv : v ≤ j) (h : ∀ i : Nat, v ≤ i → i < j → m i = false) : nextF m v = j := by
  have e : (List.range 4096).find? (fun (j : Nat) => decide (v ≤ (j : Int)) && m j) = some j := by
    rw [List.find?_range_eq_some]
    refine ⟨by simp [hv, hm], by simpa using hj, fun i hi => ?_⟩
    by_cases hv2 : v ≤ (i : Int)
    · simp [h i hv2 hi]
    · simp [hv2]
  unfold nextF
  rw [e]
theorem next_none (m : Nat → Bool) (v : Int) (h : ∀ i : Nat, v ≤ i → i < 4096 → m i = false) : nextF m v = -1 := by
  have e : (List.range 4096).find? (fun (j : Nat) => decide (v ≤ (j : Int)) && m j) = none := by
    rw [List.find?_eq_none]
    intro i hi
    rw [List.mem_range] at hi
    by_cases hv2 : v ≤ (i : Int)
    · simp [h i hv2 hi]
    · simp [hv2]
  unfold nextF
  rw [e]
/-- A round of the loop: nothing from v0 to v. -/
theorem next_hit (m : Nat → Bool) (v0 : Int) (v x : Nat) (hx : x = word m (v / 64) / 2 ^ (v % 64)) (h0 : x ≠ 0) (hv : v < 4096) (hle : v0 ≤ v) (h : ∀ i : Nat, v0 ≤ i → i < v → m i = false) : nextF m v0 = (v : Int) + (Lib.ctz 64 x : Nat) := by
  have hl : x < 18446744073709551616 := by rw [hx]; exact Nat.lt_of_le_of_lt (Nat.div_le_self _ _) (word_lt _ _)
  obtain ⟨h1, h2, h3⟩ := ctz_bit x h0 hl
  generalize Lib.ctz 64 x = c at *
  rw [hx, shr_bit] at h1
  simp only [Bool.and_eq_true, decide_eq_true_eq] at h1
  rw [next_some m v0 (v + c) (by omega) h1.2 (by omega) (fun i hi hi2 => ?_)]
  · omega
  · by_cases hiv : i < v
    · exact h i hi hiv
    · have h4 := h2 (i - v) (by omega)
      rw [hx, shr_bit, show v + (i - v) = i by omega] at h4
      have h5 : v % 64 + (i - v) < 64 := by omega
      simpa [h5] using h4
theorem next_miss (m : Nat → Bool) (v0 : Int) (v : Nat) (hx : word m (v / 64) / 2 ^ (v % 64) = 0) (h : ∀ i : Nat, v0 ≤ i → i < v → m i = false) : ∀ i : Nat, v0 ≤ i → i < (v / 64 + 1) * 64 → m i = false := by
  intro i hi hi2
  by_cases hiv : i < v
  · exact h i hi hiv
  · have h4 := shr_bit m v (i - v)
    rw [hx, show v + (i - v) = i by omega] at h4
    have h5 : v % 64 + (i - v) < 64 := by omega
    simpa [h5] using h4.symm
end Go.Proofs.YtjcppnleoahaiaaDoor.P
