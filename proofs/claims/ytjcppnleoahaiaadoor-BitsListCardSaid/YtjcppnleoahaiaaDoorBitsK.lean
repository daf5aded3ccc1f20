/- The list of a set: plain. -/
import Derived.Test.YtjcppnleoahaiaaDoorBitsI
namespace Go.Proofs.YtjcppnleoahaiaaDoor.P
open Go.RowKit
/-- The numbers of a set below v. -/
def listTo (m : Nat → Bool) (v : Nat) : List Int := ((List.range v).filter m).map (fun (n : Nat) => (n : Int))
def listF (m : Nat → Bool) : List Int := listTo m 4096
theorem next_cases (m : Nat → Bool) (v : Int) : (nextF m v = -1 ∧ ∀ i : Nat, v ≤ i → i < 4096 → m i = false) ∨ ∃ j : Nat, nextF m v = j ∧ j < 4096 ∧ v ≤ j ∧ m j = true ∧ ∀ i : Nat, v ≤ i → i < j → m i = false := by
  unfold nextF
  cases h : (List.range 4096).find? (fun (j : Nat) => decide (v ≤ (j : Int)) && m j) with
  | none =>
    refine Or.inl ⟨rfl, fun i h1 h2 => ?_⟩
    rw [List.find?_eq_none] at h
    have := h i (List.mem_range.2 h2)
    simpa [h1] using this
  | some j =>
    rw [List.find?_range_eq_some] at h
    obtain ⟨h1, h2, h3⟩ := h
    simp only [Bool.and_eq_true, decide_eq_true_eq] at h1
    refine Or.inr ⟨j, rfl, by simpa using h2, h1.1, h1.2, fun i h4 h5 => ?_⟩
    have := h3 i h5
    simpa [h4] using this
theorem listTo_none (m : Nat → Bool) (v : Nat) : ∀ d, (∀ i, v ≤ i → i < v + d → m i = false) → listTo m (v + d) = listTo m v
  | 0, _ => rfl
  | d + 1, h => by
    have ih := listTo_none m v d (fun i h1 h2 => h i h1 (by omega))
    rw [← ih]
    unfold listTo
    rw [← Nat.add_assoc, List.range_succ, List.filter_append]
    simp [h (v + d) (by omega) (by omega)]
theorem listTo_next (m : Nat → Bool) (v j : Nat) (hv : v ≤ j) (hm : m j = true) (h : ∀ i, v ≤ i → i < j → m i = false) : listTo m v ++ [(j : Int)] = listTo m (j + 1) := by
  have e := listTo_none m v (j - v) (fun i h1 h2 => h i h1 (by omega))
  rw [show v + (j - v) = j by omega] at e
  rw [← e]
  unfold listTo
  rw [List.range_succ, List.filter_append]
  simp [hm]
theorem listTo_end (m : Nat → Bool) (v : Nat) (hv : v ≤ 4096) (h : ∀ i, v ≤ i → i < 4096 → m i = false) : listTo m v = listF m := by
  have e := listTo_none m v (4096 - v) (fun i h1 h2 => h i h1 (by omega))
  rw [show v + (4096 - v) = 4096 by omega] at e
  exact e.symm
theorem listTo_len (m : Nat → Bool) (v : Nat) : (listTo m v).length ≤ v := by
  unfold listTo
  rw [List.length_map]
  exact Nat.le_trans (List.length_filter_le _ _) (by simp)
end Go.Proofs.YtjcppnleoahaiaaDoor.P
