/- How many are in a set: plain. -/
import Derived.Test.YtjcppnleoahaiaaDoorBitsR
namespace Go.Proofs.YtjcppnleoahaiaaDoor.P
open Go.RowKit
theorem cnt_or (a b : Nat → Bool) : ∀ n, cnt (orF a b) n + cnt (andF a b) n = cnt a n + cnt b n
  | 0 => rfl
  | n + 1 => by
    have ih := cnt_or a b n
    unfold cnt at ih ⊢
    simp only [sumN]
    have : (orF a b n).toNat + (andF a b n).toNat = (a n).toNat + (b n).toNat := by
      simp only [orF, andF]; cases a n <;> cases b n <;> rfl
    omega
theorem cnt_min (a b : Nat → Bool) : ∀ n, cnt (minF a b) n + cnt (andF a b) n = cnt a n
  | 0 => rfl
  | n + 1 => by
    have ih := cnt_min a b n
    unfold cnt at ih ⊢
    simp only [sumN]
    have : (minF a b n).toNat + (andF a b n).toNat = (a n).toNat := by
      simp only [minF, andF]; cases a n <;> cases b n <;> rfl
    omega
theorem cnt_most (a : Nat → Bool) : ∀ n, cnt a n ≤ n
  | 0 => Nat.le_refl _
  | n + 1 => by
    have ih := cnt_most a n
    unfold cnt at ih ⊢
    simp only [sumN]
    have : (a n).toNat ≤ 1 := by cases a n <;> simp
    omega
theorem cnt_none (a : Nat → Bool) : ∀ n, cnt a n = 0 ↔ ∀ i, i < n → a i = false
  | 0 => ⟨fun _ i hi => by omega, fun _ => rfl⟩
  | n + 1 => by
    have ih := cnt_none a n
    unfold cnt at ih ⊢
    simp only [sumN]
    constructor
    · intro h i hi
      by_cases e : i = n
      · rw [e]
        have : (a n).toNat = 0 := by omega
        cases h2 : a n
        · rfl
        · rw [h2] at this; simp at this
      · exact (ih.1 (by omega)) i (by omega)
    · intro h
      have h1 := ih.2 (fun i hi => h i (by omega))
      rw [h1, h n (by omega)]
      rfl
theorem cnt_nought (a : Nat → Bool) : cnt a 4096 = 0 ↔ nextF a 0 = -1 := by
  rw [cnt_none]
  rcases next_cases a 0 with ⟨he, h⟩ | ⟨j, he, hj, _, hm, _⟩
  · exact ⟨fun _ => he, fun _ i hi => h i (by omega) hi⟩
  · constructor
    · intro h; rw [h j hj] at hm; cases hm
    · intro h; rw [he] at h; omega
theorem cnt_list (a : Nat → Bool) : ∀ n, (listTo a n).length = cnt a n
  | 0 => rfl
  | n + 1 => by
    have ih := cnt_list a n
    unfold listTo cnt at ih ⊢
    rw [List.length_map] at ih ⊢
    rw [List.range_succ, List.filter_append, List.length_append, ih]
    simp only [sumN]
    cases h : a n <;> simp [h]
theorem same_text (a b : Nat → Bool) : (textF a = textF b) ↔ sameF a b = true := by rw [textF_inj, sameF_iff]
end Go.Proofs.YtjcppnleoahaiaaDoor.P
