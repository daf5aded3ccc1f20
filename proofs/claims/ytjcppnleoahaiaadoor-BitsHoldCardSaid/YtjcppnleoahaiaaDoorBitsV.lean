/- How many are in a set: plain. The list of a set: plain: it rises, it has just what the set has, the next ones are the list. -/
import Derived.Test.YtjcppnleoahaiaaDoorBitsR
namespace Go.Proofs.YtjcppnleoahaiaaDoor.P
open Go.RowKit
theorem cnt_or (a b : Nat → Bool) : ∀ n, cnt (orF a b) n + cnt (andF a b) n = cnt a n + cnt b n
  | 0 => rfl
  | n + 1 => by
    have ih := cnt_or a b n
    unfold cnt at ih ⊢
    simp only [sumN]
    have : (orF a b n).toNat + (andF a b n).toNat = (a n).toNat + (b n).toNat := by
      simp only [orF, andF]; cases a n <;> cases b n <;> rfl
    omega
theorem cnt_min (a b : Nat → Bool) : ∀ n, cnt (minF a b) n + cnt (andF a b) n = cnt a n
  | 0 => rfl
  | n + 1 => by
    have ih := cnt_min a b n
    unfold cnt at ih ⊢
    simp only [sumN]
    have : (minF a b n).toNat + (andF a b n).toNat = (a n).toNat := by
      simp only [minF, andF]; cases a n <;> cases b n <;> rfl
    omega
theorem cnt_most (a : Nat → Bool) : ∀ n, cnt a n ≤ n
  | 0 => Nat.le_refl _
  | n + 1 => by
    have ih := cnt_most a n
    unfold cnt at ih ⊢
    simp only [sumN]
    have : (a n).toNat ≤ 1 := by cases a n <;> simp
    omega
theorem cnt_none (a : Nat → Bool) : ∀ n, cnt a n = 0 ↔ ∀ i, i < n → a i = false
  | 0 => ⟨fun _ i hi => by omega, fun _ => rfl⟩
  | n + 1 => by
    have ih := cnt_none a n
    unfold cnt at ih ⊢
    simp only [sumN]
    constructor
    · intro h i hi
      by_cases e : i = n
      · rw [e]
        have : (a n).toNat = 0 := by omega
        cases h2 : a n
        · rfl
        · rw [h2] at this; simp at this
      · exact (ih.1 (by omega)) i (by omega)
    · intro h
      have h1 := ih.2 (fun i hi => h i (by omega))
      rw [h1, h n (by omega)]
      rfl
theorem cnt_nought (a : Nat → Bool) : cnt a 4096 = 0 ↔ nextF a 0 = -1 := by
  rw [cnt_none]
  rcases next_cases a 0 with ⟨he, h⟩ | ⟨j, he, hj, _, hm, _⟩
  · exact ⟨fun _ => he, fun _ i hi => h i (by omega) hi⟩
  · constructor
    · intro h; rw [h j hj] at hm; cases hm
    · intro h; rw [he] at h; omega
theorem cnt_list (a : Nat → Bool) : ∀ n, (listTo a n).length = cnt a n
  | 0 => rfl
  | n + 1 => by
    have ih := cnt_list a n
    unfold listTo cnt at ih ⊢
    rw [List.length_map] at ih ⊢
    rw [List.range_succ, List.filter_append, List.length_append, ih]
    simp only [sumN]
    cases h : a n <;> simp [h]
theorem same_text (a b : Nat → Bool) : (textF a = textF b) ↔ sameF a b = true := by rw [textF_inj, sameF_iff]
end Go.Proofs.YtjcppnleoahaiaaDoor.P
namespace Go.Proofs.YtjcppnleoahaiaaDoor.P
open Go.RowKit
theorem listF_mem (m : Nat → Bool) (x : Int) : x ∈ listF m ↔ ∃ j : Nat, j < 4096 ∧ m j = true ∧ x = j := by
  unfold listF listTo
  simp only [List.mem_map, List.mem_filter, List.mem_range]
  constructor
  · rintro ⟨j, ⟨h1, h2⟩, h3⟩; exact ⟨j, h1, h2, h3.symm⟩
  · rintro ⟨j, h1, h2, h3⟩; exact ⟨j, ⟨h1, h2⟩, h3.symm⟩
theorem listF_rise (m : Nat → Bool) : (listF m).Pairwise (· < ·) := by
  unfold listF listTo
  refine List.Pairwise.map _ (fun a b h => ?_) (List.Pairwise.filter _ List.pairwise_lt_range)
  omega
theorem listF_lt (m : Nat → Bool) {i j : Nat} (h : i < j) (hj : j < (listF m).length) : (listF m)[i]'(by omega) < (listF m)[j] :=
  List.pairwise_iff_getElem.1 (listF_rise m) i j (by omega) hj h
theorem listF_at (m : Nat → Bool) {k : Nat} (h : k < (listF m).length) : ∃ j : Nat, j < 4096 ∧ m j = true ∧ (listF m)[k] = (j : Int) := (listF_mem m _).1 (List.getElem_mem h)
/-- What stands at a place of the list; -1 behind it. -/
def atF (m : Nat → Bool) (k : Nat) : Int := (listF m)[k]?.getD (-1)
theorem atF_lt (m : Nat → Bool) {k : Nat} (h : k < (listF m).length) : atF m k = (listF m)[k] := by unfold atF; rw [List.getElem?_eq_getElem h]; rfl
theorem atF_end (m : Nat → Bool) {k : Nat} (h : (listF m).length ≤ k) : atF m k = -1 := by unfold atF; rw [List.getElem?_eq_none h]; rfl
/-- The least number from v on is the first of the list that is not less. -/
theorem next_at (m : Nat → Bool) (v : Int) (k : Nat) (hlo : ∀ i (h : i < (listF m).length), i < k → (listF m)[i] < v) (hhi : ∀ (h : k < (listF m).length), v ≤ (listF m)[k]) : nextF m v = atF m k := by
  by_cases hk : k < (listF m).length
  · rw [atF_lt m hk]
    obtain ⟨j, hj, hm, he⟩ := listF_at m hk
    have hv := hhi hk
    rw [he] at hv ⊢
    refine next_some m v j hj hm hv (fun i h1 h2 => ?_)
    cases hmi : m i with
    | false => rfl
    | true =>
      obtain ⟨t, ht, hti⟩ := List.getElem_of_mem ((listF_mem m i).2 ⟨i, by omega, hmi, rfl⟩)
      by_cases h3 : t < k
      · have := hlo t ht h3; omega
      · by_cases h4 : t = k
        · subst h4; omega
        · have := listF_lt m (show k < t by omega) ht; omega
  · rw [atF_end m (by omega)]
    refine next_none m v (fun i h1 h2 => ?_)
    cases hmi : m i with
    | false => rfl
    | true =>
      obtain ⟨t, ht, hti⟩ := List.getElem_of_mem ((listF_mem m i).2 ⟨i, h2, hmi, rfl⟩)
      have := hlo t ht (by omega); omega
theorem next_first (m : Nat → Bool) : nextF m 0 = atF m 0 := next_at m 0 0 (fun _ _ h => by omega) (fun h => by
  obtain ⟨j, _, _, he⟩ := listF_at m h
  omega)
theorem next_more (m : Nat → Bool) {k : Nat} (h : k < (listF m).length) : nextF m ((listF m)[k] + 1) = atF m (k + 1) := next_at m _ (k + 1) (fun i hi h1 => by
  by_cases e : i = k
  · subst e; omega
  · have := listF_lt m (show i < k by omega) h; omega) (fun h2 => by have := listF_lt m (show k < k + 1 by omega) h2; omega)
theorem hasI_at (m : Nat → Bool) {k : Nat} (h : k < (listF m).length) : hasI m (listF m)[k] = true ∧ 0 ≤ (listF m)[k] ∧ (listF m)[k] ≤ 4095 := by
  obtain ⟨j, hj, hm, he⟩ := listF_at m h
  rw [he]
  refine ⟨?_, by omega, by omega⟩
  unfold hasI
  simp [hm]; omega
theorem ofF_list (m : Nat → Bool) : ∀ n, n < 4096 → ofF (listF m) n = m n := fun n hn => by
  unfold ofF
  rw [Bool.eq_iff_iff, decide_eq_true_eq, listF_mem]
  constructor
  · rintro ⟨j, _, h1, h2⟩
    have : j = n := by omega
    rw [← this]; exact h1
  · intro h; exact ⟨n, hn, h, rfl⟩
theorem hasI_of (l : List Int) (x : Int) (h : x ∈ l) : hasI (ofF l) x = decide (0 ≤ x ∧ x < 4096) := by
  unfold hasI ofF
  by_cases hx : 0 ≤ x ∧ x < 4096
  · have : ((x.toNat : Nat) : Int) = x := by omega
    simp [hx, this, h]
  · simp [hx]
theorem hasI_with (m : Nat → Bool) (n : Int) : hasI (withI m n) n = decide (0 ≤ n ∧ n < 4096) := by
  unfold hasI withI
  by_cases hx : 0 ≤ n ∧ n < 4096
  · have : ((n.toNat : Nat) : Int) = n := by omega
    simp [hx, this]
  · simp [hx]
theorem hasI_out (m : Nat → Bool) (n : Int) : hasI (outI m n) n = false := by
  unfold hasI outI
  by_cases hx : 0 ≤ n ∧ n < 4096
  · have : ((n.toNat : Nat) : Int) = n := by omega
    simp [this]
  · simp [hx]
theorem out_sub (m : Nat → Bool) (n : Int) : sameF (orF (outI m n) m) m = true := sameF_of fun k => by
  simp only [orF, outI]
  cases m k <;> simp
theorem with_sub (m : Nat → Bool) (n : Int) : sameF (orF m (withI m n)) (withI m n) = true := sameF_of fun k => by
  simp only [orF, withI]
  cases m k <;> simp
theorem list_cnt (m : Nat → Bool) : (listF m).length = cnt m 4096 := cnt_list m 4096
end Go.Proofs.YtjcppnleoahaiaaDoor.P
