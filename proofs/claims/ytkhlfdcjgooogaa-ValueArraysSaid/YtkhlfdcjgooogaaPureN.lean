/- What New, Get and Len tell of a heap with an array more. -/
import Derived.Test.YtkhlfdcjgooogaaHeapI
namespace Go.Proofs.Ytkhlfdcjgooogaa.P
open Go.RowKit
set_option linter.unusedVariables false
theorem new_neg {L : List (List Int)} {n : Int} (h : n < 0) : newK L n = 0 ∧ newN L n = 0 ∧ newE L n = 4 ∧ newR L n = true ∧ newL L n = L := by
  unfold newK newN newE newR newL
  have h' : n < 0 ∨ 65536 < n := .inl h
  simp only [if_pos h', and_self]
theorem new_no {L : List (List Int)} {n : Int} (h0 : 0 ≤ n) (h1 : n ≤ 65536) (h : 262144 < cellsOf L + n + 1) : newK L n = 0 ∧ newN L n = 0 ∧ newE L n = 0 ∧ newR L n = false ∧ newL L n = L := by
  unfold newK newN newE newR newL
  have h' : ¬ (n < 0 ∨ 65536 < n) := by omega
  simp only [if_neg h', if_pos h, and_self]
theorem new_ok {L : List (List Int)} {n : Int} (h0 : 0 ≤ n) (h1 : n ≤ 65536) (h : ¬ 262144 < cellsOf L + n + 1) : newK L n = 3 ∧ newN L n = L.length + 1 ∧ newE L n = 0 ∧ newR L n = true ∧ newL L n = L ++ [List.replicate n.toNat 0] := by
  unfold newK newN newE newR newL
  have h' : ¬ (n < 0 ∨ 65536 < n) := by omega
  simp only [if_neg h', if_neg h, and_self]
theorem cells_new {L : List (List Int)} {n : Int} (h0 : 0 ≤ n) : cellsOf (L ++ [List.replicate n.toNat 0]) = cellsOf L + n + 1 := by
  rw [cells_snoc, List.length_replicate]
  omega
theorem arr_new (L : List (List Int)) (xs : List Int) : arrAt (L ++ [xs]) (L.length + 1) = xs := by
  have e : ((L.length : Int) + 1 - 1).toNat = L.length := by omega
  unfold arrAt
  rw [e]
  simp [List.getD_eq_getElem?_getD]
theorem isB_new (L : List (List Int)) (xs : List Int) : isB (L ++ [xs]) 3 (L.length + 1) = true := isB_iff.2 ⟨rfl, by omega, by simp⟩
theorem len_new {L : List (List Int)} {n : Int} (h0 : 0 ≤ n) : lenF (L ++ [List.replicate n.toNat 0]) 3 (L.length + 1) = n := by
  unfold lenF
  rw [if_pos (isB_new _ _), arr_new, List.length_replicate]
  omega
theorem get_in {L : List (List Int)} {n i : Int} (h0 : 0 ≤ n) (hi0 : 0 ≤ i) (hi : i < n) :
    getK (L ++ [List.replicate n.toNat 0]) 3 (L.length + 1) 1 i = 1 ∧ getN (L ++ [List.replicate n.toNat 0]) 3 (L.length + 1) 1 i = 0 ∧ wrongF (L ++ [List.replicate n.toNat 0]) 3 (L.length + 1) 1 i = 0 := by
  have hw : wrongF (L ++ [List.replicate n.toNat 0]) 3 (L.length + 1) 1 i = 0 := by
    unfold wrongF
    rw [isB_new, if_neg (by decide), arr_new, if_neg (by rw [List.length_replicate]; omega)]
  refine ⟨by unfold getK; rw [if_pos hw], ?_, hw⟩
  unfold getN
  rw [if_pos hw, arr_new]
  simp only [List.getD_eq_getElem?_getD, List.getElem?_replicate]
  split <;> rfl
theorem get_out {L : List (List Int)} {n i : Int} (h0 : 0 ≤ n) (hi : i < 0 ∨ n ≤ i) :
    getK (L ++ [List.replicate n.toNat 0]) 3 (L.length + 1) 1 i = 0 ∧ getN (L ++ [List.replicate n.toNat 0]) 3 (L.length + 1) 1 i = 0 ∧ wrongF (L ++ [List.replicate n.toNat 0]) 3 (L.length + 1) 1 i = 2 := by
  have hw : wrongF (L ++ [List.replicate n.toNat 0]) 3 (L.length + 1) 1 i = 2 := by
    unfold wrongF
    rw [isB_new, if_neg (by decide), arr_new, if_pos (by rw [List.length_replicate]; omega)]
  refine ⟨by unfold getK; rw [if_neg (by rw [hw]; decide)], by unfold getN; rw [if_neg (by rw [hw]; decide)], hw⟩
end Go.Proofs.Ytkhlfdcjgooogaa.P
