/- The operators of the program and of the document tell the same. -/
import Derived.Test.YtkhlfdcjgooogaaPf10
import Derived.Test.YtkhlfdcjgooogaaPf11
import Derived.Test.YtkhlfdcjgooogaaPf13
import Derived.Test.YtkhlfdcjgooogaaPf14
namespace Go.Proofs.Ytkhlfdcjgooogaa.P
open Go.RowKit Go.Proofs.YtkhlfdcjgooogaaW.PrintWords Go.Proofs.YtkhlfdcjgooogaaW.PrintLast Go.Proofs.YtkhlfdcjgooogaaW.PrintMore
def tv (b : Bool) : Int × Int := if b = true then (2, 1) else (2, 0)
theorem truth_tv (b : Bool) : value_truth.f b = some (tv b) := by cases b <;> rfl
theorem of_tv (b : Bool) : runnelref9_Of.f b = some (tv b) := by cases b <;> rfl
theorem num_eq (x : Int) : value_number.f x = some (1, x) := rfl
theorem held_eq (s : ByteArray) (a b : Int) : (runnelref9_held.f s a b).isSome = true := by
  unfold runnelref9_held.f
  simp only [of_tv, Option.bind_some]
  repeat' split
  all_goals rfl
theorem same_some (s : ByteArray) (x : Bool) : (value_same.f s x).isSome = true := by
  unfold value_same.f
  simp only [truth_tv, Option.bind_some]
  repeat' split
  all_goals rfl
theorem ints_eq (s : ByteArray) (a b : Int) : ∃ r, value_ints.f 8 s a b = some r ∧ runnelref9_numbers.f 8 s a b = some r := by
  simp only [value_ints.f, runnelref9_numbers.f, value_ints.j0, runnelref9_numbers.j0, num_eq, truth_tv, Option.bind_some, runnelref9_held.f, of_tv, value_same.f]
  by_cases h1 : s.toList = [43]
  · simp [h1]
  by_cases h2 : s.toList = [45]
  · simp [h2]
  by_cases h3 : s.toList = [42]
  · simp [h3]
  by_cases h4 : s.toList = [47]
  · by_cases hb : b = 0 <;> simp [h4, hb]
  by_cases h5 : s.toList = [37]
  · by_cases hb : b = 0 <;> simp [h5, hb]
  by_cases h6 : s.toList = [60]
  · simp [h6]
  by_cases h7 : s.toList = [60, 61]
  · simp [h7]
  by_cases h8 : s.toList = [62]
  · simp [h8]
  by_cases h9 : s.toList = [62, 61]
  · simp [h9]
  by_cases h10 : s.toList = [61, 61]
  · simp [h10]
  by_cases h11 : s.toList = [33, 61]
  · simp [h11, bne]
  simp [h1, h2, h3, h4, h5, h6, h7, h8, h9, h10, h11]
theorem unary_eq (s : ByteArray) (a0 a1 : Int) : ∃ r, value_Unary.f 9 s a0 a1 = some r ∧ runnelref9_Unary.f 9 s a0 a1 = some r := by
  simp only [value_Unary.f, runnelref9_Unary.f, value_Unary.j0, runnelref9_Unary.j0, num_eq, truth_tv, Option.bind_some, of_tv]
  by_cases h1 : s.toList = [45]
  · by_cases hb : a0 = 1 <;> simp [h1, hb]
  by_cases h2 : s.toList = [33]
  · by_cases hb : a0 = 2 <;> simp [h2, hb]
  simp [h1, h2]
theorem binary_eq (s : ByteArray) (a0 a1 b0 b1 : Int) : ∃ r, value_Binary.f 9 s a0 a1 b0 b1 = some r ∧ runnelref9_Binary.f 9 s a0 a1 b0 b1 = some r := by
  obtain ⟨r, hr1, hr2⟩ := ints_eq s a1 b1
  simp only [value_Binary.f, runnelref9_Binary.f, value_Binary.j0, runnelref9_Binary.j0, value_Binary.j1, runnelref9_Binary.j1, truth_tv, Option.bind_some, of_tv, hr1, hr2, value_same.f]
  by_cases ha : a0 = 1
  · by_cases hb : b0 = 1
    · simp [ha, hb]
    · simp [ha, hb]
  · by_cases ha2 : a0 = 2
    · by_cases hb2 : b0 = 2
      · by_cases h1 : s.toList = [38, 38]
        · by_cases hx : a1 = 0 <;> simp [h1, hx, ha2, hb2]
        by_cases h2 : s.toList = [124, 124]
        · by_cases hx : a1 = 0 <;> simp [h2, hx, ha2, hb2]
        by_cases h3 : s.toList = [61, 61]
        · simp [h3, ha2, hb2]
        by_cases h4 : s.toList = [33, 61]
        · simp [h4, ha2, hb2, bne]
        simp [h1, h2, h3, h4, ha2, hb2]
      · simp [ha2, hb2]
    · simp [ha, ha2]
end Go.Proofs.Ytkhlfdcjgooogaa.P
