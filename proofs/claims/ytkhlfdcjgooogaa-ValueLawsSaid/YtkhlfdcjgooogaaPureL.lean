/- What ValueLaws reckons, without the program. -/
import Derived.Test.YtkhlfdcjgooogaaPureS
namespace Go.Proofs.Ytkhlfdcjgooogaa.P
open Go.RowKit Go.Proofs.YtkhlfdcjgooogaaW.PrintWords Go.Proofs.YtkhlfdcjgooogaaW.PrintLast Go.Proofs.YtkhlfdcjgooogaaW.PrintMore
set_option linter.unusedSimpArgs false
theorem wrap_mod (x : Int) : wrap64 x % 18446744073709551616 = x % 18446744073709551616 := by unfold wrap64; omega
theorem wrap_id {x a : Int} (h : x % 18446744073709551616 = a % 18446744073709551616) (h0 : -9223372036854775808 ≤ a) (h1 : a ≤ 9223372036854775807) : wrap64 x = a := by unfold wrap64; omega
theorem neg_neg_wrap (a : Int) (h0 : -9223372036854775808 ≤ a) (h1 : a ≤ 9223372036854775807) : wrap64 (-(wrap64 (-a))) = a := by
  refine wrap_id ?_ h0 h1
  have h := wrap_mod (-a)
  omega
theorem div_back (a b : Int) (h0 : -9223372036854775808 ≤ a) (h1 : a ≤ 9223372036854775807) : wrap64 (wrap64 (wrap64 (Int.tdiv a b) * b) + Int.tmod a b) = a := by
  refine wrap_id ?_ h0 h1
  have e := Int.mul_tdiv_add_tmod a b
  have h2 := wrap_mod (wrap64 (Int.tdiv a b) * b)
  have h3 := wrap_mod (Int.tdiv a b)
  have h4 : (wrap64 (Int.tdiv a b) * b) % 18446744073709551616 = (b * Int.tdiv a b) % 18446744073709551616 := by
    rw [Int.mul_comm b, Int.mul_emod, h3, ← Int.mul_emod]
  omega
theorem t47 : (⟨#[47]⟩ : ByteArray).toList = [47] := by kernel_rfl
theorem t37 : (⟨#[37]⟩ : ByteArray).toList = [37] := by kernel_rfl
theorem t42 : (⟨#[42]⟩ : ByteArray).toList = [42] := by kernel_rfl
theorem t43 : (⟨#[43]⟩ : ByteArray).toList = [43] := by kernel_rfl
theorem t45 : (⟨#[45]⟩ : ByteArray).toList = [45] := by kernel_rfl
theorem t60 : (⟨#[60]⟩ : ByteArray).toList = [60] := by kernel_rfl
theorem t62 : (⟨#[62]⟩ : ByteArray).toList = [62] := by kernel_rfl
theorem t33 : (⟨#[33]⟩ : ByteArray).toList = [33] := by kernel_rfl
theorem t6161 : (⟨#[61, 61]⟩ : ByteArray).toList = [61, 61] := by kernel_rfl
theorem t3361 : (⟨#[33, 61]⟩ : ByteArray).toList = [33, 61] := by kernel_rfl
theorem t124 : (⟨#[124, 124]⟩ : ByteArray).toList = [124, 124] := by kernel_rfl
def bn (b : Bool) : Int := if b = true then 1 else 0
theorem l_div (a b : Int) (h : b ≠ 0) : value_Binary.f 9 ⟨#[47]⟩ 1 a 1 b = some (1, wrap64 (Int.tdiv a b), 0, true) := by simp [value_Binary.f, value_Binary.j0, value_ints.f, value_ints.j0, num_eq, t47, h]
theorem l_rem (a b : Int) (h : b ≠ 0) : value_Binary.f 9 ⟨#[37]⟩ 1 a 1 b = some (1, Int.tmod a b, 0, true) := by simp [value_Binary.f, value_Binary.j0, value_ints.f, value_ints.j0, num_eq, t37, h]
theorem l_div0 (a : Int) : value_Binary.f 9 ⟨#[47]⟩ 1 a 1 0 = some (0, 0, 1, true) := by simp [value_Binary.f, value_Binary.j0, value_ints.f, value_ints.j0, num_eq, t47]
theorem l_rem0 (a : Int) : value_Binary.f 9 ⟨#[37]⟩ 1 a 1 0 = some (0, 0, 1, true) := by simp [value_Binary.f, value_Binary.j0, value_ints.f, value_ints.j0, num_eq, t37]
theorem l_mul (a b : Int) : value_Binary.f 9 ⟨#[42]⟩ 1 a 1 b = some (1, wrap64 (a * b), 0, true) := by simp [value_Binary.f, value_Binary.j0, value_ints.f, value_ints.j0, num_eq, t42]
theorem l_mul0 : value_Binary.f 9 ⟨#[42]⟩ 0 0 1 0 = some (0, 0, 0, false) := by kernel_rfl
theorem l_add (a b : Int) : value_Binary.f 9 ⟨#[43]⟩ 1 a 1 b = some (1, wrap64 (a + b), 0, true) := by simp [value_Binary.f, value_Binary.j0, value_ints.f, value_ints.j0, num_eq, t43]
theorem l_add0 : value_Binary.f 9 ⟨#[43]⟩ 0 0 0 0 = some (0, 0, 0, false) := by kernel_rfl
theorem l_neg (a : Int) : value_Unary.f 9 ⟨#[45]⟩ 1 a = some (1, wrap64 (-a), true) := by simp [value_Unary.f, value_Unary.j0, num_eq, t45]
theorem l_lt (a b : Int) : value_Binary.f 9 ⟨#[60]⟩ 1 a 1 b = some (2, bn (decide (a < b)), 0, true) := by
  by_cases h : a < b <;> simp [value_Binary.f, value_Binary.j0, value_ints.f, value_ints.j0, truth_tv, tv, bn, t60, h]
theorem l_gt (a b : Int) : value_Binary.f 9 ⟨#[62]⟩ 1 a 1 b = some (2, bn (decide (b < a)), 0, true) := by
  by_cases h : b < a <;> simp [value_Binary.f, value_Binary.j0, value_ints.f, value_ints.j0, truth_tv, tv, bn, t62, h]
theorem l_eq (a b : Int) : value_Binary.f 9 ⟨#[61, 61]⟩ 1 a 1 b = some (2, bn (a == b), 0, true) := by
  by_cases h : a = b <;> simp [value_Binary.f, value_Binary.j0, value_ints.f, value_ints.j0, value_same.f, truth_tv, tv, bn, t6161, h]
theorem l_ne (a b : Int) : value_Binary.f 9 ⟨#[33, 61]⟩ 1 a 1 b = some (2, bn (!(a == b)), 0, true) := by
  by_cases h : a = b <;> simp [value_Binary.f, value_Binary.j0, value_ints.f, value_ints.j0, value_same.f, truth_tv, tv, bn, t3361, h]
theorem l_not (b : Bool) : value_Unary.f 9 ⟨#[33]⟩ 2 (bn b) = some (2, bn (!b), true) := by cases b <;> kernel_rfl
theorem l_or (b c : Bool) : value_Binary.f 9 ⟨#[124, 124]⟩ 2 (bn b) 2 (bn c) = some (2, bn (b || c), 0, true) := by cases b <;> cases c <;> kernel_rfl
end Go.Proofs.Ytkhlfdcjgooogaa.P
