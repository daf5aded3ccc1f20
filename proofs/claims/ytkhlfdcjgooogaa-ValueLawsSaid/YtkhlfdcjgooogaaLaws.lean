/- chapter 9: what is divided, and what is left, make the number again, and of two numbers one of three stands: ValueLaws answers true for all numbers. No condition. -/
import Derived.Test.YtkhlfdcjgooogaaHLaws
import Derived.Test.YtkhlfdcjgooogaaHLawsB
import Derived.Test.YtkhlfdcjgooogaaPureL
namespace Go.Proofs.Ytkhlfdcjgooogaa.P
theorem bn_le (b : Bool) : 0 ≤ bn b ∧ bn b ≤ 1 := by cases b <;> simp [bn]
theorem bn_sum (a b : Int) : (bn (decide (a < b)) + bn (a == b) + bn (decide (b < a)) == 1) = true := by
  by_cases h1 : a < b
  · have h2 : ¬ b < a := by omega
    have h3 : ¬ a = b := by omega
    simp [bn, h1, h2, h3]
  · by_cases h2 : b < a
    · have h3 : ¬ a = b := by omega
      simp [bn, h1, h2, h3]
    · have h3 : a = b := by omega
      subst h3
      simp [bn]
theorem bn_or (a b : Int) : (decide (a < b) || decide (b < a)) = !(a == b) := by
  by_cases h1 : a < b
  · have h3 : ¬ a = b := by omega
    simp [h1, h3]
  · by_cases h2 : b < a
    · have h3 : ¬ a = b := by omega
      simp [h2, h3]
    · have h3 : a = b := by omega
      subst h3
      simp
theorem laws_row (a b : Int) (w : World) (ha : (Lit.int .i64 a).wf = true) : Calls Try.prog 4 #[.int .i64 a, .int .i64 b] w fun e w' => e = .returned (.bool true) ∧ RowKit.Below w.heap.size w w' := by
  obtain ⟨a0, a1⟩ : -9223372036854775808 ≤ a ∧ a ≤ 9223372036854775807 := by simpa [Lit.wf, IntKind.min, IntKind.max, IntKind.signed, IntKind.bits] using ha
  have hor := l_or (decide (a < b)) (decide (b < a))
  rw [bn_or] at hor
  have h6 := l_neg (RowKit.wrap64 (-a))
  rw [neg_neg_wrap a a0 a1] at h6
  by_cases hb : b = 0
  · subst hb
    exact laws_zero a 0 0 0 0 0 0 0 0 0 0 1 (RowKit.wrap64 (-a)) _ _ _ _ false false true true w (bn_le _).1 (bn_le _).2 (bn_le _).1 (bn_le _).2 (bn_le _).1 (bn_le _).2 (bn_sum a 0)
      (l_div0 a) (l_rem0 a) l_mul0 l_add0 (l_neg a) h6 (l_lt a 0) (l_eq a 0) (l_gt a 0) (l_not _) (l_ne a 0) hor
  · have h4 := l_add (RowKit.wrap64 (RowKit.wrap64 (Int.tdiv a b) * b)) (Int.tmod a b)
    rw [div_back a b a0 a1] at h4
    exact laws_rest a b 1 _ 1 _ 1 _ 0 1 a 0 1 (RowKit.wrap64 (-a)) _ _ _ _ true true true true w (by simpa using hb) (by simpa using hb) ⟨rfl, rfl⟩ (bn_le _).1 (bn_le _).2 (bn_le _).1 (bn_le _).2 (bn_le _).1 (bn_le _).2 (bn_sum a b)
      (l_div a b hb) (l_rem a b hb) (l_mul _ b) h4 (l_neg a) h6 (l_lt a b) (l_eq a b) (l_gt a b) (l_not _) (l_ne a b) hor
end Go.Proofs.Ytkhlfdcjgooogaa.P
