/- The order of texts, both ways. -/
import Derived.Test.YtjlcbhlpibgplaaDoorP0
namespace Go.Proofs.YtjlcbhlpibgplaaDoor.P
open Go.RowKit
theorem bytes_flip : ∀ x y : List UInt8, Op.bytesLess y x = !(Op.bytesLess x y || x == y)
  | [], [] => by simp [Op.bytesLess]
  | [], b :: y => by simp [Op.bytesLess]
  | a :: x, [] => by simp [Op.bytesLess]
  | a :: x, b :: y => by
    have ih := bytes_flip x y
    unfold Op.bytesLess
    rw [ih]
    by_cases h1 : a < b
    · have h2 : ¬ b < a := by simp only [UInt8.lt_iff_toNat_lt] at *; omega
      have h3 : ¬ b = a := fun e => by subst e; exact h2 h1
      simp [h1, h2, h3]
    · by_cases h2 : b < a
      · have h3 : ¬ a = b := fun e => by subst e; exact h1 h2
        simp [h1, h2, h3]
      · have h3 : a = b := by
          apply UInt8.toNat_inj.1
          simp only [UInt8.lt_iff_toNat_lt] at *; omega
        subst h3
        simp [h1]
def greatT : ByteArray := ⟨#[57, 50, 50, 51, 51, 55, 50, 48, 51, 54, 56, 53, 52, 55, 55, 53, 56, 48, 55]⟩
theorem great_list : (⟨#[57, 50, 50, 51, 51, 55, 50, 48, 51, 54, 56, 53, 52, 55, 55, 53, 56, 48, 55]⟩ : ByteArray).toList = [57, 50, 50, 51, 51, 55, 50, 48, 51, 54, 56, 53, 52, 55, 55, 53, 56, 48, 55] := by kernel_rfl
theorem great_flip (a : ByteArray) : Op.bytesLess [57, 50, 50, 51, 51, 55, 50, 48, 51, 54, 56, 53, 52, 55, 55, 53, 56, 48, 55] a.toList = !(Op.bytesLess a.toList (⟨#[57, 50, 50, 51, 51, 55, 50, 48, 51, 54, 56, 53, 52, 55, 55, 53, 56, 48, 55]⟩ : ByteArray).toList || a.toList == (⟨#[57, 50, 50, 51, 51, 55, 50, 48, 51, 54, 56, 53, 52, 55, 55, 53, 56, 48, 55]⟩ : ByteArray).toList) := by
  rw [great_list]; exact bytes_flip _ _
end Go.Proofs.YtjlcbhlpibgplaaDoor.P
