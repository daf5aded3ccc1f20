/- How a list of acts is read. -/
import Derived.Test.YtkhlfdcjgooogaaOne
namespace Go.Proofs.Ytkhlfdcjgooogaa.P
open Go.RowKit Go.Proofs.YtkhlfdcjgooogaaW.PrintWords Go.Proofs.YtkhlfdcjgooogaaW.PrintLast Go.Proofs.YtkhlfdcjgooogaaW.PrintMore
set_option linter.unusedVariables false
set_option linter.unusedSimpArgs false
theorem k8_open {w : World} {x : A8} {cs : List Value} (h : k8.K w x cs) : cs = (flat8 x).toList := by
  obtain ⟨c0, r0, rfl, h0, c1, r1, rfl, h1, c2, r2, rfl, h2, c3, c4, rfl, h3, h4⟩ := h
  rw [int_one h0, int_one h1, k2_open h2, k2_open h3, k2_open h4]
  rfl
theorem acts_at {w : World} {A : Option Addr} {l : List A8} (h : Kd.C k8 w A l.length l) (k : Nat) (hk : k < l.length) : ∃ b off x, A = some ⟨b, off, none⟩ ∧ b < w.heap.size ∧ ∀ j u, (flat8 x)[j]? = some u → w.cell? ⟨b, off + k * 8 + j, none⟩ = some u := by
  obtain ⟨ad, c, rfl, hcl, hK, hc⟩ := Kd.C_get h (0, 0, (0, 0), (0, 0), 0, 0) (k : Int) (by omega) (by omega)
  have e := k8_open hK
  subst e
  have h0 := hc 0 _ rfl
  obtain ⟨ad', c', he, _, hK', hc'⟩ := Kd.C_get h (0, 0, (0, 0), (0, 0), 0, 0) 0 (by omega) (by omega)
  cases he
  have e' := k8_open hK'
  subst e'
  have h0' := hc' 0 _ rfl
  obtain ⟨_, _, _, _, hs⟩ := World.shape?_of_cell? h0'
  have hs' : ad.spot = none := by simpa [Addr.add] using hs
  obtain ⟨b, off, spot⟩ := ad
  simp only at hs'
  subst hs'
  have hlt := World.block_lt_of_cell? w _ h0
  have e8 : k8.sz = 8 := rfl
  have ea : ∀ n, (⟨b, off, none⟩ : Addr).add n = ⟨b, off + n, none⟩ := fun n => by unfold Addr.add; simp
  simp only [ea, e8, Int.toNat_natCast] at hc hlt
  exact ⟨b, off, _, rfl, hlt, fun j u hu => by rw [Nat.add_assoc]; exact hc j u (by simpa using hu)⟩
/-- The relation of the loop of acts. -/
def ActRel (w : World) (Bh : Nat) (n : Nat) (i : Value) (wr : World) : Prop := ∃ k : Nat, k ≤ n ∧ i = .int .i64 k ∧ ∃ okh L, H1 w wr Bh okh L
end Go.Proofs.Ytkhlfdcjgooogaa.P
