/- tree.Right of a tree that is not sound: false. -/
import Derived.Test.YtpggidmpkhmijaaPf15
import Derived.Outline
import Derived.Lib.Hide
namespace Go.Proofs.Ytpggidmpkhmijaa.P
open Go.RowKit Go.Proofs.YtpggidmpkhmijaaW.PrintWords Go.Proofs.YtpggidmpkhmijaaW.PrintLast Go.Proofs.YtpggidmpkhmijaaW.PrintMore
set_option linter.unusedVariables false
set_option linter.unusedSimpArgs false
/-- Right, where the tree is not sound; elsewhere nothing is said. -/
def tree_Right.f (k : Nat) (l0_0 : List S24) (a0_1 : Int) : Option Bool := (tree_Sound.f l0_0 a0_1).bind fun t => if t = true then none else some false
theorem tree_Right.mono : ∀ a0 a1 k, LeO (tree_Right.f k a0 a1) (tree_Right.f (k + 1) a0 a1) := fun _ _ _ => LeO.refl _
set_option maxRecDepth 100000 in
set_option maxHeartbeats 2000000 in
theorem tree_Right.calls (k : Nat) (A0_0 : Option Addr) (c0_0 : Nat) (l0_0 : List S24) (a0_1 : Int) (r : Bool) (w : World) (hr0_0 : Kd.C k24 w A0_0 l0_0.length l0_0) (hc0_0 : l0_0.length ≤ c0_0) (h : tree_Right.f k l0_0 a0_1 = some r) :
    Calls Try.prog 19 #[.agg #[.slice A0_0 l0_0.length c0_0, .int .i64 a0_1]] w fun e w' => e = .returned (.bool r) ∧ Below w.heap.size w w' := by
  obtain ⟨rfl, hs⟩ : r = false ∧ tree_Sound.f l0_0 a0_1 = some false := by
    unfold tree_Right.f at h
    cases hx : tree_Sound.f l0_0 a0_1 with
    | none => rw [hx] at h; cases h
    | some t => rw [hx] at h; cases t <;> simp at h; exact ⟨h.symm ▸ rfl, rfl⟩
  clear h
  have hu30 := Try.underlying30
  have hu24 := Try.underlying24
  go_enter Try.func19, Try.ntmps19
  go_wp2_with fail
  refine (tree_Sound.calls A0_0 c0_0 l0_0 a0_1 false _ (Kd.C_alloc hr0_0 _) hc0_0 hs).mono ?_
  rintro e w1 ⟨rfl, hb1⟩
  have T1 := Aside0.mk (((Below.refl w.heap.size w).alloc (Nat.le_refl _) (.cells #[.slice A0_0 l0_0.length c0_0, .int .i64 a0_1] 30)).trans (hb1.mono (by simp)))
  go_wp2_with fail
  go_ret
  exact ⟨rfl, T1.out⟩
end Go.Proofs.Ytpggidmpkhmijaa.P
