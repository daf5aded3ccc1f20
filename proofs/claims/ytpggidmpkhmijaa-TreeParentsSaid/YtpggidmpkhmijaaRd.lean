/- How chapter 4's arguments (nodes, trees, lists of trees) are read. -/
import Derived.Test.YtpggidmpkhmijaaP0
import Derived.Test.YtpggidmpkhmijaaOpen
namespace Go.Proofs.Ytpggidmpkhmijaa.P
open Go.RowKit Go.ChangeShapes Go.WideShapes Go.ChangeAt Go.Deep Go.Proofs.YtpggidmpkhmijaaW.PrintWords Go.Proofs.Ytpggidmpkhmijaa.Op
def W64 (a : Int) : Prop := (Lit.int .i64 a).wf = true
def G24 (x : S24) : Prop := W64 x.f0 ∧ W64 x.f1 ∧ W64 x.f2 ∧ x.f3.size ≤ maxLen ∧ x.f4.length ≤ maxLen ∧ ∀ a ∈ x.f4, W64 a
def G30 (x : S30) : Prop := (x.f0.length ≤ maxLen ∧ ∀ a ∈ x.f0, G24 a) ∧ W64 x.f1
theorem cellsOf24 : Try.prog.cellsOf 24 = 5 := by kernel_rfl
theorem cellsOf30 : Try.prog.cellsOf 30 = 2 := by kernel_rfl
theorem cellsOf3 : Try.prog.cellsOf 3 = 1 := by kernel_rfl
theorem cellsOf9 : Try.prog.cellsOf 9 = 1 := by kernel_rfl
theorem cellsOf22 : Try.prog.cellsOf 22 = 1 := by kernel_rfl
theorem cellsOf28 : Try.prog.cellsOf 28 = 1 := by kernel_rfl
theorem rd22 : Rd Try.prog 22 (Kd.slice 3 (Kd.int .i64)) (fun xs => xs.length ≤ maxLen ∧ ∀ a ∈ xs, W64 a) := Rd.slice Try.underlying22 cellsOf3 (Rd.int Try.underlying3)
theorem rd24 : Rd Try.prog 24 k24 G24 := fun H enc w fuel cs x h => by
  obtain ⟨xs, n, _, _, hlen, hxl, hg⟩ := DataW.trod_struct Try.underlying24 h
  rw [cellsOf24] at hlen
  have hs : ∀ j, j < 5 → (xs[j]?).isSome = true := fun j hj => by
    rw [List.getElem?_eq_getElem (by rw [hxl]; exact hj)]; rfl
  obtain ⟨a0, h0, g0⟩ := Rd.field (Rd.int Try.underlying3) cellsOf3 _ (hs 0 (by decide)) (hg 0 _ rfl)
  obtain ⟨a1, h1, g1⟩ := Rd.field (Rd.int Try.underlying3) cellsOf3 _ (hs 1 (by decide)) (hg 1 _ rfl)
  obtain ⟨a2, h2, g2⟩ := Rd.field (Rd.int Try.underlying3) cellsOf3 _ (hs 2 (by decide)) (hg 2 _ rfl)
  obtain ⟨a3, h3, g3⟩ := Rd.field (Rd.string Try.underlying9) cellsOf9 _ (hs 3 (by decide)) (hg 3 _ rfl)
  obtain ⟨a4, h4, g4⟩ := Rd.field rd22 cellsOf22 _ (hs 4 (by decide)) (hg 4 _ rfl)
  exact ⟨⟨a0, a1, a2, a3, a4⟩, pairK 0 h0 (pairK 1 h1 (pairK 2 h2 (pairK 3 h3 (lastK 4 hlen h4)))), g0, g1, g2, g3, g4.1, g4.2⟩
theorem rd28 : Rd Try.prog 28 (Kd.slice 24 k24) (fun xs => xs.length ≤ maxLen ∧ ∀ a ∈ xs, G24 a) := Rd.slice Try.underlying28 cellsOf24 rd24
theorem rd30 : Rd Try.prog 30 k30 G30 := fun H enc w fuel cs x h => by
  obtain ⟨xs, n, _, _, hlen, hxl, hg⟩ := DataW.trod_struct Try.underlying30 h
  rw [cellsOf30] at hlen
  have hs : ∀ j, j < 2 → (xs[j]?).isSome = true := fun j hj => by
    rw [List.getElem?_eq_getElem (by rw [hxl]; exact hj)]; rfl
  obtain ⟨a0, h0, g0⟩ := Rd.field rd28 cellsOf28 _ (hs 0 (by decide)) (hg 0 _ rfl)
  obtain ⟨a1, h1, g1⟩ := Rd.field (Rd.int Try.underlying3) cellsOf3 _ (hs 1 (by decide)) (hg 1 _ rfl)
  exact ⟨⟨a0, a1⟩, pairK 0 h0 (lastK 1 hlen h1), g0, g1⟩
theorem rd25 : Rd Try.prog 25 (Kd.slice 30 k30) (fun xs => xs.length ≤ maxLen ∧ ∀ a ∈ xs, G30 a) := Rd.slice Try.underlying25 cellsOf30 rd30
end Go.Proofs.Ytpggidmpkhmijaa.P
