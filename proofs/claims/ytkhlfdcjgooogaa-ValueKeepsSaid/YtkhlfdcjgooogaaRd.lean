/- How chapter 9's arguments (values, acts) are read. -/
import Derived.Test.YtkhlfdcjgooogaaP0
import Derived.Test.YtkhlfdcjgooogaaOpen
namespace Go.Proofs.Ytkhlfdcjgooogaa.P
open Go.RowKit Go.ChangeShapes Go.WideShapes Go.ChangeAt Go.Deep Go.Proofs.YtkhlfdcjgooogaaW.PrintWords Go.Proofs.Ytkhlfdcjgooogaa.Op
def W64 (a : Int) : Prop := (Lit.int .i64 a).wf = true
structure S23 where
  f0 : Int
  f1 : Int
theorem cellsOf23 : Try.prog.cellsOf 23 = 2 := by kernel_rfl
theorem cellsOf3 : Try.prog.cellsOf 3 = 1 := by kernel_rfl
theorem cellsOf53 : Try.prog.cellsOf 53 = 8 := by kernel_rfl
def k2 : Kd (Int × Int) := Kd.pair (Kd.int .i64) (Kd.int .i64)
def G23 (x : S23) : Prop := W64 x.f0 ∧ W64 x.f1
theorem int_one {w : World} {a : Int} {cs : List Value} (h : (Kd.int .i64).K w a cs) : cs = [.int .i64 a] := h
theorem rd2 : Rd Try.prog 23 k2 (fun x => W64 x.1 ∧ W64 x.2) := fun H enc w fuel cs x h => by
  obtain ⟨xs, n, _, _, hlen, hxl, hg⟩ := DataW.trod_struct Try.underlying23 h
  rw [cellsOf23] at hlen
  have hs : ∀ j, j < 2 → (xs[j]?).isSome = true := fun j hj => by
    rw [List.getElem?_eq_getElem (by rw [hxl]; exact hj)]; rfl
  obtain ⟨a0, h0, g0⟩ := Rd.field (Rd.int Try.underlying3) cellsOf3 _ (hs 0 (by decide)) (hg 0 _ rfl)
  obtain ⟨a1, h1, g1⟩ := Rd.field (Rd.int Try.underlying3) cellsOf3 _ (hs 1 (by decide)) (hg 1 _ rfl)
  exact ⟨(a0, a1), pairK 0 h0 (lastK 1 hlen h1), g0, g1⟩
theorem k2_open {w : World} {x : Int × Int} {cs : List Value} (h : k2.K w x cs) : cs = [.int .i64 x.1, .int .i64 x.2] := by
  obtain ⟨c0, c1, rfl, h0, h1⟩ := h
  rw [int_one h0, int_one h1]
  rfl
/-- An argument of type Value. -/
theorem rd23 (H : Type) (enc : TypeId × Value → H) (w : World) (fuel : Nat) (cs : List Value) (x : DataW H × List MemPlace) (h : DataW.trod enc Try.prog w 0 (fun _ => true) true fuel 23 cs = some x) : ∃ a : S23, cs = [.int .i64 a.f0, .int .i64 a.f1] ∧ G23 a := by
  obtain ⟨a, h1, h2⟩ := rd2 H enc w fuel cs x h
  exact ⟨⟨a.1, a.2⟩, k2_open h1, h2⟩
theorem k23_open {x : S23} {cs : List Value} (h : cs = [.int .i64 x.f0, .int .i64 x.f1]) : cs = [.int .i64 x.f0, .int .i64 x.f1] := h
/-- An act: eight numbers. -/
abbrev A8 := Int × Int × (Int × Int) × (Int × Int) × (Int × Int)
def k8 : Kd A8 := Kd.pair (Kd.int .i64) (Kd.pair (Kd.int .i64) (Kd.pair k2 (Kd.pair k2 k2)))
def G8 (x : A8) : Prop := W64 x.1 ∧ W64 x.2.1 ∧ (W64 x.2.2.1.1 ∧ W64 x.2.2.1.2) ∧ (W64 x.2.2.2.1.1 ∧ W64 x.2.2.2.1.2) ∧ (W64 x.2.2.2.2.1 ∧ W64 x.2.2.2.2.2)
theorem rd53 : Rd Try.prog 53 k8 G8 := fun H enc w fuel cs x h => by
  obtain ⟨xs, n, _, _, hlen, hxl, hg⟩ := DataW.trod_struct Try.underlying53 h
  rw [cellsOf53] at hlen
  have hs : ∀ j, j < 5 → (xs[j]?).isSome = true := fun j hj => by
    rw [List.getElem?_eq_getElem (by rw [hxl]; exact hj)]; rfl
  obtain ⟨a0, h0, g0⟩ := Rd.field (Rd.int Try.underlying3) cellsOf3 _ (hs 0 (by decide)) (hg 0 _ rfl)
  obtain ⟨a1, h1, g1⟩ := Rd.field (Rd.int Try.underlying3) cellsOf3 _ (hs 1 (by decide)) (hg 1 _ rfl)
  obtain ⟨a2, h2, g2⟩ := Rd.field rd2 cellsOf23 _ (hs 2 (by decide)) (hg 2 _ rfl)
  obtain ⟨a3, h3, g3⟩ := Rd.field rd2 cellsOf23 _ (hs 3 (by decide)) (hg 3 _ rfl)
  obtain ⟨a4, h4, g4⟩ := Rd.field rd2 cellsOf23 _ (hs 4 (by decide)) (hg 4 _ rfl)
  exact ⟨(a0, a1, a2, a3, a4), pairK 0 h0 (pairK 1 h1 (pairK 2 h2 (pairK 4 h3 (lastK 6 hlen h4)))), g0, g1, g2, g3, g4⟩
theorem rd38 : Rd Try.prog 38 (Kd.slice 53 k8) (fun xs => xs.length ≤ maxLen ∧ ∀ a ∈ xs, G8 a) := Rd.slice Try.underlying38 cellsOf53 rd53
end Go.Proofs.Ytkhlfdcjgooogaa.P
