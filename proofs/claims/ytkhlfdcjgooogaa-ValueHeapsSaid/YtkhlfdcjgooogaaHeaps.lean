/- chapter 9: after any acts what is got, what is raised, and all arrays, are as the document says: ValueHeaps answers true for all acts. No condition. -/
import Derived.Test.YtkhlfdcjgooogaaHHeaps
namespace Go.Proofs.Ytkhlfdcjgooogaa.P
open Go.RowKit Go.Proofs.YtkhlfdcjgooogaaW.PrintWords
theorem heaps_row (A : Option Addr) (c : Nat) (l : List A8) (w : World) (hr : Kd.C k8 w A l.length l) (_hc : l.length ≤ c) :
    Calls Try.prog 7 #[.slice A l.length c] w fun e w' => e = .returned (.bool true) ∧ Below w.heap.size w w' := by
  by_cases h : 40 < l.length
  · exact heaps_long A c l w hr.2.1 h
  · exact heaps_walk A c l w hr (by omega)
end Go.Proofs.Ytkhlfdcjgooogaa.P
