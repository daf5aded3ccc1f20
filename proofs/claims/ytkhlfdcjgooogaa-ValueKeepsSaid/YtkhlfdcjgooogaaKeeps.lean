/- chapter 9: what was set is got, and no other cell is another one; what is set in a copy is not set in the heap: ValueKeeps answers true for all acts, cells and numbers. No condition. -/
import Derived.Test.YtkhlfdcjgooogaaHKeeps
namespace Go.Proofs.Ytkhlfdcjgooogaa.P
open Go.RowKit Go.Proofs.YtkhlfdcjgooogaaW.PrintWords
theorem keeps_row (A : Option Addr) (c : Nat) (l : List A8) (a0 a1 i0 i1 n b0 b1 k0 k1 : Int) (w : World) (hr : Kd.C k8 w A l.length l) (_hc : l.length ≤ c) :
    Calls Try.prog 6 #[.slice A l.length c, .agg #[.int .i64 a0, .int .i64 a1], .agg #[.int .i64 i0, .int .i64 i1], .int .i64 n, .agg #[.int .i64 b0, .int .i64 b1], .agg #[.int .i64 k0, .int .i64 k1]] w fun e w' => e = .returned (.bool true) ∧ Below w.heap.size w w' := by
  by_cases h : 30 < l.length
  · exact keeps_long A c l a0 a1 i0 i1 n b0 b1 k0 k1 w hr.2.1 h
  · exact keeps_walk A c l a0 a1 i0 i1 n b0 b1 k0 k1 w hr (by omega)
end Go.Proofs.Ytkhlfdcjgooogaa.P
