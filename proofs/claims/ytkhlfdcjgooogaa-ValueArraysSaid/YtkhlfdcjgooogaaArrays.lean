/- chapter 9: a new array has as many noughts as were asked for, and is another one: ValueArrays answers true for all acts and numbers. No condition. -/
import Derived.Test.YtkhlfdcjgooogaaHArr
namespace Go.Proofs.Ytkhlfdcjgooogaa.P
open Go.RowKit Go.Proofs.YtkhlfdcjgooogaaW.PrintWords
theorem wf_range {a : Int} (ha : (Lit.int .i64 a).wf = true) : -9223372036854775808 ≤ a ∧ a ≤ 9223372036854775807 := by simpa [Lit.wf, IntKind.min, IntKind.max, IntKind.signed, IntKind.bits] using ha
theorem arrays_row (A : Option Addr) (c : Nat) (l : List A8) (n i : Int) (w : World) (hr : Kd.C k8 w A l.length l) (_hc : l.length ≤ c) (_hn : (Lit.int .i64 n).wf = true) (hi : (Lit.int .i64 i).wf = true) :
    Calls Try.prog 5 #[.slice A l.length c, .int .i64 n, .int .i64 i] w fun e w' => e = .returned (.bool true) ∧ Below w.heap.size w w' := by
  by_cases h : 30 < l.length ∨ 65536 < n
  · exact arrs_long A c l n i w hr.2.1 h
  · exact arrs_walk A c l n i w hr (by omega) (by omega) (wf_range hi).1 (wf_range hi).2
end Go.Proofs.Ytkhlfdcjgooogaa.P
