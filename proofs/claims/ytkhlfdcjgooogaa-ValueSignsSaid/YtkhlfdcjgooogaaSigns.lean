/- chapter 9: what operators tell of two values is as the document says: ValueSigns answers true for every text, all values and numbers. No condition. -/
import Derived.Test.YtkhlfdcjgooogaaHSigns
import Derived.Test.YtkhlfdcjgooogaaPureS
namespace Go.Proofs.Ytkhlfdcjgooogaa.P
theorem signs_row (s : ByteArray) (a0 a1 b0 b1 kind : Int) (w : World) (hs : s.size ≤ 140737488351232) :
    Calls Try.prog 3 #[.string s, .agg #[.int .i64 a0, .int .i64 a1], .agg #[.int .i64 b0, .int .i64 b1], .int .i64 kind] w fun e w' => e = .returned (.bool true) ∧ RowKit.Below w.heap.size w w' := by
  by_cases h : 100 < s.size
  · exact signs_long s a0 a1 b0 b1 kind w hs h
  · obtain ⟨⟨x0, x1, x2⟩, h1, h2⟩ := unary_eq s a0 a1
    obtain ⟨⟨u0, u1, u2, u3⟩, h3, h4⟩ := binary_eq s a0 a1 b0 b1
    exact signs_walk 9 s a0 a1 b0 b1 kind x0 x1 u0 u1 u2 x2 u3 w (by omega) h1 h2 h3 h4
end Go.Proofs.Ytkhlfdcjgooogaa.P
