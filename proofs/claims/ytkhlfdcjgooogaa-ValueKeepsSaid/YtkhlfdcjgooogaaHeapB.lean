/- value.Heap: array, cell, Get, Set, Len, Cells: their contracts. -/
import Derived.Test.YtkhlfdcjgooogaaHeapA
import Derived.Deep.RegionHeld3
import Derived.BigQuiet
namespace Go.Proofs.Ytkhlfdcjgooogaa.P
open Go.RowKit Go.Proofs.YtkhlfdcjgooogaaW.PrintWords Go.Proofs.YtkhlfdcjgooogaaW.PrintLast Go.Proofs.YtkhlfdcjgooogaaW.PrintMore
set_option linter.unusedVariables false
set_option linter.unusedSimpArgs false
theorem below_drewN {b n : Nat} {w w' : World} (h : Below b w w') : Below b w (w'.drewN n) := by
  exact ⟨h.os, h.tape, h.output, h.size, h.block⟩
theorem bcell {W w1 : World} (hb : Below W.heap.size W w1) : (∀ b o, b < W.heap.size → w1.cell? ⟨b, o, none⟩ = W.cell? ⟨b, o, none⟩) ∧ (∀ b o, b < W.heap.size → w1.frozen? ⟨b, o, none⟩ = W.frozen? ⟨b, o, none⟩) :=
  ⟨fun b o h => hb.cell (p := ⟨b, o, none⟩) h, fun b o h => hb.frozen (p := ⟨b, o, none⟩) h⟩
theorem below_trans {W W1 W2 : World} (h1 : Below W.heap.size W W1) (h2 : Below W1.heap.size W1 W2) : Below W.heap.size W W2 := h1.trans (h2.mono h1.size)
set_option maxRecDepth 100000 in
set_option maxHeartbeats 2000000 in
/-- array, of what is none. -/
theorem array_no1 (B : Nat) (A : Option Addr) (l c : Nat) (x : Value) (a n : Int) (w : World) (hB : w.heap[B]? = some (.cells #[.slice A l c, x] 47 (0, 0))) (hl : l ≤ 1000000) (h3 : a ≠ 3) :
    Calls Try.prog 47 #[.pointer (some ⟨B, 0, none⟩), .agg #[.int .i64 a, .int .i64 n]] w fun e w' => e = .returned (.tuple #[.slice none 0 0, .bool false]) ∧ Below w.heap.size w w' := by
  have b0 := blk_cell hB 0
  have hlt := blk_lt hB
  have d1 : (a != 3) = true := by simp [h3]
  clear h3 hB
  go_enter Try.func47, Try.ntmps47
  go_wp2_with fail
  go_quiet (fail)
  go_wp2_with fail
  go_ret2
  exact ⟨rfl, below_drewN ((Below.refl _ _).alloc (Nat.le_refl _) _)⟩
set_option maxRecDepth 100000 in
set_option maxHeartbeats 2000000 in
theorem array_no2 (B : Nat) (A : Option Addr) (l c : Nat) (x : Value) (n : Int) (w : World) (hB : w.heap[B]? = some (.cells #[.slice A l c, x] 47 (0, 0))) (hl : l ≤ 1000000) (h1 : n < 1) :
    Calls Try.prog 47 #[.pointer (some ⟨B, 0, none⟩), .agg #[.int .i64 3, .int .i64 n]] w fun e w' => e = .returned (.tuple #[.slice none 0 0, .bool false]) ∧ Below w.heap.size w w' := by
  have b0 := blk_cell hB 0
  have hlt := blk_lt hB
  have d2 : decide (n < 1) = true := by simp [h1]
  clear h1 hB
  go_enter Try.func47, Try.ntmps47
  go_wp2_with fail
  go_quiet (fail)
  go_wp2_with fail
  go_ret2
  exact ⟨rfl, below_drewN ((Below.refl _ _).alloc (Nat.le_refl _) _)⟩
set_option maxRecDepth 100000 in
set_option maxHeartbeats 2000000 in
theorem array_no3 (B : Nat) (A : Option Addr) (l c : Nat) (x : Value) (n : Int) (w : World) (hB : w.heap[B]? = some (.cells #[.slice A l c, x] 47 (0, 0))) (hl : l ≤ 1000000) (h1 : 1 ≤ n) (h2 : (l : Int) < n) :
    Calls Try.prog 47 #[.pointer (some ⟨B, 0, none⟩), .agg #[.int .i64 3, .int .i64 n]] w fun e w' => e = .returned (.tuple #[.slice none 0 0, .bool false]) ∧ Below w.heap.size w w' := by
  have b0 := blk_cell hB 0
  have hlt := blk_lt hB
  have d2 : decide (n < 1) = false := by simp; omega
  have d3 : decide ((l : Int) < n) = true := by simp; omega
  clear h1 h2 hB
  go_enter Try.func47, Try.ntmps47
  go_wp2_with fail
  go_quiet (fail)
  go_wp2_with fail
  go_ret2
  exact ⟨rfl, below_drewN ((Below.refl _ _).alloc (Nat.le_refl _) _)⟩
set_option maxRecDepth 100000 in
set_option maxHeartbeats 2000000 in
/-- array, of one of the heap's. -/
theorem array_yes (B g l c : Nat) (x : Value) (a1 : Option Addr) (l1 c1 : Nat) (n : Int) (w : World) (hB : w.heap[B]? = some (.cells #[.slice (some ⟨g, 0, none⟩) l c, x] 47 (0, 0))) (hl : l ≤ 1000000) (h1 : 1 ≤ n) (h2 : n ≤ (l : Int)) (hg : g < w.heap.size) (hc : w.cell? ⟨g, n.toNat - 1, none⟩ = some (.slice a1 l1 c1)) :
    Calls Try.prog 47 #[.pointer (some ⟨B, 0, none⟩), .agg #[.int .i64 3, .int .i64 n]] w fun e w' => e = .returned (.tuple #[.slice a1 l1 c1, .bool true]) ∧ Below w.heap.size w w' := by
  have b0 := blk_cell hB 0
  have hlt := blk_lt hB
  have d2 : decide (n < 1) = false := by simp; omega
  have d3 : decide ((l : Int) < n) = false := by simp; omega
  have hw : IntKind.i64.wrap (n - 1) = n - 1 := IntWalk.i64_in _ (by omega)
  have hn0 : 0 ≤ n - 1 := by omega
  have hn1 : n - 1 < (l : Int) := by omega
  clear hB
  go_enter Try.func47, Try.ntmps47
  go_wp2_with fail
  go_quiet (fail)
  go_wp2_with fail
  go_quiet (fail)
  go_wp2_with fail
  go_ret2
  exact ⟨rfl, below_drewN (below_drewN ((Below.refl _ _).alloc (Nat.le_refl _) _))⟩

/-- Is it an array of the heap's? -/
def isB (L : List (List Int)) (a n : Int) : Bool := decide (a = 3 ∧ 1 ≤ n ∧ n ≤ (L.length : Int))
def arrAt (L : List (List Int)) (n : Int) : List Int := L.getD (n - 1).toNat []
theorem array_no {w : World} {B : Nat} {ok : Nat → Prop} {L : List (List Int)} {v x : Value} {gs : List (Nat × Nat)} (hB : w.heap[B]? = some (.cells #[v, x] 47 (0, 0))) (hA : Arrs w ok v gs L) (hl : L.length ≤ 1000000) (a n : Int) (h : isB L a n = false) :
    Calls Try.prog 47 #[.pointer (some ⟨B, 0, none⟩), .agg #[.int .i64 a, .int .i64 n]] w fun e w' => e = .returned (.tuple #[.slice none 0 0, .bool false]) ∧ Below w.heap.size w w' := by
  obtain ⟨A, c, rfl, _⟩ := hA.get
  have h' : ¬ (a = 3 ∧ 1 ≤ n ∧ n ≤ (L.length : Int)) := of_decide_eq_false h
  by_cases h3 : a = 3
  · subst h3
    by_cases h1 : n < 1
    · exact array_no2 B A _ c x n w hB hl h1
    · exact array_no3 B A _ c x n w hB hl (by omega) (by omega)
  · exact array_no1 B A _ c x a n w hB hl h3
theorem array_is {w : World} {B g l c d m q : Nat} {x : Value} (n : Int) (hB : w.heap[B]? = some (.cells #[.slice (some ⟨g, 0, none⟩) l c, x] 47 (0, 0))) (hl : l ≤ 1000000) (h1 : 1 ≤ n) (h2 : n ≤ (l : Int)) (hg : g < w.heap.size) (hc : w.cell? ⟨g, n.toNat - 1, none⟩ = some (.slice (some ⟨d, 0, none⟩) m q)) :
    Calls Try.prog 47 #[.pointer (some ⟨B, 0, none⟩), .agg #[.int .i64 3, .int .i64 n]] w fun e w' => e = .returned (.tuple #[.slice (some ⟨d, 0, none⟩) m q, .bool true]) ∧ Below w.heap.size w w' := array_yes B g l c x _ m q n w hB hl h1 h2 hg hc
set_option maxRecDepth 100000 in
set_option maxHeartbeats 2000000 in
theorem cell_missing {w : World} {B : Nat} {ok : Nat → Prop} {L : List (List Int)} {v x : Value} {gs : List (Nat × Nat)} (hB : w.heap[B]? = some (.cells #[v, x] 47 (0, 0))) (hA : Arrs w ok v gs L) (hl : L.length ≤ 1000000) (a n k i : Int) (h : isB L a n = false) :
    Calls Try.prog 46 #[.pointer (some ⟨B, 0, none⟩), .agg #[.int .i64 a, .int .i64 n], .agg #[.int .i64 k, .int .i64 i]] w fun e w' => e = .returned (.tuple #[.pointer none, .int .i64 3]) ∧ Below w.heap.size w w' := by
  have hB1 : ((w.alloc (.cells #[.int .i64 a, .int .i64 n] 23)).alloc (.cells #[.int .i64 k, .int .i64 i] 23)).heap[B]? = some (.cells #[v, x] 47 (0, 0)) := blk_alloc (blk_alloc hB _) _
  have hb0 : Below w.heap.size w ((w.alloc (.cells #[.int .i64 a, .int .i64 n] 23)).alloc (.cells #[.int .i64 k, .int .i64 i] 23)) := below_alloc (below_alloc (Below.refl _ _) _) _
  have hA1 := hA.step (W' := (w.alloc (.cells #[.int .i64 a, .int .i64 n] 23)).alloc (.cells #[.int .i64 k, .int .i64 i] 23)) (fun k hk _ => hb0.block k hk)
  have H := Lib.hid (array_no hB1 hA1 hl a n h)
  clear h hA hB hA1 hB1
  go_enter Try.func46, Try.ntmps46
  go_wp2_with (go_at_call 47; refine H.out.mono ?_; rintro e w1 ⟨rfl, hb⟩)
  go_ret2
  exact ⟨rfl, below_step hb0 hb⟩
set_option maxRecDepth 100000 in
set_option maxHeartbeats 2000000 in
theorem cell_range1 {w : World} {B g l c d m q : Nat} {x : Value} (n k i : Int) (hB : w.heap[B]? = some (.cells #[.slice (some ⟨g, 0, none⟩) l c, x] 47 (0, 0))) (hl : l ≤ 1000000) (h1 : 1 ≤ n) (h2 : n ≤ (l : Int)) (hg : g < w.heap.size) (hc : w.cell? ⟨g, n.toNat - 1, none⟩ = some (.slice (some ⟨d, 0, none⟩) m q)) (hm : m ≤ 1000000) (hr : k ≠ 1 ∨ i < 0 ∨ (m : Int) ≤ i) :
    Calls Try.prog 46 #[.pointer (some ⟨B, 0, none⟩), .agg #[.int .i64 3, .int .i64 n], .agg #[.int .i64 k, .int .i64 i]] w fun e w' => e = .returned (.tuple #[.pointer none, .int .i64 2]) ∧ Below w.heap.size w w' := by
  have hB1 : ((w.alloc (.cells #[.int .i64 3, .int .i64 n] 23)).alloc (.cells #[.int .i64 k, .int .i64 i] 23)).heap[B]? = some (.cells #[.slice (some ⟨g, 0, none⟩) l c, x] 47 (0, 0)) := blk_alloc (blk_alloc hB _) _
  have hb0 : Below w.heap.size w ((w.alloc (.cells #[.int .i64 3, .int .i64 n] 23)).alloc (.cells #[.int .i64 k, .int .i64 i] 23)) := below_alloc (below_alloc (Below.refl _ _) _) _
  have hc1 : ((w.alloc (.cells #[.int .i64 3, .int .i64 n] 23)).alloc (.cells #[.int .i64 k, .int .i64 i] 23)).cell? ⟨g, n.toNat - 1, none⟩ = some (.slice (some ⟨d, 0, none⟩) m q) := pw_cell_below hb0 hc
  have H := Lib.hid (array_is n hB1 hl h1 h2 (by simp; omega) hc1)
  clear hc hB hc1 hB1 h1 h2
  by_cases h1 : k = 1
  · subst h1
    by_cases h2 : i < 0
    · have d2 : decide (i < 0) = true := by simp [h2]
      clear hr h2
      go_enter Try.func46, Try.ntmps46
      go_wp2_with (go_at_call 47; refine H.out.mono ?_; rintro e w1 ⟨rfl, hb⟩; obtain ⟨hbc, hbf⟩ := bcell hb)
      go_ret2
      exact ⟨rfl, below_step hb0 hb⟩
    · have h3 : (m : Int) ≤ i := by omega
      have d2 : decide (i < 0) = false := by simp; omega
      clear hr h2
      go_enter Try.func46, Try.ntmps46
      go_wp2_with (go_at_call 47; refine H.out.mono ?_; rintro e w1 ⟨rfl, hb⟩; obtain ⟨hbc, hbf⟩ := bcell hb)
      go_ret2
      exact ⟨rfl, below_step hb0 hb⟩
  · have d1 : (k == 1) = false := by simp [h1]
    have d2 : (k != 1) = true := by simp [h1]
    clear hr h1
    go_enter Try.func46, Try.ntmps46
    go_wp2_with (go_at_call 47; refine H.out.mono ?_; rintro e w1 ⟨rfl, hb⟩; obtain ⟨hbc, hbf⟩ := bcell hb)
    go_ret2
    exact ⟨rfl, below_step hb0 hb⟩
end Go.Proofs.Ytkhlfdcjgooogaa.P
