/- value.Heap: cell, Get, Set, Len: their contracts. -/
import Derived.Test.YtkhlfdcjgooogaaHeapB
import Derived.Test.YtkhlfdcjgooogaaPf33
namespace Go.Proofs.Ytkhlfdcjgooogaa.P
open Go.RowKit Go.Proofs.YtkhlfdcjgooogaaW.PrintWords Go.Proofs.YtkhlfdcjgooogaaW.PrintLast Go.Proofs.YtkhlfdcjgooogaaW.PrintMore
set_option linter.unusedVariables false
set_option linter.unusedSimpArgs false
def wrongF (L : List (List Int)) (a n k i : Int) : Int := if isB L a n = false then 3 else if k ≠ 1 ∨ i < 0 ∨ ((arrAt L n).length : Int) ≤ i then 2 else 0
/-- What a heap's memory says of one of its arrays. -/
structure One (w : World) (v : Value) (L : List (List Int)) (n : Int) (g l c d m q : Nat) : Prop where
  hv : v = .slice (some ⟨g, 0, none⟩) l c
  hl : l ≤ 1000000
  h1 : 1 ≤ n
  h2 : n ≤ (l : Int)
  hg : g < w.heap.size
  hc : w.cell? ⟨g, n.toNat - 1, none⟩ = some (.slice (some ⟨d, 0, none⟩) m q)
  hm : m ≤ 1000000
set_option maxRecDepth 100000 in
set_option maxHeartbeats 2000000 in
theorem cell_ok {w : World} {B g l c d m q : Nat} {x : Value} (n i : Int) (hB : w.heap[B]? = some (.cells #[.slice (some ⟨g, 0, none⟩) l c, x] 47 (0, 0))) (hl : l ≤ 1000000) (h1 : 1 ≤ n) (h2 : n ≤ (l : Int)) (hg : g < w.heap.size) (hc : w.cell? ⟨g, n.toNat - 1, none⟩ = some (.slice (some ⟨d, 0, none⟩) m q)) (hm : m ≤ 1000000) (hi0 : 0 ≤ i) (him : i < (m : Int)) :
    Calls Try.prog 46 #[.pointer (some ⟨B, 0, none⟩), .agg #[.int .i64 3, .int .i64 n], .agg #[.int .i64 1, .int .i64 i]] w fun e w' => e = .returned (.tuple #[.pointer (some ⟨d, i.toNat, none⟩), .int .i64 0]) ∧ Below w.heap.size w w' := by
  have hB1 : ((w.alloc (.cells #[.int .i64 3, .int .i64 n] 23)).alloc (.cells #[.int .i64 1, .int .i64 i] 23)).heap[B]? = some (.cells #[.slice (some ⟨g, 0, none⟩) l c, x] 47 (0, 0)) := blk_alloc (blk_alloc hB _) _
  have hb0 : Below w.heap.size w ((w.alloc (.cells #[.int .i64 3, .int .i64 n] 23)).alloc (.cells #[.int .i64 1, .int .i64 i] 23)) := below_alloc (below_alloc (Below.refl _ _) _) _
  have hc1 : ((w.alloc (.cells #[.int .i64 3, .int .i64 n] 23)).alloc (.cells #[.int .i64 1, .int .i64 i] 23)).cell? ⟨g, n.toNat - 1, none⟩ = some (.slice (some ⟨d, 0, none⟩) m q) := pw_cell_below hb0 hc
  have H := Lib.hid (array_is n hB1 hl h1 h2 (by simp; omega) hc1)
  clear hc hB hc1 hB1 h1 h2
  have d2 : decide (i < 0) = false := by simp; omega
  have d3 : decide ((m : Int) ≤ i) = false := by simp; omega
  go_enter Try.func46, Try.ntmps46
  go_wp2_with (go_at_call 47; refine H.out.mono ?_; rintro e w1 ⟨rfl, hb⟩; obtain ⟨hbc, hbf⟩ := bcell hb)
  go_ret2
  exact ⟨rfl, below_step hb0 hb⟩
theorem le2 (n : Nat) : n ≤ n + 1 + 1 := by omega
theorem blk_third {w w1 : World} {o1 o2 o3 : Obj} (hb : Below (((w.alloc o1).alloc o2).alloc o3).heap.size (((w.alloc o1).alloc o2).alloc o3) w1) : w1.heap[w.heap.size + 1 + 1]? = some o3 := by
  have h := heap_alloc_new ((w.alloc o1).alloc o2) o3
  have e : ((w.alloc o1).alloc o2).heap.size = w.heap.size + 1 + 1 := by simp
  rw [e] at h
  exact blk_below h hb
set_option maxRecDepth 100000 in
set_option maxHeartbeats 2000000 in
/-- Get, where something is raised. -/
theorem get_err {w : World} {B : Nat} (a n k i r : Int) (hr : r = 2 ∨ r = 3) (hcell : ∀ w1, Below w.heap.size w w1 → Calls Try.prog 46 #[.pointer (some ⟨B, 0, none⟩), .agg #[.int .i64 a, .int .i64 n], .agg #[.int .i64 k, .int .i64 i]] w1 fun e w' => e = .returned (.tuple #[.pointer none, .int .i64 r]) ∧ Below w1.heap.size w1 w') :
    Calls Try.prog 21 #[.pointer (some ⟨B, 0, none⟩), .agg #[.int .i64 a, .int .i64 n], .agg #[.int .i64 k, .int .i64 i]] w fun e w' => e = .returned (.tuple #[.agg #[.int .i64 0, .int .i64 0], .int .i64 r]) ∧ Below w.heap.size w w' := by
  have hb0 : Below w.heap.size w (((w.alloc (.cells #[.int .i64 a, .int .i64 n] 23)).alloc (.cells #[.int .i64 k, .int .i64 i] 23)).alloc (.cells #[.int .i64 0, .int .i64 0] 23)) := below_alloc (below_alloc (below_alloc (Below.refl _ _) _) _) _
  have H := Lib.hid (hcell _ hb0)
  have d : (r != 0) = true := by rcases hr with rfl | rfl <;> rfl
  clear hcell hr
  go_enter Try.func21, Try.ntmps21
  go_wp2_with (go_at_call 46; refine H.out.mono ?_; rintro e w1 ⟨rfl, hb⟩; obtain ⟨hbc, hbf⟩ := bcell hb)
  have BK := blk_third hb
  refine bodyPost_ret (results_ct rfl _ _ (w.heap.size + 1 + 1) 23 #[.int .i64 0, .int .i64 0] (0, 0) _ rfl (blk_put (blk_put BK 0 _ rfl) 1 _ rfl) Try.underlying23 rfl (by kernel_rfl)) rfl ?_
  exact ⟨rfl, ((below_step hb0 hb).setCell (le2 _) _).setCell (le2 _) _⟩
set_option maxRecDepth 100000 in
set_option maxHeartbeats 2000000 in
/-- Get, of a cell. -/
theorem get_is {w : World} {B d : Nat} (a n k i : Int) (j : Nat) (u : Int) (hd : d < w.heap.size) (hu : w.cell? ⟨d, j, none⟩ = some (.int .i64 u)) (hcell : ∀ w1, Below w.heap.size w w1 → Calls Try.prog 46 #[.pointer (some ⟨B, 0, none⟩), .agg #[.int .i64 a, .int .i64 n], .agg #[.int .i64 k, .int .i64 i]] w1 fun e w' => e = .returned (.tuple #[.pointer (some ⟨d, j, none⟩), .int .i64 0]) ∧ Below w1.heap.size w1 w') :
    Calls Try.prog 21 #[.pointer (some ⟨B, 0, none⟩), .agg #[.int .i64 a, .int .i64 n], .agg #[.int .i64 k, .int .i64 i]] w fun e w' => e = .returned (.tuple #[.agg #[.int .i64 1, .int .i64 u], .int .i64 0]) ∧ Below w.heap.size w w' := by
  have hb0 : Below w.heap.size w (((w.alloc (.cells #[.int .i64 a, .int .i64 n] 23)).alloc (.cells #[.int .i64 k, .int .i64 i] 23)).alloc (.cells #[.int .i64 0, .int .i64 0] 23)) := below_alloc (below_alloc (below_alloc (Below.refl _ _) _) _) _
  have H := Lib.hid (hcell _ hb0)
  have hu1 := Lib.hid (pw_cell_below hb0 hu)
  clear hcell hu
  go_enter Try.func21, Try.ntmps21
  go_wp2_with (first | (go_at_call 46; refine H.out.mono ?_; rintro e w1 ⟨rfl, hb⟩; have hu2 := pw_cell_below hb hu1.out; obtain ⟨hbc, hbf⟩ := bcell hb; have hz : w.heap.size + 1 + 1 < w1.heap.size := (by have := hb.size; simp at this; omega)) | (go_at_call 33; refine (value_number.calls u 1 u _ rfl).mono ?_; rintro e w2 ⟨rfl, hb2⟩; obtain ⟨hbc2, hbf2⟩ := bcell hb2))
  have BK := blk_below (blk_third hb) hb2
  refine bodyPost_ret (results_ct rfl _ _ (w.heap.size + 1 + 1) 23 #[.int .i64 1, .int .i64 u] (0, 0) _ rfl (blk_put (blk_put BK 0 _ rfl) 1 _ rfl) Try.underlying23 rfl (by kernel_rfl)) rfl ?_
  exact ⟨rfl, ((below_step (below_step hb0 hb) hb2).setCell (le2 _) _).setCell (le2 _) _⟩
set_option maxRecDepth 100000 in
set_option maxHeartbeats 2000000 in
/-- Set, where something is raised. -/
theorem set_err {w : World} {B : Nat} (a n k i s x r : Int) (hr : r = 2 ∨ r = 3) (hcell : ∀ w1, Below w.heap.size w w1 → Calls Try.prog 46 #[.pointer (some ⟨B, 0, none⟩), .agg #[.int .i64 a, .int .i64 n], .agg #[.int .i64 k, .int .i64 i]] w1 fun e w' => e = .returned (.tuple #[.pointer none, .int .i64 r]) ∧ Below w1.heap.size w1 w') :
    Calls Try.prog 24 #[.pointer (some ⟨B, 0, none⟩), .agg #[.int .i64 a, .int .i64 n], .agg #[.int .i64 k, .int .i64 i], .agg #[.int .i64 s, .int .i64 x]] w fun e w' => e = .returned (.int .i64 r) ∧ Below w.heap.size w w' := by
  have hb0 : Below w.heap.size w (((w.alloc (.cells #[.int .i64 a, .int .i64 n] 23)).alloc (.cells #[.int .i64 k, .int .i64 i] 23)).alloc (.cells #[.int .i64 s, .int .i64 x] 23)) := below_alloc (below_alloc (below_alloc (Below.refl _ _) _) _) _
  have H := Lib.hid (hcell _ hb0)
  have d : (r == 0) = false := by rcases hr with rfl | rfl <;> rfl
  clear hcell hr
  go_enter Try.func24, Try.ntmps24
  go_wp2_with (go_at_call 46; refine H.out.mono ?_; rintro e w1 ⟨rfl, hb⟩; obtain ⟨hbc, hbf⟩ := bcell hb)
  go_ret
  exact ⟨rfl, below_step hb0 hb⟩
set_option maxRecDepth 100000 in
set_option maxHeartbeats 2000000 in
/-- Set, of what is no number. -/
theorem set_nop {w : World} {B d j : Nat} (a n k i s x : Int) (hs : s ≠ 1) (hcell : ∀ w1, Below w.heap.size w w1 → Calls Try.prog 46 #[.pointer (some ⟨B, 0, none⟩), .agg #[.int .i64 a, .int .i64 n], .agg #[.int .i64 k, .int .i64 i]] w1 fun e w' => e = .returned (.tuple #[.pointer (some ⟨d, j, none⟩), .int .i64 0]) ∧ Below w1.heap.size w1 w') :
    Calls Try.prog 24 #[.pointer (some ⟨B, 0, none⟩), .agg #[.int .i64 a, .int .i64 n], .agg #[.int .i64 k, .int .i64 i], .agg #[.int .i64 s, .int .i64 x]] w fun e w' => e = .returned (.int .i64 0) ∧ Below w.heap.size w w' := by
  have hb0 : Below w.heap.size w (((w.alloc (.cells #[.int .i64 a, .int .i64 n] 23)).alloc (.cells #[.int .i64 k, .int .i64 i] 23)).alloc (.cells #[.int .i64 s, .int .i64 x] 23)) := below_alloc (below_alloc (below_alloc (Below.refl _ _) _) _) _
  have H := Lib.hid (hcell _ hb0)
  have ds : (s == 1) = false := by simp [hs]
  clear hcell hs
  go_enter Try.func24, Try.ntmps24
  go_wp2_with (go_at_call 46; refine H.out.mono ?_; rintro e w1 ⟨rfl, hb⟩; obtain ⟨hbc, hbf⟩ := bcell hb)
  go_ret
  exact ⟨rfl, below_step hb0 hb⟩
set_option maxRecDepth 100000 in
set_option maxHeartbeats 2000000 in
/-- Set, of a number. -/
theorem set_is {w : World} {B d j : Nat} (a n k i x : Int) (u : Value) (hd : d < w.heap.size) (hu : w.cell? ⟨d, j, none⟩ = some u) (hf : w.frozen? ⟨d, j, none⟩ = false) (hcell : ∀ w1, Below w.heap.size w w1 → Calls Try.prog 46 #[.pointer (some ⟨B, 0, none⟩), .agg #[.int .i64 a, .int .i64 n], .agg #[.int .i64 k, .int .i64 i]] w1 fun e w' => e = .returned (.tuple #[.pointer (some ⟨d, j, none⟩), .int .i64 0]) ∧ Below w1.heap.size w1 w') :
    Calls Try.prog 24 #[.pointer (some ⟨B, 0, none⟩), .agg #[.int .i64 a, .int .i64 n], .agg #[.int .i64 k, .int .i64 i], .agg #[.int .i64 1, .int .i64 x]] w fun e w' => e = .returned (.int .i64 0) ∧ ∃ w1, Below w.heap.size w w1 ∧ w' = w1.setCell ⟨d, j, none⟩ (.int .i64 x) := by
  have hb0 : Below w.heap.size w (((w.alloc (.cells #[.int .i64 a, .int .i64 n] 23)).alloc (.cells #[.int .i64 k, .int .i64 i] 23)).alloc (.cells #[.int .i64 1, .int .i64 x] 23)) := below_alloc (below_alloc (below_alloc (Below.refl _ _) _) _) _
  have H := Lib.hid (hcell _ hb0)
  have hu1 := Lib.hid (pw_cell_below hb0 hu)
  have hf1 := Lib.hid ((hb0.frozen (p := ⟨d, j, none⟩) hd).trans hf)
  have hd1 : d < (((w.alloc (.cells #[.int .i64 a, .int .i64 n] 23)).alloc (.cells #[.int .i64 k, .int .i64 i] 23)).alloc (.cells #[.int .i64 1, .int .i64 x] 23)).heap.size := by simp; omega
  clear hcell hu hf
  go_enter Try.func24, Try.ntmps24
  go_wp2_with (go_at_call 46; refine H.out.mono ?_; rintro e w1 ⟨rfl, hb⟩; have hu2 := pw_cell_below hb hu1.out; have hf2 := (hb.frozen (p := ⟨d, j, none⟩) hd1).trans hf1.out; obtain ⟨hbc, hbf⟩ := bcell hb)
  go_ret
  exact ⟨rfl, _, below_step hb0 hb, rfl⟩
set_option maxRecDepth 100000 in
set_option maxHeartbeats 2000000 in
/-- Len. -/
theorem len_of {w : World} {B m : Nat} (a n : Int) (A : Option Addr) (c : Nat) (b : Bool) (hm : m ≤ 1000000) (harr : ∀ w1, Below w.heap.size w w1 → Calls Try.prog 47 #[.pointer (some ⟨B, 0, none⟩), .agg #[.int .i64 a, .int .i64 n]] w1 fun e w' => e = .returned (.tuple #[.slice A m c, .bool b]) ∧ Below w1.heap.size w1 w') :
    Calls Try.prog 22 #[.pointer (some ⟨B, 0, none⟩), .agg #[.int .i64 a, .int .i64 n]] w fun e w' => e = .returned (.int .i64 m) ∧ Below w.heap.size w w' := by
  have hb0 : Below w.heap.size w (w.alloc (.cells #[.int .i64 a, .int .i64 n] 23)) := below_alloc (Below.refl _ _) _
  have H := Lib.hid (harr _ hb0)
  clear harr
  go_enter Try.func22, Try.ntmps22
  go_wp2_with (go_at_call 47; refine H.out.mono ?_; rintro e w1 ⟨rfl, hb⟩; obtain ⟨hbc, hbf⟩ := bcell hb)
  go_ret
  exact ⟨rfl, below_step hb0 hb⟩
end Go.Proofs.Ytkhlfdcjgooogaa.P
