/- ValueSigns: the walk of the statement's function. -/
import Derived.Test.YtkhlfdcjgooogaaHeapJ
import Derived.Test.YtkhlfdcjgooogaaPf10
import Derived.Test.YtkhlfdcjgooogaaPf11
import Derived.Test.YtkhlfdcjgooogaaPf12
import Derived.Test.YtkhlfdcjgooogaaPf14
namespace Go.Proofs.Ytkhlfdcjgooogaa.P
open Go.RowKit Go.Proofs.YtkhlfdcjgooogaaW.PrintWords Go.Proofs.YtkhlfdcjgooogaaW.PrintLast Go.Proofs.YtkhlfdcjgooogaaW.PrintMore
set_option linter.unusedVariables false
set_option linter.unusedSimpArgs false
set_option maxRecDepth 100000 in
set_option maxHeartbeats 4000000 in
theorem signs_long (s : ByteArray) (a0 a1 b0 b1 kind : Int) (w : World) (hs : s.size ≤ 140737488351232) (hl : 100 < s.size) :
    Calls Try.prog 3 #[.string s, .agg #[.int .i64 a0, .int .i64 a1], .agg #[.int .i64 b0, .int .i64 b1], .int .i64 kind] w fun e w' => e = .returned (.bool true) ∧ Below w.heap.size w w' := by
  have hb0 : Below w.heap.size w ((w.alloc (.cells #[.int .i64 a0, .int .i64 a1] 23)).alloc (.cells #[.int .i64 b0, .int .i64 b1] 23)) := below_alloc (below_alloc (Below.refl _ _) _) _
  go_enter Try.func3, Try.ntmps3
  go_wp2_with fail
  refine (runnellaw9_shown.calls true _ rfl).mono ?_
  rintro e w1 ⟨rfl, hb⟩
  go_wp2_with fail
  go_ret
  exact ⟨rfl, below_step hb0 hb⟩
set_option maxRecDepth 100000 in
set_option maxHeartbeats 4000000 in
theorem signs_walk (k : Nat) (s : ByteArray) (a0 a1 b0 b1 kind : Int) (x0 x1 u0 u1 u2 : Int) (x2 u3 : Bool) (w : World) (hs : s.size ≤ 100)
    (h1 : value_Unary.f k s a0 a1 = some (x0, x1, x2)) (h2 : runnelref9_Unary.f k s a0 a1 = some (x0, x1, x2)) (h3 : value_Binary.f k s a0 a1 b0 b1 = some (u0, u1, u2, u3)) (h4 : runnelref9_Binary.f k s a0 a1 b0 b1 = some (u0, u1, u2, u3)) :
    Calls Try.prog 3 #[.string s, .agg #[.int .i64 a0, .int .i64 a1], .agg #[.int .i64 b0, .int .i64 b1], .int .i64 kind] w fun e w' => e = .returned (.bool true) ∧ Below w.heap.size w w' := by
  have H1 := Lib.hid h1
  have H2 := Lib.hid h2
  have H3 := Lib.hid h3
  have H4 := Lib.hid h4
  clear h1 h2 h3 h4
  have HB := Lib.hid (Below.refl w.heap.size w)
  go_enter Try.func3, Try.ntmps3
  go_wp2_with fail
  refine (runnellaw9_shown.calls true _ rfl).mono ?_
  rintro e w1 ⟨rfl, hb_⟩
  have n_A : Hid (w1.heap[w.heap.size]? = some (.cells #[.int .i64 a0, .int .i64 a1] 23 (0, 0))) := Lib.hid (blk_below (by first | exact heap_alloc_new _ _ | exact blk_new1 _ _ _ | exact blk_new2 _ _ _ _ | (refine blk_alloc ?_ _; exact heap_alloc_new _ _) | (refine blk_alloc ?_ _; refine blk_alloc ?_ _; exact heap_alloc_new _ _) | (refine blk_alloc ?_ _; exact blk_new1 _ _ _)) hb_)
  have n_B : Hid (w1.heap[w.heap.size + 1]? = some (.cells #[.int .i64 b0, .int .i64 b1] 23 (0, 0))) := Lib.hid (blk_below (by first | exact heap_alloc_new _ _ | exact blk_new1 _ _ _ | exact blk_new2 _ _ _ _ | (refine blk_alloc ?_ _; exact heap_alloc_new _ _) | (refine blk_alloc ?_ _; refine blk_alloc ?_ _; exact heap_alloc_new _ _) | (refine blk_alloc ?_ _; exact blk_new1 _ _ _)) hb_)
  have K_A := n_A
  clear n_A
  have lt_A : w.heap.size < w1.heap.size := blk_lt K_A.out
  have c_A_0 : w1.cell? ⟨w.heap.size, 0, none⟩ = some (.int .i64 a0) := (blk_cell K_A.out 0).trans rfl
  have f_A_0 : w1.frozen? ⟨w.heap.size, 0, none⟩ = false := blk_frozen K_A.out 0
  have c_A_1 : w1.cell? ⟨w.heap.size, 1, none⟩ = some (.int .i64 a1) := (blk_cell K_A.out 1).trans rfl
  have f_A_1 : w1.frozen? ⟨w.heap.size, 1, none⟩ = false := blk_frozen K_A.out 1
  have K_B := n_B
  clear n_B
  have lt_B : w.heap.size + 1 < w1.heap.size := blk_lt K_B.out
  have c_B_0 : w1.cell? ⟨w.heap.size + 1, 0, none⟩ = some (.int .i64 b0) := (blk_cell K_B.out 0).trans rfl
  have f_B_0 : w1.frozen? ⟨w.heap.size + 1, 0, none⟩ = false := blk_frozen K_B.out 0
  have c_B_1 : w1.cell? ⟨w.heap.size + 1, 1, none⟩ = some (.int .i64 b1) := (blk_cell K_B.out 1).trans rfl
  have f_B_1 : w1.frozen? ⟨w.heap.size + 1, 1, none⟩ = false := blk_frozen K_B.out 1
  have nB := Lib.hid (below_step (by (with_reducible repeat (first | apply below_alloc | apply pw_below_drewN | apply below_drew1)); exact HB.out) hb_)
  clear HB hb_
  have HB := nB
  clear nB
  go_wp2_with fail
  refine (value_Unary.calls k s a0 a1 x0 x1 x2 _ H1.out).mono ?_
  rintro e w2 ⟨rfl, hb_⟩
  have n_A : Hid (w2.heap[w.heap.size]? = some (.cells #[.int .i64 a0, .int .i64 a1] 23 (0, 0))) := Lib.hid (blk_below (by (with_reducible repeat (first | refine blk_drewN ?_ _ | refine blk_drew ?_ | refine blk_alloc ?_ _)); exact K_A.out) hb_)
  have n_B : Hid (w2.heap[w.heap.size + 1]? = some (.cells #[.int .i64 b0, .int .i64 b1] 23 (0, 0))) := Lib.hid (blk_below (by (with_reducible repeat (first | refine blk_drewN ?_ _ | refine blk_drew ?_ | refine blk_alloc ?_ _)); exact K_B.out) hb_)
  clear K_A lt_A c_A_0 c_A_1 f_A_0 f_A_1 K_B lt_B c_B_0 c_B_1 f_B_0 f_B_1
  have K_A := n_A
  clear n_A
  have lt_A : w.heap.size < w2.heap.size := blk_lt K_A.out
  have c_A_0 : w2.cell? ⟨w.heap.size, 0, none⟩ = some (.int .i64 a0) := (blk_cell K_A.out 0).trans rfl
  have f_A_0 : w2.frozen? ⟨w.heap.size, 0, none⟩ = false := blk_frozen K_A.out 0
  have c_A_1 : w2.cell? ⟨w.heap.size, 1, none⟩ = some (.int .i64 a1) := (blk_cell K_A.out 1).trans rfl
  have f_A_1 : w2.frozen? ⟨w.heap.size, 1, none⟩ = false := blk_frozen K_A.out 1
  have K_B := n_B
  clear n_B
  have lt_B : w.heap.size + 1 < w2.heap.size := blk_lt K_B.out
  have c_B_0 : w2.cell? ⟨w.heap.size + 1, 0, none⟩ = some (.int .i64 b0) := (blk_cell K_B.out 0).trans rfl
  have f_B_0 : w2.frozen? ⟨w.heap.size + 1, 0, none⟩ = false := blk_frozen K_B.out 0
  have c_B_1 : w2.cell? ⟨w.heap.size + 1, 1, none⟩ = some (.int .i64 b1) := (blk_cell K_B.out 1).trans rfl
  have f_B_1 : w2.frozen? ⟨w.heap.size + 1, 1, none⟩ = false := blk_frozen K_B.out 1
  have nB := Lib.hid (below_step (by (with_reducible repeat (first | apply below_alloc | apply pw_below_drewN | apply below_drew1)); exact HB.out) hb_)
  clear HB hb_
  have HB := nB
  clear nB
  go_wp2_with fail
  refine (runnellaw9_as.calls a0 a1 a0 a1 _ rfl).mono ?_
  rintro e w3 ⟨rfl, hb_⟩
  have n_A : Hid (w3.heap[w.heap.size]? = some (.cells #[.int .i64 a0, .int .i64 a1] 23 (0, 0))) := Lib.hid (blk_below (by (with_reducible repeat (first | refine blk_drewN ?_ _ | refine blk_drew ?_ | refine blk_alloc ?_ _)); exact K_A.out) hb_)
  have n_B : Hid (w3.heap[w.heap.size + 1]? = some (.cells #[.int .i64 b0, .int .i64 b1] 23 (0, 0))) := Lib.hid (blk_below (by (with_reducible repeat (first | refine blk_drewN ?_ _ | refine blk_drew ?_ | refine blk_alloc ?_ _)); exact K_B.out) hb_)
  have n_x : Hid (w3.heap[w2.heap.size]? = some (.cells #[.int .i64 x0, .int .i64 x1] 23 (0, 0))) := Lib.hid (blk_below (by first | exact heap_alloc_new _ _ | exact blk_new1 _ _ _ | exact blk_new2 _ _ _ _ | (refine blk_alloc ?_ _; exact heap_alloc_new _ _) | (refine blk_alloc ?_ _; refine blk_alloc ?_ _; exact heap_alloc_new _ _) | (refine blk_alloc ?_ _; exact blk_new1 _ _ _)) hb_)
  clear K_A lt_A c_A_0 c_A_1 f_A_0 f_A_1 K_B lt_B c_B_0 c_B_1 f_B_0 f_B_1
  have K_A := n_A
  clear n_A
  have lt_A : w.heap.size < w3.heap.size := blk_lt K_A.out
  have c_A_0 : w3.cell? ⟨w.heap.size, 0, none⟩ = some (.int .i64 a0) := (blk_cell K_A.out 0).trans rfl
  have f_A_0 : w3.frozen? ⟨w.heap.size, 0, none⟩ = false := blk_frozen K_A.out 0
  have c_A_1 : w3.cell? ⟨w.heap.size, 1, none⟩ = some (.int .i64 a1) := (blk_cell K_A.out 1).trans rfl
  have f_A_1 : w3.frozen? ⟨w.heap.size, 1, none⟩ = false := blk_frozen K_A.out 1
  have K_B := n_B
  clear n_B
  have lt_B : w.heap.size + 1 < w3.heap.size := blk_lt K_B.out
  have c_B_0 : w3.cell? ⟨w.heap.size + 1, 0, none⟩ = some (.int .i64 b0) := (blk_cell K_B.out 0).trans rfl
  have f_B_0 : w3.frozen? ⟨w.heap.size + 1, 0, none⟩ = false := blk_frozen K_B.out 0
  have c_B_1 : w3.cell? ⟨w.heap.size + 1, 1, none⟩ = some (.int .i64 b1) := (blk_cell K_B.out 1).trans rfl
  have f_B_1 : w3.frozen? ⟨w.heap.size + 1, 1, none⟩ = false := blk_frozen K_B.out 1
  have K_x := n_x
  clear n_x
  have lt_x : w2.heap.size < w3.heap.size := blk_lt K_x.out
  have c_x_0 : w3.cell? ⟨w2.heap.size, 0, none⟩ = some (.int .i64 x0) := (blk_cell K_x.out 0).trans rfl
  have f_x_0 : w3.frozen? ⟨w2.heap.size, 0, none⟩ = false := blk_frozen K_x.out 0
  have c_x_1 : w3.cell? ⟨w2.heap.size, 1, none⟩ = some (.int .i64 x1) := (blk_cell K_x.out 1).trans rfl
  have f_x_1 : w3.frozen? ⟨w2.heap.size, 1, none⟩ = false := blk_frozen K_x.out 1
  have nB := Lib.hid (below_step (by (with_reducible repeat (first | apply below_alloc | apply pw_below_drewN | apply below_drew1)); exact HB.out) hb_)
  clear HB hb_
  have HB := nB
  clear nB
  go_wp2_with fail
  refine (runnelref9_Unary.calls k s a0 a1 x0 x1 x2 _ H2.out).mono ?_
  rintro e w4 ⟨rfl, hb_⟩
  have n_A : Hid (w4.heap[w.heap.size]? = some (.cells #[.int .i64 a0, .int .i64 a1] 23 (0, 0))) := Lib.hid (blk_below (by (with_reducible repeat (first | refine blk_drewN ?_ _ | refine blk_drew ?_ | refine blk_alloc ?_ _)); exact K_A.out) hb_)
  have n_B : Hid (w4.heap[w.heap.size + 1]? = some (.cells #[.int .i64 b0, .int .i64 b1] 23 (0, 0))) := Lib.hid (blk_below (by (with_reducible repeat (first | refine blk_drewN ?_ _ | refine blk_drew ?_ | refine blk_alloc ?_ _)); exact K_B.out) hb_)
  have n_x : Hid (w4.heap[w2.heap.size]? = some (.cells #[.int .i64 x0, .int .i64 x1] 23 (0, 0))) := Lib.hid (blk_below (by (with_reducible repeat (first | refine blk_drewN ?_ _ | refine blk_drew ?_ | refine blk_alloc ?_ _)); exact K_x.out) hb_)
  clear K_A lt_A c_A_0 c_A_1 f_A_0 f_A_1 K_B lt_B c_B_0 c_B_1 f_B_0 f_B_1 K_x lt_x c_x_0 c_x_1 f_x_0 f_x_1
  have K_A := n_A
  clear n_A
  have lt_A : w.heap.size < w4.heap.size := blk_lt K_A.out
  have c_A_0 : w4.cell? ⟨w.heap.size, 0, none⟩ = some (.int .i64 a0) := (blk_cell K_A.out 0).trans rfl
  have f_A_0 : w4.frozen? ⟨w.heap.size, 0, none⟩ = false := blk_frozen K_A.out 0
  have c_A_1 : w4.cell? ⟨w.heap.size, 1, none⟩ = some (.int .i64 a1) := (blk_cell K_A.out 1).trans rfl
  have f_A_1 : w4.frozen? ⟨w.heap.size, 1, none⟩ = false := blk_frozen K_A.out 1
  have K_B := n_B
  clear n_B
  have lt_B : w.heap.size + 1 < w4.heap.size := blk_lt K_B.out
  have c_B_0 : w4.cell? ⟨w.heap.size + 1, 0, none⟩ = some (.int .i64 b0) := (blk_cell K_B.out 0).trans rfl
  have f_B_0 : w4.frozen? ⟨w.heap.size + 1, 0, none⟩ = false := blk_frozen K_B.out 0
  have c_B_1 : w4.cell? ⟨w.heap.size + 1, 1, none⟩ = some (.int .i64 b1) := (blk_cell K_B.out 1).trans rfl
  have f_B_1 : w4.frozen? ⟨w.heap.size + 1, 1, none⟩ = false := blk_frozen K_B.out 1
  have K_x := n_x
  clear n_x
  have lt_x : w2.heap.size < w4.heap.size := blk_lt K_x.out
  have c_x_0 : w4.cell? ⟨w2.heap.size, 0, none⟩ = some (.int .i64 x0) := (blk_cell K_x.out 0).trans rfl
  have f_x_0 : w4.frozen? ⟨w2.heap.size, 0, none⟩ = false := blk_frozen K_x.out 0
  have c_x_1 : w4.cell? ⟨w2.heap.size, 1, none⟩ = some (.int .i64 x1) := (blk_cell K_x.out 1).trans rfl
  have f_x_1 : w4.frozen? ⟨w2.heap.size, 1, none⟩ = false := blk_frozen K_x.out 1
  have nB := Lib.hid (below_step (by (with_reducible repeat (first | apply below_alloc | apply pw_below_drewN | apply below_drew1)); exact HB.out) hb_)
  clear HB hb_
  have HB := nB
  clear nB
  go_wp2_with fail
  refine (value_Binary.calls k s a0 a1 b0 b1 u0 u1 u2 u3 _ H3.out).mono ?_
  rintro e w5 ⟨rfl, hb_⟩
  have n_A : Hid (w5.heap[w.heap.size]? = some (.cells #[.int .i64 a0, .int .i64 a1] 23 (0, 0))) := Lib.hid (blk_below (by (with_reducible repeat (first | refine blk_drewN ?_ _ | refine blk_drew ?_ | refine blk_alloc ?_ _)); exact K_A.out) hb_)
  have n_B : Hid (w5.heap[w.heap.size + 1]? = some (.cells #[.int .i64 b0, .int .i64 b1] 23 (0, 0))) := Lib.hid (blk_below (by (with_reducible repeat (first | refine blk_drewN ?_ _ | refine blk_drew ?_ | refine blk_alloc ?_ _)); exact K_B.out) hb_)
  have n_x : Hid (w5.heap[w2.heap.size]? = some (.cells #[.int .i64 x0, .int .i64 x1] 23 (0, 0))) := Lib.hid (blk_below (by (with_reducible repeat (first | refine blk_drewN ?_ _ | refine blk_drew ?_ | refine blk_alloc ?_ _)); exact K_x.out) hb_)
  have n_y : Hid (w5.heap[w4.heap.size]? = some (.cells #[.int .i64 x0, .int .i64 x1] 27 (0, 0))) := Lib.hid (blk_below (by first | exact heap_alloc_new _ _ | exact blk_new1 _ _ _ | exact blk_new2 _ _ _ _ | (refine blk_alloc ?_ _; exact heap_alloc_new _ _) | (refine blk_alloc ?_ _; refine blk_alloc ?_ _; exact heap_alloc_new _ _) | (refine blk_alloc ?_ _; exact blk_new1 _ _ _)) hb_)
  clear K_A lt_A c_A_0 c_A_1 f_A_0 f_A_1 K_B lt_B c_B_0 c_B_1 f_B_0 f_B_1 K_x lt_x c_x_0 c_x_1 f_x_0 f_x_1
  have K_A := n_A
  clear n_A
  have lt_A : w.heap.size < w5.heap.size := blk_lt K_A.out
  have c_A_0 : w5.cell? ⟨w.heap.size, 0, none⟩ = some (.int .i64 a0) := (blk_cell K_A.out 0).trans rfl
  have f_A_0 : w5.frozen? ⟨w.heap.size, 0, none⟩ = false := blk_frozen K_A.out 0
  have c_A_1 : w5.cell? ⟨w.heap.size, 1, none⟩ = some (.int .i64 a1) := (blk_cell K_A.out 1).trans rfl
  have f_A_1 : w5.frozen? ⟨w.heap.size, 1, none⟩ = false := blk_frozen K_A.out 1
  have K_B := n_B
  clear n_B
  have lt_B : w.heap.size + 1 < w5.heap.size := blk_lt K_B.out
  have c_B_0 : w5.cell? ⟨w.heap.size + 1, 0, none⟩ = some (.int .i64 b0) := (blk_cell K_B.out 0).trans rfl
  have f_B_0 : w5.frozen? ⟨w.heap.size + 1, 0, none⟩ = false := blk_frozen K_B.out 0
  have c_B_1 : w5.cell? ⟨w.heap.size + 1, 1, none⟩ = some (.int .i64 b1) := (blk_cell K_B.out 1).trans rfl
  have f_B_1 : w5.frozen? ⟨w.heap.size + 1, 1, none⟩ = false := blk_frozen K_B.out 1
  have K_x := n_x
  clear n_x
  have lt_x : w2.heap.size < w5.heap.size := blk_lt K_x.out
  have c_x_0 : w5.cell? ⟨w2.heap.size, 0, none⟩ = some (.int .i64 x0) := (blk_cell K_x.out 0).trans rfl
  have f_x_0 : w5.frozen? ⟨w2.heap.size, 0, none⟩ = false := blk_frozen K_x.out 0
  have c_x_1 : w5.cell? ⟨w2.heap.size, 1, none⟩ = some (.int .i64 x1) := (blk_cell K_x.out 1).trans rfl
  have f_x_1 : w5.frozen? ⟨w2.heap.size, 1, none⟩ = false := blk_frozen K_x.out 1
  have K_y := n_y
  clear n_y
  have lt_y : w4.heap.size < w5.heap.size := blk_lt K_y.out
  have c_y_0 : w5.cell? ⟨w4.heap.size, 0, none⟩ = some (.int .i64 x0) := (blk_cell K_y.out 0).trans rfl
  have f_y_0 : w5.frozen? ⟨w4.heap.size, 0, none⟩ = false := blk_frozen K_y.out 0
  have c_y_1 : w5.cell? ⟨w4.heap.size, 1, none⟩ = some (.int .i64 x1) := (blk_cell K_y.out 1).trans rfl
  have f_y_1 : w5.frozen? ⟨w4.heap.size, 1, none⟩ = false := blk_frozen K_y.out 1
  have nB := Lib.hid (below_step (by (with_reducible repeat (first | apply below_alloc | apply pw_below_drewN | apply below_drew1)); exact HB.out) hb_)
  clear HB hb_
  have HB := nB
  clear nB
  go_wp2_with fail
  have CA0 := Lib.hid c_A_0
  have CA1 := Lib.hid c_A_1
  have CB0 := Lib.hid c_B_0
  have CB1 := Lib.hid c_B_1
  clear CA0 CA1 CB0 CB1
  obtain ⟨y1, hw_⟩ : ∃ W_, W_ = w5.alloc (.cells #[.int .i64 u0, .int .i64 u1] 23) := ⟨_, rfl⟩
  rw [← hw_]
  have hb_ : Below w5.heap.size w5 y1 := by rw [hw_]; exact below_alloc (Below.refl _ _) _
  have n_u : Hid (y1.heap[w5.heap.size]? = some (.cells #[.int .i64 u0, .int .i64 u1] 23 (0, 0))) := Lib.hid (by rw [hw_]; exact heap_alloc_new _ _)
  have n_A : Hid (y1.heap[w.heap.size]? = some (.cells #[.int .i64 a0, .int .i64 a1] 23 (0, 0))) := Lib.hid (blk_below K_A.out hb_)
  have n_B : Hid (y1.heap[w.heap.size + 1]? = some (.cells #[.int .i64 b0, .int .i64 b1] 23 (0, 0))) := Lib.hid (blk_below K_B.out hb_)
  have n_x : Hid (y1.heap[w2.heap.size]? = some (.cells #[.int .i64 x0, .int .i64 x1] 23 (0, 0))) := Lib.hid (blk_below K_x.out hb_)
  have n_y : Hid (y1.heap[w4.heap.size]? = some (.cells #[.int .i64 x0, .int .i64 x1] 27 (0, 0))) := Lib.hid (blk_below K_y.out hb_)
  clear K_A lt_A c_A_0 c_A_1 f_A_0 f_A_1 K_B lt_B c_B_0 c_B_1 f_B_0 f_B_1 K_x lt_x c_x_0 c_x_1 f_x_0 f_x_1 K_y lt_y c_y_0 c_y_1 f_y_0 f_y_1
  have K_A := n_A
  clear n_A
  have lt_A : w.heap.size < y1.heap.size := blk_lt K_A.out
  have c_A_0 : y1.cell? ⟨w.heap.size, 0, none⟩ = some (.int .i64 a0) := (blk_cell K_A.out 0).trans rfl
  have f_A_0 : y1.frozen? ⟨w.heap.size, 0, none⟩ = false := blk_frozen K_A.out 0
  have c_A_1 : y1.cell? ⟨w.heap.size, 1, none⟩ = some (.int .i64 a1) := (blk_cell K_A.out 1).trans rfl
  have f_A_1 : y1.frozen? ⟨w.heap.size, 1, none⟩ = false := blk_frozen K_A.out 1
  have K_B := n_B
  clear n_B
  have lt_B : w.heap.size + 1 < y1.heap.size := blk_lt K_B.out
  have c_B_0 : y1.cell? ⟨w.heap.size + 1, 0, none⟩ = some (.int .i64 b0) := (blk_cell K_B.out 0).trans rfl
  have f_B_0 : y1.frozen? ⟨w.heap.size + 1, 0, none⟩ = false := blk_frozen K_B.out 0
  have c_B_1 : y1.cell? ⟨w.heap.size + 1, 1, none⟩ = some (.int .i64 b1) := (blk_cell K_B.out 1).trans rfl
  have f_B_1 : y1.frozen? ⟨w.heap.size + 1, 1, none⟩ = false := blk_frozen K_B.out 1
  have K_x := n_x
  clear n_x
  have lt_x : w2.heap.size < y1.heap.size := blk_lt K_x.out
  have c_x_0 : y1.cell? ⟨w2.heap.size, 0, none⟩ = some (.int .i64 x0) := (blk_cell K_x.out 0).trans rfl
  have f_x_0 : y1.frozen? ⟨w2.heap.size, 0, none⟩ = false := blk_frozen K_x.out 0
  have c_x_1 : y1.cell? ⟨w2.heap.size, 1, none⟩ = some (.int .i64 x1) := (blk_cell K_x.out 1).trans rfl
  have f_x_1 : y1.frozen? ⟨w2.heap.size, 1, none⟩ = false := blk_frozen K_x.out 1
  have K_y := n_y
  clear n_y
  have lt_y : w4.heap.size < y1.heap.size := blk_lt K_y.out
  have c_y_0 : y1.cell? ⟨w4.heap.size, 0, none⟩ = some (.int .i64 x0) := (blk_cell K_y.out 0).trans rfl
  have f_y_0 : y1.frozen? ⟨w4.heap.size, 0, none⟩ = false := blk_frozen K_y.out 0
  have c_y_1 : y1.cell? ⟨w4.heap.size, 1, none⟩ = some (.int .i64 x1) := (blk_cell K_y.out 1).trans rfl
  have f_y_1 : y1.frozen? ⟨w4.heap.size, 1, none⟩ = false := blk_frozen K_y.out 1
  have K_u := n_u
  clear n_u
  have lt_u : w5.heap.size < y1.heap.size := blk_lt K_u.out
  have c_u_0 : y1.cell? ⟨w5.heap.size, 0, none⟩ = some (.int .i64 u0) := (blk_cell K_u.out 0).trans rfl
  have f_u_0 : y1.frozen? ⟨w5.heap.size, 0, none⟩ = false := blk_frozen K_u.out 0
  have c_u_1 : y1.cell? ⟨w5.heap.size, 1, none⟩ = some (.int .i64 u1) := (blk_cell K_u.out 1).trans rfl
  have f_u_1 : y1.frozen? ⟨w5.heap.size, 1, none⟩ = false := blk_frozen K_u.out 1
  have nB := Lib.hid (below_step HB.out hb_)
  clear HB hb_ hw_
  have HB := nB
  clear nB
  have CA0 := Lib.hid c_A_0
  have CA1 := Lib.hid c_A_1
  have CB0 := Lib.hid c_B_0
  have CB1 := Lib.hid c_B_1
  refine start_ (n := 14) (S := fun w' => w'.cell? ⟨w.heap.size, 0, none⟩ = some (.int .i64 a0) ∧ w'.cell? ⟨w.heap.size, 1, none⟩ = some (.int .i64 a1) ∧ w'.cell? ⟨w.heap.size + 1, 0, none⟩ = some (.int .i64 b0) ∧ w'.cell? ⟨w.heap.size + 1, 1, none⟩ = some (.int .i64 b1)) (ds := [11]) #[false, false, false, false, false, false, false, false, false, false, false, false, false, false] (by kernel_rfl) rfl rfl ⟨cell_drew (CA0.out), cell_drew (CA1.out), cell_drew (CB0.out), cell_drew (CB1.out)⟩ (fun hHeld => ?_)
  refine pure_ (i := 0) (N := some 51) (v := ?_) (a' := ?_) #[true, false, false, false, false, false, false, false, false, false, false, false, false, false] rfl rfl (by kernel_rfl) (fun _ _ _ h => h) (Or.inl ⟨by rfl, ?_⟩) ?_ ?_
  rotate_left
  · intro w'
    go_simp
    with_reducible rfl
  rotate_left
  · simp only [Act.put, List.setIfInBounds_toArray, List.set_cons_zero, List.set_cons_succ, i64_w, i32_w]
    rfl
  refine take_ (i := 1) (N := some 52) (v := ?_) (a' := ?_) #[true, true, false, false, false, false, false, false, false, false, false, false, false, false] rfl rfl (by kernel_rfl) (fun _ _ _ h => h) (Or.inl ⟨by rfl, ?_⟩) hHeld ?_ ?_
  rotate_left
  · rintro w' ⟨s0, s1, s2, s3⟩
    go_simp
    with_reducible rfl
  rotate_left
  · simp only [Act.put, List.setIfInBounds_toArray, List.set_cons_zero, List.set_cons_succ, i64_w, i32_w]
    rfl
  refine take_ (i := 3) (N := some 54) (v := ?_) (a' := ?_) #[true, true, false, true, false, false, false, false, false, false, false, false, false, false] rfl rfl (by kernel_rfl) (fun _ _ _ h => h) (Or.inl ⟨by rfl, ?_⟩) hHeld ?_ ?_
  rotate_left
  · rintro w' ⟨s0, s1, s2, s3⟩
    go_simp
    with_reducible rfl
  rotate_left
  · simp only [Act.put, List.setIfInBounds_toArray, List.set_cons_zero, List.set_cons_succ, i64_w, i32_w]
    rfl
  refine join_ (σ := Nat) 3 #[true, true, true, true, true, true, true, true, true, true, true, false, false, false] (fun s => [(53, .agg #[.int .i64 a0, .int .i64 a1]), (55, .agg #[.int .i64 b0, .int .i64 b1]), (56, .tuple #[.agg #[.int .i64 u0, .int .i64 u1], .int .i64 u2, .bool u3]), (50, .tuple #[.agg #[.int .i64 u0, .int .i64 u1], .int .i64 u2, .bool u3]), (57, .agg #[.int .i64 u0, .int .i64 u1]), (58, .int .i64 u2), (59, .bool u3), (17, .pointer (some ⟨s, 0, none⟩))]) (fun s w' => Below y1.heap.size y1 w' ∧ w'.heap[s]? = some (.cells #[.int .i64 0, .int .i64 0] 27 (0, 0)) ∧ y1.heap.size ≤ s) ?_ ?_
  rotate_left
  · intro hCont
    refine two_ (i := 2) (j := 10) (Ni := some 53) (Nj := some 17) #[true, true, true, true, false, false, false, false, false, false, false, false, false, false] #[true, true, false, true, false, false, false, false, false, false, true, false, false, false] rfl rfl rfl rfl (by kernel_rfl) (by decide) (by decide) (fun K hK => ?_) (fun K hK => ?_)
    · skip
      refine goes_ Try.func12 (by kernel_rfl) rfl #[.agg #[.int .i64 a0, .int .i64 a1]] (by rfl) rfl rfl (by simp only [List.map_toArray, List.map_cons, List.map_nil]; rfl) ?_
      with_reducible refine (runnellaw9_as.calls a0 a1 a0 a1 _ rfl).mono ?_
      rintro e w_p2 ⟨rfl, hb_⟩
      refine ⟨_, rfl, ?_⟩
      have B_p2 := Lib.hid (below_step ((below_drew (Below.refl y1.heap.size y1))) hb_)
      clear hb_
      refine hK.out _ _ ⟨pw_cell_below B_p2.out CA0.out, pw_cell_below B_p2.out CA1.out, pw_cell_below B_p2.out CB0.out, pw_cell_below B_p2.out CB1.out⟩ (fun hHeld => ?_)
      clear hK K
      refine norm_ (a' := ?_) ?_ ?_
      rotate_left
      · show Act.put _ (some 53) _ = _
        simp only [Act.put, List.setIfInBounds_toArray, List.set_cons_zero, List.set_cons_succ, i64_w, i32_w]
        rfl
      refine two_ (i := 4) (j := 10) (Ni := some 55) (Nj := some 17) #[true, true, true, true, true, false, false, false, false, false, false, false, false, false] #[true, true, true, true, false, false, false, false, false, false, true, false, false, false] rfl rfl rfl rfl (by kernel_rfl) (by decide) (by decide) (fun K hK => ?_) (fun K hK => ?_)
      · skip
        refine goes_ Try.func12 (by kernel_rfl) rfl #[.agg #[.int .i64 b0, .int .i64 b1]] (by rfl) rfl rfl (by simp only [List.map_toArray, List.map_cons, List.map_nil]; rfl) ?_
        with_reducible refine (runnellaw9_as.calls b0 b1 b0 b1 _ rfl).mono ?_
        rintro e w_p2_4 ⟨rfl, hb_⟩
        refine ⟨_, rfl, ?_⟩
        have B_p2_4 := Lib.hid (below_step (B_p2.out) hb_)
        clear hb_
        refine hK.out _ _ ⟨pw_cell_below B_p2_4.out CA0.out, pw_cell_below B_p2_4.out CA1.out, pw_cell_below B_p2_4.out CB0.out, pw_cell_below B_p2_4.out CB1.out⟩ (fun hHeld => ?_)
        clear hK K
        refine norm_ (a' := ?_) ?_ ?_
        rotate_left
        · show Act.put _ (some 55) _ = _
          simp only [Act.put, List.setIfInBounds_toArray, List.set_cons_zero, List.set_cons_succ, i64_w, i32_w]
          rfl
        refine two_ (i := 5) (j := 10) (Ni := some 56) (Nj := some 17) #[true, true, true, true, true, true, false, false, false, false, false, false, false, false] #[true, true, true, true, true, false, false, false, false, false, true, false, false, false] rfl rfl rfl rfl (by kernel_rfl) (by decide) (by decide) (fun K hK => ?_) (fun K hK => ?_)
        · skip
          refine goes_ Try.func14 (by kernel_rfl) rfl #[.string s, .agg #[.int .i64 a0, .int .i64 a1], .agg #[.int .i64 b0, .int .i64 b1]] (by rfl) rfl rfl (by simp only [List.map_toArray, List.map_cons, List.map_nil]; rfl) ?_
          with_reducible refine (runnelref9_Binary.calls k s a0 a1 b0 b1 u0 u1 u2 u3 _ H4.out).mono ?_
          rintro e w_p2_4_5 ⟨rfl, hb_⟩
          refine ⟨_, rfl, ?_⟩
          have B_p2_4_5 := Lib.hid (below_step (B_p2_4.out) hb_)
          clear hb_
          refine hK.out _ _ ⟨pw_cell_below B_p2_4_5.out CA0.out, pw_cell_below B_p2_4_5.out CA1.out, pw_cell_below B_p2_4_5.out CB0.out, pw_cell_below B_p2_4_5.out CB1.out⟩ (fun hHeld => ?_)
          clear hK K
          refine norm_ (a' := ?_) ?_ ?_
          rotate_left
          · show Act.put _ (some 56) _ = _
            simp only [Act.put, List.setIfInBounds_toArray, List.set_cons_zero, List.set_cons_succ, i64_w, i32_w]
            rfl
          refine pure_ (i := 6) (N := some 50) (v := ?_) (a' := ?_) #[true, true, true, true, true, true, true, false, false, false, false, false, false, false] rfl rfl (by kernel_rfl) (fun _ _ _ h => h) (Or.inl ⟨by rfl, ?_⟩) ?_ ?_
          rotate_left
          · intro w'
            go_simp
            with_reducible rfl
          rotate_left
          · simp only [Act.put, List.setIfInBounds_toArray, List.set_cons_zero, List.set_cons_succ, i64_w, i32_w]
            rfl
          refine pure_ (i := 7) (N := some 57) (v := ?_) (a' := ?_) #[true, true, true, true, true, true, true, true, false, false, false, false, false, false] rfl rfl (by kernel_rfl) (fun _ _ _ h => h) (Or.inl ⟨by rfl, ?_⟩) ?_ ?_
          rotate_left
          · intro w'
            go_simp
            with_reducible rfl
          rotate_left
          · simp only [Act.put, List.setIfInBounds_toArray, List.set_cons_zero, List.set_cons_succ, i64_w, i32_w]
            rfl
          refine pure_ (i := 8) (N := some 58) (v := ?_) (a' := ?_) #[true, true, true, true, true, true, true, true, true, false, false, false, false, false] rfl rfl (by kernel_rfl) (fun _ _ _ h => h) (Or.inl ⟨by rfl, ?_⟩) ?_ ?_
          rotate_left
          · intro w'
            go_simp
            with_reducible rfl
          rotate_left
          · simp only [Act.put, List.setIfInBounds_toArray, List.set_cons_zero, List.set_cons_succ, i64_w, i32_w]
            rfl
          refine pure_ (i := 9) (N := some 59) (v := ?_) (a' := ?_) #[true, true, true, true, true, true, true, true, true, true, false, false, false, false] rfl rfl (by kernel_rfl) (fun _ _ _ h => h) (Or.inl ⟨by rfl, ?_⟩) ?_ ?_
          rotate_left
          · intro w'
            go_simp
            with_reducible rfl
          rotate_left
          · simp only [Act.put, List.setIfInBounds_toArray, List.set_cons_zero, List.set_cons_succ, i64_w, i32_w]
            rfl
          refine one_ (i := 10) (N := some 17) #[true, true, true, true, true, true, true, true, true, true, true, false, false, false] rfl rfl (by kernel_rfl) (by decide) (fun K hK => ?_)
          refine value_ (w1 := ?_) (v := ?_) (by rfl) rfl ?_ ?_
          rotate_left 2
          · go_simp
            constructor
            · rfl
            · rfl
          have B_p2_4_5_10 := Lib.hid (below_alloc (B_p2_4_5.out) (.cells #[.int .i64 0, .int .i64 0] 27))
          have N_p2_4_5_10 : Hid ((w_p2_4_5.alloc (.cells #[.int .i64 0, .int .i64 0] 27)).heap[w_p2_4_5.heap.size]? = some (.cells #[.int .i64 0, .int .i64 0] 27 (0, 0))) := Lib.hid (heap_alloc_new w_p2_4_5 _)
          have LE_N_p2_4_5_10 : Hid (y1.heap.size ≤ w_p2_4_5.heap.size) := Lib.hid ((B_p2_4_5.out).size)
          refine hK.out _ _ ⟨pw_cell_below B_p2_4_5_10.out CA0.out, pw_cell_below B_p2_4_5_10.out CA1.out, pw_cell_below B_p2_4_5_10.out CB0.out, pw_cell_below B_p2_4_5_10.out CB1.out⟩ (fun hHeld => ?_)
          clear hK K
          refine norm_ (a' := ?_) ?_ ?_
          rotate_left
          · show Act.put _ (some 17) _ = _
            simp only [Act.put, List.setIfInBounds_toArray, List.set_cons_zero, List.set_cons_succ, i64_w, i32_w]
            rfl
          exact norm_ (by simp only [putAll, Act.put, List.setIfInBounds_toArray, List.set_cons_zero, List.set_cons_succ]) (hCont w_p2_4_5.heap.size _ ⟨B_p2_4_5_10.out, N_p2_4_5_10.out, LE_N_p2_4_5_10.out⟩)
        · skip
          refine value_ (w1 := ?_) (v := ?_) (by rfl) rfl ?_ ?_
          rotate_left 2
          · go_simp
            constructor
            · rfl
            · rfl
          have B_p2_4_10 := Lib.hid (below_alloc (B_p2_4.out) (.cells #[.int .i64 0, .int .i64 0] 27))
          have N_p2_4_10 : Hid ((w_p2_4.alloc (.cells #[.int .i64 0, .int .i64 0] 27)).heap[w_p2_4.heap.size]? = some (.cells #[.int .i64 0, .int .i64 0] 27 (0, 0))) := Lib.hid (heap_alloc_new w_p2_4 _)
          have LE_N_p2_4_10 : Hid (y1.heap.size ≤ w_p2_4.heap.size) := Lib.hid ((B_p2_4.out).size)
          refine hK.out _ _ ⟨pw_cell_below B_p2_4_10.out CA0.out, pw_cell_below B_p2_4_10.out CA1.out, pw_cell_below B_p2_4_10.out CB0.out, pw_cell_below B_p2_4_10.out CB1.out⟩ (fun hHeld => ?_)
          clear hK K
          refine norm_ (a' := ?_) ?_ ?_
          rotate_left
          · show Act.put _ (some 17) _ = _
            simp only [Act.put, List.setIfInBounds_toArray, List.set_cons_zero, List.set_cons_succ, i64_w, i32_w]
            rfl
          refine one_ (i := 5) (N := some 56) #[true, true, true, true, true, true, false, false, false, false, true, false, false, false] rfl rfl (by kernel_rfl) (by decide) (fun K hK => ?_)
          refine goes_ Try.func14 (by kernel_rfl) rfl #[.string s, .agg #[.int .i64 a0, .int .i64 a1], .agg #[.int .i64 b0, .int .i64 b1]] (by rfl) rfl rfl (by simp only [List.map_toArray, List.map_cons, List.map_nil]; rfl) ?_
          with_reducible refine (runnelref9_Binary.calls k s a0 a1 b0 b1 u0 u1 u2 u3 _ H4.out).mono ?_
          rintro e w_p2_4_10_5 ⟨rfl, hb_⟩
          refine ⟨_, rfl, ?_⟩
          have B_p2_4_10_5 := Lib.hid (below_step (B_p2_4_10.out) hb_)
          have N_p2_4_10_5 := Lib.hid (blk_below N_p2_4_10.out hb_)
          have LE_N_p2_4_10_5 := Lib.hid LE_N_p2_4_10.out
          clear hb_
          refine hK.out _ _ ⟨pw_cell_below B_p2_4_10_5.out CA0.out, pw_cell_below B_p2_4_10_5.out CA1.out, pw_cell_below B_p2_4_10_5.out CB0.out, pw_cell_below B_p2_4_10_5.out CB1.out⟩ (fun hHeld => ?_)
          clear hK K
          refine norm_ (a' := ?_) ?_ ?_
          rotate_left
          · show Act.put _ (some 56) _ = _
            simp only [Act.put, List.setIfInBounds_toArray, List.set_cons_zero, List.set_cons_succ, i64_w, i32_w]
            rfl
          refine pure_ (i := 6) (N := some 50) (v := ?_) (a' := ?_) #[true, true, true, true, true, true, true, false, false, false, true, false, false, false] rfl rfl (by kernel_rfl) (fun _ _ _ h => h) (Or.inl ⟨by rfl, ?_⟩) ?_ ?_
          rotate_left
          · intro w'
            go_simp
            with_reducible rfl
          rotate_left
          · simp only [Act.put, List.setIfInBounds_toArray, List.set_cons_zero, List.set_cons_succ, i64_w, i32_w]
            rfl
          refine pure_ (i := 7) (N := some 57) (v := ?_) (a' := ?_) #[true, true, true, true, true, true, true, true, false, false, true, false, false, false] rfl rfl (by kernel_rfl) (fun _ _ _ h => h) (Or.inl ⟨by rfl, ?_⟩) ?_ ?_
          rotate_left
          · intro w'
            go_simp
            with_reducible rfl
          rotate_left
          · simp only [Act.put, List.setIfInBounds_toArray, List.set_cons_zero, List.set_cons_succ, i64_w, i32_w]
            rfl
          refine pure_ (i := 8) (N := some 58) (v := ?_) (a' := ?_) #[true, true, true, true, true, true, true, true, true, false, true, false, false, false] rfl rfl (by kernel_rfl) (fun _ _ _ h => h) (Or.inl ⟨by rfl, ?_⟩) ?_ ?_
          rotate_left
          · intro w'
            go_simp
            with_reducible rfl
          rotate_left
          · simp only [Act.put, List.setIfInBounds_toArray, List.set_cons_zero, List.set_cons_succ, i64_w, i32_w]
            rfl
          refine pure_ (i := 9) (N := some 59) (v := ?_) (a' := ?_) #[true, true, true, true, true, true, true, true, true, true, true, false, false, false] rfl rfl (by kernel_rfl) (fun _ _ _ h => h) (Or.inl ⟨by rfl, ?_⟩) ?_ ?_
          rotate_left
          · intro w'
            go_simp
            with_reducible rfl
          rotate_left
          · simp only [Act.put, List.setIfInBounds_toArray, List.set_cons_zero, List.set_cons_succ, i64_w, i32_w]
            rfl
          exact norm_ (by simp only [putAll, Act.put, List.setIfInBounds_toArray, List.set_cons_zero, List.set_cons_succ]) (hCont w_p2_4.heap.size _ ⟨B_p2_4_10_5.out, N_p2_4_10_5.out, LE_N_p2_4_10_5.out⟩)
      · skip
        refine value_ (w1 := ?_) (v := ?_) (by rfl) rfl ?_ ?_
        rotate_left 2
        · go_simp
          constructor
          · rfl
          · rfl
        have B_p2_10 := Lib.hid (below_alloc (B_p2.out) (.cells #[.int .i64 0, .int .i64 0] 27))
        have N_p2_10 : Hid ((w_p2.alloc (.cells #[.int .i64 0, .int .i64 0] 27)).heap[w_p2.heap.size]? = some (.cells #[.int .i64 0, .int .i64 0] 27 (0, 0))) := Lib.hid (heap_alloc_new w_p2 _)
        have LE_N_p2_10 : Hid (y1.heap.size ≤ w_p2.heap.size) := Lib.hid ((B_p2.out).size)
        refine hK.out _ _ ⟨pw_cell_below B_p2_10.out CA0.out, pw_cell_below B_p2_10.out CA1.out, pw_cell_below B_p2_10.out CB0.out, pw_cell_below B_p2_10.out CB1.out⟩ (fun hHeld => ?_)
        clear hK K
        refine norm_ (a' := ?_) ?_ ?_
        rotate_left
        · show Act.put _ (some 17) _ = _
          simp only [Act.put, List.setIfInBounds_toArray, List.set_cons_zero, List.set_cons_succ, i64_w, i32_w]
          rfl
        refine one_ (i := 4) (N := some 55) #[true, true, true, true, true, false, false, false, false, false, true, false, false, false] rfl rfl (by kernel_rfl) (by decide) (fun K hK => ?_)
        refine goes_ Try.func12 (by kernel_rfl) rfl #[.agg #[.int .i64 b0, .int .i64 b1]] (by rfl) rfl rfl (by simp only [List.map_toArray, List.map_cons, List.map_nil]; rfl) ?_
        with_reducible refine (runnellaw9_as.calls b0 b1 b0 b1 _ rfl).mono ?_
        rintro e w_p2_10_4 ⟨rfl, hb_⟩
        refine ⟨_, rfl, ?_⟩
        have B_p2_10_4 := Lib.hid (below_step (B_p2_10.out) hb_)
        have N_p2_10_4 := Lib.hid (blk_below N_p2_10.out hb_)
        have LE_N_p2_10_4 := Lib.hid LE_N_p2_10.out
        clear hb_
        refine hK.out _ _ ⟨pw_cell_below B_p2_10_4.out CA0.out, pw_cell_below B_p2_10_4.out CA1.out, pw_cell_below B_p2_10_4.out CB0.out, pw_cell_below B_p2_10_4.out CB1.out⟩ (fun hHeld => ?_)
        clear hK K
        refine norm_ (a' := ?_) ?_ ?_
        rotate_left
        · show Act.put _ (some 55) _ = _
          simp only [Act.put, List.setIfInBounds_toArray, List.set_cons_zero, List.set_cons_succ, i64_w, i32_w]
          rfl
        refine one_ (i := 5) (N := some 56) #[true, true, true, true, true, true, false, false, false, false, true, false, false, false] rfl rfl (by kernel_rfl) (by decide) (fun K hK => ?_)
        refine goes_ Try.func14 (by kernel_rfl) rfl #[.string s, .agg #[.int .i64 a0, .int .i64 a1], .agg #[.int .i64 b0, .int .i64 b1]] (by rfl) rfl rfl (by simp only [List.map_toArray, List.map_cons, List.map_nil]; rfl) ?_
        with_reducible refine (runnelref9_Binary.calls k s a0 a1 b0 b1 u0 u1 u2 u3 _ H4.out).mono ?_
        rintro e w_p2_10_4_5 ⟨rfl, hb_⟩
        refine ⟨_, rfl, ?_⟩
        have B_p2_10_4_5 := Lib.hid (below_step (B_p2_10_4.out) hb_)
        have N_p2_10_4_5 := Lib.hid (blk_below N_p2_10_4.out hb_)
        have LE_N_p2_10_4_5 := Lib.hid LE_N_p2_10_4.out
        clear hb_
        refine hK.out _ _ ⟨pw_cell_below B_p2_10_4_5.out CA0.out, pw_cell_below B_p2_10_4_5.out CA1.out, pw_cell_below B_p2_10_4_5.out CB0.out, pw_cell_below B_p2_10_4_5.out CB1.out⟩ (fun hHeld => ?_)
        clear hK K
        refine norm_ (a' := ?_) ?_ ?_
        rotate_left
        · show Act.put _ (some 56) _ = _
          simp only [Act.put, List.setIfInBounds_toArray, List.set_cons_zero, List.set_cons_succ, i64_w, i32_w]
          rfl
        refine pure_ (i := 6) (N := some 50) (v := ?_) (a' := ?_) #[true, true, true, true, true, true, true, false, false, false, true, false, false, false] rfl rfl (by kernel_rfl) (fun _ _ _ h => h) (Or.inl ⟨by rfl, ?_⟩) ?_ ?_
        rotate_left
        · intro w'
          go_simp
          with_reducible rfl
        rotate_left
        · simp only [Act.put, List.setIfInBounds_toArray, List.set_cons_zero, List.set_cons_succ, i64_w, i32_w]
          rfl
        refine pure_ (i := 7) (N := some 57) (v := ?_) (a' := ?_) #[true, true, true, true, true, true, true, true, false, false, true, false, false, false] rfl rfl (by kernel_rfl) (fun _ _ _ h => h) (Or.inl ⟨by rfl, ?_⟩) ?_ ?_
        rotate_left
        · intro w'
          go_simp
          with_reducible rfl
        rotate_left
        · simp only [Act.put, List.setIfInBounds_toArray, List.set_cons_zero, List.set_cons_succ, i64_w, i32_w]
          rfl
        refine pure_ (i := 8) (N := some 58) (v := ?_) (a' := ?_) #[true, true, true, true, true, true, true, true, true, false, true, false, false, false] rfl rfl (by kernel_rfl) (fun _ _ _ h => h) (Or.inl ⟨by rfl, ?_⟩) ?_ ?_
        rotate_left
        · intro w'
          go_simp
          with_reducible rfl
        rotate_left
        · simp only [Act.put, List.setIfInBounds_toArray, List.set_cons_zero, List.set_cons_succ, i64_w, i32_w]
          rfl
        refine pure_ (i := 9) (N := some 59) (v := ?_) (a' := ?_) #[true, true, true, true, true, true, true, true, true, true, true, false, false, false] rfl rfl (by kernel_rfl) (fun _ _ _ h => h) (Or.inl ⟨by rfl, ?_⟩) ?_ ?_
        rotate_left
        · intro w'
          go_simp
          with_reducible rfl
        rotate_left
        · simp only [Act.put, List.setIfInBounds_toArray, List.set_cons_zero, List.set_cons_succ, i64_w, i32_w]
          rfl
        exact norm_ (by simp only [putAll, Act.put, List.setIfInBounds_toArray, List.set_cons_zero, List.set_cons_succ]) (hCont w_p2.heap.size _ ⟨B_p2_10_4_5.out, N_p2_10_4_5.out, LE_N_p2_10_4_5.out⟩)
    · skip
      refine value_ (w1 := ?_) (v := ?_) (by rfl) rfl ?_ ?_
      rotate_left 2
      · go_simp
        constructor
        · rfl
        · rfl
      have B_p10 := Lib.hid (below_alloc ((below_drew (Below.refl y1.heap.size y1))) (.cells #[.int .i64 0, .int .i64 0] 27))
      have N_p10 : Hid ((y1.drew.alloc (.cells #[.int .i64 0, .int .i64 0] 27)).heap[y1.heap.size]? = some (.cells #[.int .i64 0, .int .i64 0] 27 (0, 0))) := Lib.hid (heap_alloc_new y1.drew _)
      have LE_N_p10 : Hid (y1.heap.size ≤ y1.heap.size) := Lib.hid (Nat.le_refl _)
      refine hK.out _ _ ⟨pw_cell_below B_p10.out CA0.out, pw_cell_below B_p10.out CA1.out, pw_cell_below B_p10.out CB0.out, pw_cell_below B_p10.out CB1.out⟩ (fun hHeld => ?_)
      clear hK K
      refine norm_ (a' := ?_) ?_ ?_
      rotate_left
      · show Act.put _ (some 17) _ = _
        simp only [Act.put, List.setIfInBounds_toArray, List.set_cons_zero, List.set_cons_succ, i64_w, i32_w]
        rfl
      refine one_ (i := 2) (N := some 53) #[true, true, true, true, false, false, false, false, false, false, true, false, false, false] rfl rfl (by kernel_rfl) (by decide) (fun K hK => ?_)
      refine goes_ Try.func12 (by kernel_rfl) rfl #[.agg #[.int .i64 a0, .int .i64 a1]] (by rfl) rfl rfl (by simp only [List.map_toArray, List.map_cons, List.map_nil]; rfl) ?_
      with_reducible refine (runnellaw9_as.calls a0 a1 a0 a1 _ rfl).mono ?_
      rintro e w_p10_2 ⟨rfl, hb_⟩
      refine ⟨_, rfl, ?_⟩
      have B_p10_2 := Lib.hid (below_step (B_p10.out) hb_)
      have N_p10_2 := Lib.hid (blk_below N_p10.out hb_)
      have LE_N_p10_2 := Lib.hid LE_N_p10.out
      clear hb_
      refine hK.out _ _ ⟨pw_cell_below B_p10_2.out CA0.out, pw_cell_below B_p10_2.out CA1.out, pw_cell_below B_p10_2.out CB0.out, pw_cell_below B_p10_2.out CB1.out⟩ (fun hHeld => ?_)
      clear hK K
      refine norm_ (a' := ?_) ?_ ?_
      rotate_left
      · show Act.put _ (some 53) _ = _
        simp only [Act.put, List.setIfInBounds_toArray, List.set_cons_zero, List.set_cons_succ, i64_w, i32_w]
        rfl
      refine one_ (i := 4) (N := some 55) #[true, true, true, true, true, false, false, false, false, false, true, false, false, false] rfl rfl (by kernel_rfl) (by decide) (fun K hK => ?_)
      refine goes_ Try.func12 (by kernel_rfl) rfl #[.agg #[.int .i64 b0, .int .i64 b1]] (by rfl) rfl rfl (by simp only [List.map_toArray, List.map_cons, List.map_nil]; rfl) ?_
      with_reducible refine (runnellaw9_as.calls b0 b1 b0 b1 _ rfl).mono ?_
      rintro e w_p10_2_4 ⟨rfl, hb_⟩
      refine ⟨_, rfl, ?_⟩
      have B_p10_2_4 := Lib.hid (below_step (B_p10_2.out) hb_)
      have N_p10_2_4 := Lib.hid (blk_below N_p10_2.out hb_)
      have LE_N_p10_2_4 := Lib.hid LE_N_p10_2.out
      clear hb_
      refine hK.out _ _ ⟨pw_cell_below B_p10_2_4.out CA0.out, pw_cell_below B_p10_2_4.out CA1.out, pw_cell_below B_p10_2_4.out CB0.out, pw_cell_below B_p10_2_4.out CB1.out⟩ (fun hHeld => ?_)
      clear hK K
      refine norm_ (a' := ?_) ?_ ?_
      rotate_left
      · show Act.put _ (some 55) _ = _
        simp only [Act.put, List.setIfInBounds_toArray, List.set_cons_zero, List.set_cons_succ, i64_w, i32_w]
        rfl
      refine one_ (i := 5) (N := some 56) #[true, true, true, true, true, true, false, false, false, false, true, false, false, false] rfl rfl (by kernel_rfl) (by decide) (fun K hK => ?_)
      refine goes_ Try.func14 (by kernel_rfl) rfl #[.string s, .agg #[.int .i64 a0, .int .i64 a1], .agg #[.int .i64 b0, .int .i64 b1]] (by rfl) rfl rfl (by simp only [List.map_toArray, List.map_cons, List.map_nil]; rfl) ?_
      with_reducible refine (runnelref9_Binary.calls k s a0 a1 b0 b1 u0 u1 u2 u3 _ H4.out).mono ?_
      rintro e w_p10_2_4_5 ⟨rfl, hb_⟩
      refine ⟨_, rfl, ?_⟩
      have B_p10_2_4_5 := Lib.hid (below_step (B_p10_2_4.out) hb_)
      have N_p10_2_4_5 := Lib.hid (blk_below N_p10_2_4.out hb_)
      have LE_N_p10_2_4_5 := Lib.hid LE_N_p10_2_4.out
      clear hb_
      refine hK.out _ _ ⟨pw_cell_below B_p10_2_4_5.out CA0.out, pw_cell_below B_p10_2_4_5.out CA1.out, pw_cell_below B_p10_2_4_5.out CB0.out, pw_cell_below B_p10_2_4_5.out CB1.out⟩ (fun hHeld => ?_)
      clear hK K
      refine norm_ (a' := ?_) ?_ ?_
      rotate_left
      · show Act.put _ (some 56) _ = _
        simp only [Act.put, List.setIfInBounds_toArray, List.set_cons_zero, List.set_cons_succ, i64_w, i32_w]
        rfl
      refine pure_ (i := 6) (N := some 50) (v := ?_) (a' := ?_) #[true, true, true, true, true, true, true, false, false, false, true, false, false, false] rfl rfl (by kernel_rfl) (fun _ _ _ h => h) (Or.inl ⟨by rfl, ?_⟩) ?_ ?_
      rotate_left
      · intro w'
        go_simp
        with_reducible rfl
      rotate_left
      · simp only [Act.put, List.setIfInBounds_toArray, List.set_cons_zero, List.set_cons_succ, i64_w, i32_w]
        rfl
      refine pure_ (i := 7) (N := some 57) (v := ?_) (a' := ?_) #[true, true, true, true, true, true, true, true, false, false, true, false, false, false] rfl rfl (by kernel_rfl) (fun _ _ _ h => h) (Or.inl ⟨by rfl, ?_⟩) ?_ ?_
      rotate_left
      · intro w'
        go_simp
        with_reducible rfl
      rotate_left
      · simp only [Act.put, List.setIfInBounds_toArray, List.set_cons_zero, List.set_cons_succ, i64_w, i32_w]
        rfl
      refine pure_ (i := 8) (N := some 58) (v := ?_) (a' := ?_) #[true, true, true, true, true, true, true, true, true, false, true, false, false, false] rfl rfl (by kernel_rfl) (fun _ _ _ h => h) (Or.inl ⟨by rfl, ?_⟩) ?_ ?_
      rotate_left
      · intro w'
        go_simp
        with_reducible rfl
      rotate_left
      · simp only [Act.put, List.setIfInBounds_toArray, List.set_cons_zero, List.set_cons_succ, i64_w, i32_w]
        rfl
      refine pure_ (i := 9) (N := some 59) (v := ?_) (a' := ?_) #[true, true, true, true, true, true, true, true, true, true, true, false, false, false] rfl rfl (by kernel_rfl) (fun _ _ _ h => h) (Or.inl ⟨by rfl, ?_⟩) ?_ ?_
      rotate_left
      · intro w'
        go_simp
        with_reducible rfl
      rotate_left
      · simp only [Act.put, List.setIfInBounds_toArray, List.set_cons_zero, List.set_cons_succ, i64_w, i32_w]
        rfl
      exact norm_ (by simp only [putAll, Act.put, List.setIfInBounds_toArray, List.set_cons_zero, List.set_cons_succ]) (hCont y1.heap.size _ ⟨B_p10_2_4_5.out, N_p10_2_4_5.out, LE_N_p10_2_4_5.out⟩)
  rintro sp wFp ⟨hF1p, hF2p, hF3p⟩
  have hHeld := True.intro
  refine norm_ (a' := ?_) ?_ ?_
  rotate_left
  · simp only [putAll, Act.put, List.setIfInBounds_toArray, List.set_cons_zero, List.set_cons_succ]
    rfl
  refine last_ (i := 11) (N := none) #[true, true, true, true, true, true, true, true, true, true, true, true, false, false] rfl rfl (by kernel_rfl) (by decide) (fun K hK => ?_)
  have cv0 := (blk_cell hF2p 0).trans rfl
  have cv1 := (blk_cell hF2p 1).trans rfl
  have fv0 := blk_frozen hF2p 0
  have fv1 := blk_frozen hF2p 1
  refine skip_ (w1 := ?_) (by rfl) rfl ?_ ?_
  rotate_left
  · go_simp
    rfl
  refine hK.out _ _ ?_
  clear hK K
  refine pure_ (i := 12) (N := some 18) (v := ?_) (a' := ?_) #[true, true, true, true, true, true, true, true, true, true, true, true, true, false] rfl rfl (by kernel_rfl) (fun _ _ _ h => h) (Or.inl ⟨by rfl, ?_⟩) ?_ ?_
  rotate_left
  · intro w'
    go_simp
    with_reducible rfl
  rotate_left
  · simp only [Act.put, List.setIfInBounds_toArray, List.set_cons_zero, List.set_cons_succ, i64_w, i32_w]
    rfl
  refine pure_ (i := 13) (N := some 19) (v := ?_) (a' := ?_) #[true, true, true, true, true, true, true, true, true, true, true, true, true, true] rfl rfl (by kernel_rfl) (fun _ _ _ h => h) (Or.inl ⟨by rfl, ?_⟩) ?_ ?_
  rotate_left
  · intro w'
    go_simp
    with_reducible rfl
  rotate_left
  · simp only [Act.put, List.setIfInBounds_toArray, List.set_cons_zero, List.set_cons_succ, i64_w, i32_w]
    rfl
  refine done_ (by kernel_rfl) ?_
  go_wp2_with fail
  clear cv0 cv1 fv0 fv1 CA0 CA1 CB0 CB1
  obtain ⟨y2, hw_⟩ : ∃ y2, y2 = (wFp.setCell ⟨sp, 0, none⟩ (.int .i64 u0)).setCell ⟨sp, 1, none⟩ (.int .i64 u1) := ⟨_, rfl⟩
  rw [← hw_]
  have hb_ : Below y1.heap.size y1 y2 := by rw [hw_]; exact Below.setCell (Below.setCell (hF1p) (p := ⟨sp, _, none⟩) hF3p _) (p := ⟨sp, _, none⟩) hF3p _
  have n_v : Hid (y2.heap[sp]? = some (.cells #[.int .i64 u0, .int .i64 u1] 27 (0, 0))) := Lib.hid (by rw [hw_]; exact blk_put (blk_put (hF2p) 0 _ rfl) 1 _ rfl)
  have n_A : Hid (y2.heap[w.heap.size]? = some (.cells #[.int .i64 a0, .int .i64 a1] 23 (0, 0))) := Lib.hid (blk_below K_A.out hb_)
  have n_B : Hid (y2.heap[w.heap.size + 1]? = some (.cells #[.int .i64 b0, .int .i64 b1] 23 (0, 0))) := Lib.hid (blk_below K_B.out hb_)
  have n_x : Hid (y2.heap[w2.heap.size]? = some (.cells #[.int .i64 x0, .int .i64 x1] 23 (0, 0))) := Lib.hid (blk_below K_x.out hb_)
  have n_y : Hid (y2.heap[w4.heap.size]? = some (.cells #[.int .i64 x0, .int .i64 x1] 27 (0, 0))) := Lib.hid (blk_below K_y.out hb_)
  have n_u : Hid (y2.heap[w5.heap.size]? = some (.cells #[.int .i64 u0, .int .i64 u1] 23 (0, 0))) := Lib.hid (blk_below K_u.out hb_)
  clear K_A lt_A c_A_0 c_A_1 f_A_0 f_A_1 K_B lt_B c_B_0 c_B_1 f_B_0 f_B_1 K_x lt_x c_x_0 c_x_1 f_x_0 f_x_1 K_y lt_y c_y_0 c_y_1 f_y_0 f_y_1 K_u lt_u c_u_0 c_u_1 f_u_0 f_u_1
  have K_A := n_A
  clear n_A
  have lt_A : w.heap.size < y2.heap.size := blk_lt K_A.out
  have c_A_0 : y2.cell? ⟨w.heap.size, 0, none⟩ = some (.int .i64 a0) := (blk_cell K_A.out 0).trans rfl
  have f_A_0 : y2.frozen? ⟨w.heap.size, 0, none⟩ = false := blk_frozen K_A.out 0
  have c_A_1 : y2.cell? ⟨w.heap.size, 1, none⟩ = some (.int .i64 a1) := (blk_cell K_A.out 1).trans rfl
  have f_A_1 : y2.frozen? ⟨w.heap.size, 1, none⟩ = false := blk_frozen K_A.out 1
  have K_B := n_B
  clear n_B
  have lt_B : w.heap.size + 1 < y2.heap.size := blk_lt K_B.out
  have c_B_0 : y2.cell? ⟨w.heap.size + 1, 0, none⟩ = some (.int .i64 b0) := (blk_cell K_B.out 0).trans rfl
  have f_B_0 : y2.frozen? ⟨w.heap.size + 1, 0, none⟩ = false := blk_frozen K_B.out 0
  have c_B_1 : y2.cell? ⟨w.heap.size + 1, 1, none⟩ = some (.int .i64 b1) := (blk_cell K_B.out 1).trans rfl
  have f_B_1 : y2.frozen? ⟨w.heap.size + 1, 1, none⟩ = false := blk_frozen K_B.out 1
  have K_x := n_x
  clear n_x
  have lt_x : w2.heap.size < y2.heap.size := blk_lt K_x.out
  have c_x_0 : y2.cell? ⟨w2.heap.size, 0, none⟩ = some (.int .i64 x0) := (blk_cell K_x.out 0).trans rfl
  have f_x_0 : y2.frozen? ⟨w2.heap.size, 0, none⟩ = false := blk_frozen K_x.out 0
  have c_x_1 : y2.cell? ⟨w2.heap.size, 1, none⟩ = some (.int .i64 x1) := (blk_cell K_x.out 1).trans rfl
  have f_x_1 : y2.frozen? ⟨w2.heap.size, 1, none⟩ = false := blk_frozen K_x.out 1
  have K_y := n_y
  clear n_y
  have lt_y : w4.heap.size < y2.heap.size := blk_lt K_y.out
  have c_y_0 : y2.cell? ⟨w4.heap.size, 0, none⟩ = some (.int .i64 x0) := (blk_cell K_y.out 0).trans rfl
  have f_y_0 : y2.frozen? ⟨w4.heap.size, 0, none⟩ = false := blk_frozen K_y.out 0
  have c_y_1 : y2.cell? ⟨w4.heap.size, 1, none⟩ = some (.int .i64 x1) := (blk_cell K_y.out 1).trans rfl
  have f_y_1 : y2.frozen? ⟨w4.heap.size, 1, none⟩ = false := blk_frozen K_y.out 1
  have K_u := n_u
  clear n_u
  have lt_u : w5.heap.size < y2.heap.size := blk_lt K_u.out
  have c_u_0 : y2.cell? ⟨w5.heap.size, 0, none⟩ = some (.int .i64 u0) := (blk_cell K_u.out 0).trans rfl
  have f_u_0 : y2.frozen? ⟨w5.heap.size, 0, none⟩ = false := blk_frozen K_u.out 0
  have c_u_1 : y2.cell? ⟨w5.heap.size, 1, none⟩ = some (.int .i64 u1) := (blk_cell K_u.out 1).trans rfl
  have f_u_1 : y2.frozen? ⟨w5.heap.size, 1, none⟩ = false := blk_frozen K_u.out 1
  have K_v := n_v
  clear n_v
  have lt_v : sp < y2.heap.size := blk_lt K_v.out
  have c_v_0 : y2.cell? ⟨sp, 0, none⟩ = some (.int .i64 u0) := (blk_cell K_v.out 0).trans rfl
  have f_v_0 : y2.frozen? ⟨sp, 0, none⟩ = false := blk_frozen K_v.out 0
  have c_v_1 : y2.cell? ⟨sp, 1, none⟩ = some (.int .i64 u1) := (blk_cell K_v.out 1).trans rfl
  have f_v_1 : y2.frozen? ⟨sp, 1, none⟩ = false := blk_frozen K_v.out 1
  have nB := Lib.hid (below_step HB.out hb_)
  clear HB hb_ hw_
  have HB := nB
  clear nB
  clear K_A lt_A c_A_0 c_A_1 f_A_0 f_A_1
  clear K_B lt_B c_B_0 c_B_1 f_B_0 f_B_1
  refine start_ (n := 33) (S := fun w' => w'.cell? ⟨w2.heap.size, 0, none⟩ = some (.int .i64 x0) ∧ w'.cell? ⟨w2.heap.size, 1, none⟩ = some (.int .i64 x1) ∧ w'.cell? ⟨w4.heap.size, 0, none⟩ = some (.int .i64 x0) ∧ w'.cell? ⟨w4.heap.size, 1, none⟩ = some (.int .i64 x1) ∧ w'.cell? ⟨w5.heap.size, 0, none⟩ = some (.int .i64 u0) ∧ w'.cell? ⟨w5.heap.size, 1, none⟩ = some (.int .i64 u1) ∧ w'.cell? ⟨sp, 0, none⟩ = some (.int .i64 u0) ∧ w'.cell? ⟨sp, 1, none⟩ = some (.int .i64 u1)) (ds := []) #[false, false, false, false, false, false, false, false, false, false, false, false, false, false, false, false, false, false, false, false, false, false, false, false, false, false, false, false, false, false, false, false, false] (by kernel_rfl) rfl rfl ⟨cell_drew c_x_0, cell_drew c_x_1, cell_drew c_y_0, cell_drew c_y_1, cell_drew c_u_0, cell_drew c_u_1, cell_drew c_v_0, cell_drew c_v_1⟩ (fun hHeld => ?_)
  refine take_ (i := 0) (N := some 60) (v := ?_) (a' := ?_) #[true, false, false, false, false, false, false, false, false, false, false, false, false, false, false, false, false, false, false, false, false, false, false, false, false, false, false, false, false, false, false, false, false] rfl rfl (by kernel_rfl) (fun _ _ _ h => h) (Or.inl ⟨by rfl, ?_⟩) hHeld ?_ ?_
  rotate_left
  · rintro w' ⟨s0, s1, s2, s3, s4, s5, s6, s7⟩
    go_simp
    with_reducible rfl
  rotate_left
  · simp only [Act.put, List.setIfInBounds_toArray, List.set_cons_zero, List.set_cons_succ, i64_w, i32_w]
    rfl
  refine take_ (i := 2) (N := some 62) (v := ?_) (a' := ?_) #[true, false, true, false, false, false, false, false, false, false, false, false, false, false, false, false, false, false, false, false, false, false, false, false, false, false, false, false, false, false, false, false, false] rfl rfl (by kernel_rfl) (fun _ _ _ h => h) (Or.inl ⟨by rfl, ?_⟩) hHeld ?_ ?_
  rotate_left
  · rintro w' ⟨s0, s1, s2, s3, s4, s5, s6, s7⟩
    go_simp
    with_reducible rfl
  rotate_left
  · simp only [Act.put, List.setIfInBounds_toArray, List.set_cons_zero, List.set_cons_succ, i64_w, i32_w]
    rfl
  refine one_ (i := 1) (N := some 61) #[true, true, true, false, false, false, false, false, false, false, false, false, false, false, false, false, false, false, false, false, false, false, false, false, false, false, false, false, false, false, false, false, false] rfl rfl (by kernel_rfl) (by decide) (fun K hK => ?_)
  refine goes_ Try.func12 (by kernel_rfl) rfl #[.agg #[.int .i64 x0, .int .i64 x1]] (by rfl) rfl rfl (by simp only [List.map_toArray, List.map_cons, List.map_nil]; rfl) ?_
  with_reducible refine (runnellaw9_as.calls x0 x1 x0 x1 _ rfl).mono ?_
  rintro e z1 ⟨rfl, hb_⟩
  refine ⟨_, rfl, ?_⟩
  have Q_z1 := Lib.hid (below_step (below_drew (Below.refl y2.heap.size y2)) hb_)
  have R_z1 := Lib.hid hb_
  clear hb_
  refine hK.out _ _ ⟨pw_cell_below R_z1.out hHeld.1, pw_cell_below R_z1.out hHeld.2.1, pw_cell_below R_z1.out hHeld.2.2.1, pw_cell_below R_z1.out hHeld.2.2.2.1, pw_cell_below R_z1.out hHeld.2.2.2.2.1, pw_cell_below R_z1.out hHeld.2.2.2.2.2.1, pw_cell_below R_z1.out hHeld.2.2.2.2.2.2.1, pw_cell_below R_z1.out hHeld.2.2.2.2.2.2.2⟩ (fun hHeld => ?_)
  clear hK K
  refine norm_ (a' := ?_) ?_ ?_
  rotate_left
  · show Act.put _ (some 61) _ = _
    simp only [Act.put, List.setIfInBounds_toArray, List.set_cons_zero, List.set_cons_succ, i64_w, i32_w]
    rfl
  refine pure_ (i := 3) (N := some 63) (v := ?_) (a' := ?_) #[true, true, true, true, false, false, false, false, false, false, false, false, false, false, false, false, false, false, false, false, false, false, false, false, false, false, false, false, false, false, false, false, false] rfl rfl (by kernel_rfl) (fun _ _ _ h => h) (Or.inl ⟨by rfl, ?_⟩) ?_ ?_
  rotate_left
  · intro w'
    go_simp
    with_reducible rfl
  rotate_left
  · simp only [Act.put, List.setIfInBounds_toArray, List.set_cons_zero, List.set_cons_succ, i64_w, i32_w]
    rfl
  refine pure_ (i := 4) (N := some 64) (v := ?_) (a' := ?_) #[true, true, true, true, true, false, false, false, false, false, false, false, false, false, false, false, false, false, false, false, false, false, false, false, false, false, false, false, false, false, false, false, false] rfl rfl (by kernel_rfl) (fun _ _ _ h => h) (Or.inl ⟨by rfl, ?_⟩) ?_ ?_
  rotate_left
  · intro w'
    go_simp
    with_reducible rfl
  rotate_left
  · simp only [Act.put, List.setIfInBounds_toArray, List.set_cons_zero, List.set_cons_succ, i64_w, i32_w]
    rfl
  refine pure_ (i := 5) (N := some 65) (v := ?_) (a' := ?_) #[true, true, true, true, true, true, false, false, false, false, false, false, false, false, false, false, false, false, false, false, false, false, false, false, false, false, false, false, false, false, false, false, false] rfl rfl (by kernel_rfl) (fun _ _ _ h => h) (Or.inl ⟨by rfl, ?_⟩) ?_ ?_
  rotate_left
  · intro w'
    go_simp
    with_reducible rfl
  rotate_left
  · simp only [Act.put, List.setIfInBounds_toArray, List.set_cons_zero, List.set_cons_succ, i64_w, i32_w]
    rfl
  refine pure_ (i := 6) (N := some 66) (v := ?_) (a' := ?_) #[true, true, true, true, true, true, true, false, false, false, false, false, false, false, false, false, false, false, false, false, false, false, false, false, false, false, false, false, false, false, false, false, false] rfl rfl (by kernel_rfl) (fun _ _ _ h => h) (Or.inl ⟨by rfl, ?_⟩) ?_ ?_
  rotate_left
  · intro w'
    go_simp
    with_reducible rfl
  rotate_left
  · simp only [Act.put, List.setIfInBounds_toArray, List.set_cons_zero, List.set_cons_succ, i64_w, i32_w]
    rfl
  refine pure_ (i := 7) (N := some 67) (v := ?_) (a' := ?_) #[true, true, true, true, true, true, true, true, false, false, false, false, false, false, false, false, false, false, false, false, false, false, false, false, false, false, false, false, false, false, false, false, false] rfl rfl (by kernel_rfl) (fun _ _ _ h => h) (Or.inl ⟨by rfl, ?_⟩) ?_ ?_
  rotate_left
  · intro w'
    go_simp
    with_reducible rfl
  rotate_left
  · simp only [Act.put, List.setIfInBounds_toArray, List.set_cons_zero, List.set_cons_succ, i64_w, i32_w]
    rfl
  refine pure_ (i := 8) (N := some 68) (v := ?_) (a' := ?_) #[true, true, true, true, true, true, true, true, true, false, false, false, false, false, false, false, false, false, false, false, false, false, false, false, false, false, false, false, false, false, false, false, false] rfl rfl (by kernel_rfl) (fun _ _ _ h => h) (Or.inl ⟨by rfl, ?_⟩) ?_ ?_
  rotate_left
  · intro w'
    go_simp
    with_reducible rfl
  rotate_left
  · simp only [Act.put, List.setIfInBounds_toArray, List.set_cons_zero, List.set_cons_succ, i64_w, i32_w]
    rfl
  refine pure_ (i := 9) (N := some 69) (v := ?_) (a' := ?_) #[true, true, true, true, true, true, true, true, true, true, false, false, false, false, false, false, false, false, false, false, false, false, false, false, false, false, false, false, false, false, false, false, false] rfl rfl (by kernel_rfl) (fun _ _ _ h => h) (Or.inl ⟨by rfl, ?_⟩) ?_ ?_
  rotate_left
  · intro w'
    go_simp
    with_reducible rfl
  rotate_left
  · simp only [Act.put, List.setIfInBounds_toArray, List.set_cons_zero, List.set_cons_succ, i64_w, i32_w]
    rfl
  refine take_ (i := 10) (N := some 70) (v := ?_) (a' := ?_) #[true, true, true, true, true, true, true, true, true, true, true, false, false, false, false, false, false, false, false, false, false, false, false, false, false, false, false, false, false, false, false, false, false] rfl rfl (by kernel_rfl) (fun _ _ _ h => h) (Or.inl ⟨by rfl, ?_⟩) hHeld ?_ ?_
  rotate_left
  · rintro w' ⟨s0, s1, s2, s3, s4, s5, s6, s7⟩
    go_simp
    with_reducible rfl
  rotate_left
  · simp only [Act.put, List.setIfInBounds_toArray, List.set_cons_zero, List.set_cons_succ, i64_w, i32_w]
    rfl
  refine take_ (i := 12) (N := some 72) (v := ?_) (a' := ?_) #[true, true, true, true, true, true, true, true, true, true, true, false, true, false, false, false, false, false, false, false, false, false, false, false, false, false, false, false, false, false, false, false, false] rfl rfl (by kernel_rfl) (fun _ _ _ h => h) (Or.inl ⟨by rfl, ?_⟩) hHeld ?_ ?_
  rotate_left
  · rintro w' ⟨s0, s1, s2, s3, s4, s5, s6, s7⟩
    go_simp
    with_reducible rfl
  rotate_left
  · simp only [Act.put, List.setIfInBounds_toArray, List.set_cons_zero, List.set_cons_succ, i64_w, i32_w]
    rfl
  refine one_ (i := 11) (N := some 71) #[true, true, true, true, true, true, true, true, true, true, true, true, true, false, false, false, false, false, false, false, false, false, false, false, false, false, false, false, false, false, false, false, false] rfl rfl (by kernel_rfl) (by decide) (fun K hK => ?_)
  refine goes_ Try.func12 (by kernel_rfl) rfl #[.agg #[.int .i64 u0, .int .i64 u1]] (by rfl) rfl rfl (by simp only [List.map_toArray, List.map_cons, List.map_nil]; rfl) ?_
  with_reducible refine (runnellaw9_as.calls u0 u1 u0 u1 _ rfl).mono ?_
  rintro e z2 ⟨rfl, hb_⟩
  refine ⟨_, rfl, ?_⟩
  have Q_z2 := Lib.hid (below_step Q_z1.out hb_)
  have R_z2 := Lib.hid hb_
  clear hb_
  refine hK.out _ _ ⟨pw_cell_below R_z2.out hHeld.1, pw_cell_below R_z2.out hHeld.2.1, pw_cell_below R_z2.out hHeld.2.2.1, pw_cell_below R_z2.out hHeld.2.2.2.1, pw_cell_below R_z2.out hHeld.2.2.2.2.1, pw_cell_below R_z2.out hHeld.2.2.2.2.2.1, pw_cell_below R_z2.out hHeld.2.2.2.2.2.2.1, pw_cell_below R_z2.out hHeld.2.2.2.2.2.2.2⟩ (fun hHeld => ?_)
  clear hK K
  refine norm_ (a' := ?_) ?_ ?_
  rotate_left
  · show Act.put _ (some 71) _ = _
    simp only [Act.put, List.setIfInBounds_toArray, List.set_cons_zero, List.set_cons_succ, i64_w, i32_w]
    rfl
  refine pure_ (i := 13) (N := some 73) (v := ?_) (a' := ?_) #[true, true, true, true, true, true, true, true, true, true, true, true, true, true, false, false, false, false, false, false, false, false, false, false, false, false, false, false, false, false, false, false, false] rfl rfl (by kernel_rfl) (fun _ _ _ h => h) (Or.inl ⟨by rfl, ?_⟩) ?_ ?_
  rotate_left
  · intro w'
    go_simp
    with_reducible rfl
  rotate_left
  · simp only [Act.put, List.setIfInBounds_toArray, List.set_cons_zero, List.set_cons_succ, i64_w, i32_w]
    rfl
  refine pure_ (i := 14) (N := some 74) (v := ?_) (a' := ?_) #[true, true, true, true, true, true, true, true, true, true, true, true, true, true, true, false, false, false, false, false, false, false, false, false, false, false, false, false, false, false, false, false, false] rfl rfl (by kernel_rfl) (fun _ _ _ h => h) (Or.inl ⟨by rfl, ?_⟩) ?_ ?_
  rotate_left
  · intro w'
    go_simp
    with_reducible rfl
  rotate_left
  · simp only [Act.put, List.setIfInBounds_toArray, List.set_cons_zero, List.set_cons_succ, i64_w, i32_w]
    rfl
  refine pure_ (i := 15) (N := some 75) (v := ?_) (a' := ?_) #[true, true, true, true, true, true, true, true, true, true, true, true, true, true, true, true, false, false, false, false, false, false, false, false, false, false, false, false, false, false, false, false, false] rfl rfl (by kernel_rfl) (fun _ _ _ h => h) (Or.inl ⟨by rfl, ?_⟩) ?_ ?_
  rotate_left
  · intro w'
    go_simp
    with_reducible rfl
  rotate_left
  · simp only [Act.put, List.setIfInBounds_toArray, List.set_cons_zero, List.set_cons_succ, i64_w, i32_w]
    rfl
  refine pure_ (i := 16) (N := some 76) (v := ?_) (a' := ?_) #[true, true, true, true, true, true, true, true, true, true, true, true, true, true, true, true, true, false, false, false, false, false, false, false, false, false, false, false, false, false, false, false, false] rfl rfl (by kernel_rfl) (fun _ _ _ h => h) (Or.inl ⟨by rfl, ?_⟩) ?_ ?_
  rotate_left
  · intro w'
    go_simp
    with_reducible rfl
  rotate_left
  · simp only [Act.put, List.setIfInBounds_toArray, List.set_cons_zero, List.set_cons_succ, i64_w, i32_w]
    rfl
  refine pure_ (i := 17) (N := some 77) (v := ?_) (a' := ?_) #[true, true, true, true, true, true, true, true, true, true, true, true, true, true, true, true, true, true, false, false, false, false, false, false, false, false, false, false, false, false, false, false, false] rfl rfl (by kernel_rfl) (fun _ _ _ h => h) (Or.inl ⟨by rfl, ?_⟩) ?_ ?_
  rotate_left
  · intro w'
    go_simp
    with_reducible rfl
  rotate_left
  · simp only [Act.put, List.setIfInBounds_toArray, List.set_cons_zero, List.set_cons_succ, i64_w, i32_w]
    rfl
  refine pure_ (i := 18) (N := some 78) (v := ?_) (a' := ?_) #[true, true, true, true, true, true, true, true, true, true, true, true, true, true, true, true, true, true, true, false, false, false, false, false, false, false, false, false, false, false, false, false, false] rfl rfl (by kernel_rfl) (fun _ _ _ h => h) (Or.inl ⟨by rfl, ?_⟩) ?_ ?_
  rotate_left
  · intro w'
    go_simp
    with_reducible rfl
  rotate_left
  · simp only [Act.put, List.setIfInBounds_toArray, List.set_cons_zero, List.set_cons_succ, i64_w, i32_w]
    rfl
  refine pure_ (i := 19) (N := some 79) (v := ?_) (a' := ?_) #[true, true, true, true, true, true, true, true, true, true, true, true, true, true, true, true, true, true, true, true, false, false, false, false, false, false, false, false, false, false, false, false, false] rfl rfl (by kernel_rfl) (fun _ _ _ h => h) (Or.inl ⟨by rfl, ?_⟩) ?_ ?_
  rotate_left
  · intro w'
    go_simp
    with_reducible rfl
  rotate_left
  · simp only [Act.put, List.setIfInBounds_toArray, List.set_cons_zero, List.set_cons_succ, i64_w, i32_w]
    rfl
  refine pure_ (i := 20) (N := some 80) (v := ?_) (a' := ?_) #[true, true, true, true, true, true, true, true, true, true, true, true, true, true, true, true, true, true, true, true, true, false, false, false, false, false, false, false, false, false, false, false, false] rfl rfl (by kernel_rfl) (fun _ _ _ h => h) (Or.inl ⟨by rfl, ?_⟩) ?_ ?_
  rotate_left
  · intro w'
    go_simp
    with_reducible rfl
  rotate_left
  · simp only [Act.put, List.setIfInBounds_toArray, List.set_cons_zero, List.set_cons_succ, i64_w, i32_w]
    rfl
  refine pure_ (i := 21) (N := some 81) (v := ?_) (a' := ?_) #[true, true, true, true, true, true, true, true, true, true, true, true, true, true, true, true, true, true, true, true, true, true, false, false, false, false, false, false, false, false, false, false, false] rfl rfl (by kernel_rfl) (fun _ _ _ h => h) (Or.inl ⟨by rfl, ?_⟩) ?_ ?_
  rotate_left
  · intro w'
    go_simp
    with_reducible rfl
  rotate_left
  · simp only [Act.put, List.setIfInBounds_toArray, List.set_cons_zero, List.set_cons_succ, i64_w, i32_w]
    rfl
  refine pure_ (i := 22) (N := some 82) (v := ?_) (a' := ?_) #[true, true, true, true, true, true, true, true, true, true, true, true, true, true, true, true, true, true, true, true, true, true, true, false, false, false, false, false, false, false, false, false, false] rfl rfl (by kernel_rfl) (fun _ _ _ h => h) (Or.inl ⟨by rfl, ?_⟩) ?_ ?_
  rotate_left
  · intro w'
    go_simp
    with_reducible rfl
  rotate_left
  · simp only [Act.put, List.setIfInBounds_toArray, List.set_cons_zero, List.set_cons_succ, i64_w, i32_w]
    rfl
  refine pure_ (i := 23) (N := some 83) (v := ?_) (a' := ?_) #[true, true, true, true, true, true, true, true, true, true, true, true, true, true, true, true, true, true, true, true, true, true, true, true, false, false, false, false, false, false, false, false, false] rfl rfl (by kernel_rfl) (fun _ _ _ h => h) (Or.inl ⟨by rfl, ?_⟩) ?_ ?_
  rotate_left
  · intro w'
    go_simp
    with_reducible rfl
  rotate_left
  · simp only [Act.put, List.setIfInBounds_toArray, List.set_cons_zero, List.set_cons_succ, i64_w, i32_w]
    rfl
  refine pure_ (i := 24) (N := some 84) (v := ?_) (a' := ?_) #[true, true, true, true, true, true, true, true, true, true, true, true, true, true, true, true, true, true, true, true, true, true, true, true, true, false, false, false, false, false, false, false, false] rfl rfl (by kernel_rfl) (fun _ _ _ h => h) (Or.inl ⟨by rfl, ?_⟩) ?_ ?_
  rotate_left
  · intro w'
    go_simp
    with_reducible rfl
  rotate_left
  · simp only [Act.put, List.setIfInBounds_toArray, List.set_cons_zero, List.set_cons_succ, i64_w, i32_w]
    rfl
  refine pure_ (i := 25) (N := some 85) (v := ?_) (a' := ?_) #[true, true, true, true, true, true, true, true, true, true, true, true, true, true, true, true, true, true, true, true, true, true, true, true, true, true, false, false, false, false, false, false, false] rfl rfl (by kernel_rfl) (fun _ _ _ h => h) (Or.inl ⟨by rfl, ?_⟩) ?_ ?_
  rotate_left
  · intro w'
    go_simp
    with_reducible rfl
  rotate_left
  · simp only [Act.put, List.setIfInBounds_toArray, List.set_cons_zero, List.set_cons_succ, i64_w, i32_w]
    rfl
  refine pure_ (i := 26) (N := some 86) (v := ?_) (a' := ?_) #[true, true, true, true, true, true, true, true, true, true, true, true, true, true, true, true, true, true, true, true, true, true, true, true, true, true, true, false, false, false, false, false, false] rfl rfl (by kernel_rfl) (fun _ _ _ h => h) (Or.inl ⟨by rfl, ?_⟩) ?_ ?_
  rotate_left
  · intro w'
    go_simp
    with_reducible rfl
  rotate_left
  · simp only [Act.put, List.setIfInBounds_toArray, List.set_cons_zero, List.set_cons_succ, i64_w, i32_w]
    rfl
  refine pure_ (i := 28) (N := some 88) (v := ?_) (a' := ?_) #[true, true, true, true, true, true, true, true, true, true, true, true, true, true, true, true, true, true, true, true, true, true, true, true, true, true, true, false, true, false, false, false, false] rfl rfl (by kernel_rfl) (fun _ _ _ h => h) (Or.inl ⟨by rfl, ?_⟩) ?_ ?_
  rotate_left
  · intro w'
    go_simp
    with_reducible rfl
  rotate_left
  · simp only [Act.put, List.setIfInBounds_toArray, List.set_cons_zero, List.set_cons_succ, i64_w, i32_w]
    rfl
  refine pure_ (i := 29) (N := some 89) (v := ?_) (a' := ?_) #[true, true, true, true, true, true, true, true, true, true, true, true, true, true, true, true, true, true, true, true, true, true, true, true, true, true, true, false, true, true, false, false, false] rfl rfl (by kernel_rfl) (fun _ _ _ h => h) (Or.inl ⟨by rfl, ?_⟩) ?_ ?_
  rotate_left
  · intro w'
    go_simp
    with_reducible rfl
  rotate_left
  · simp only [Act.put, List.setIfInBounds_toArray, List.set_cons_zero, List.set_cons_succ, i64_w, i32_w]
    rfl
  refine one_ (i := 27) (N := some 87) #[true, true, true, true, true, true, true, true, true, true, true, true, true, true, true, true, true, true, true, true, true, true, true, true, true, true, true, true, true, true, false, false, false] rfl rfl (by kernel_rfl) (by decide) (fun K hK => ?_)
  refine goes_ Try.func15 (by kernel_rfl) rfl #[.int .i64 kind] (by rfl) rfl rfl (by simp only [List.map_toArray, List.map_cons, List.map_nil]; rfl) ?_
  with_reducible refine (value_Zero.calls kind kind 0 _ rfl).mono ?_
  rintro e z3 ⟨rfl, hb_⟩
  refine ⟨_, rfl, ?_⟩
  have Q_z3 := Lib.hid (below_step Q_z2.out hb_)
  have R_z3 := Lib.hid hb_
  clear hb_
  refine hK.out _ _ ⟨pw_cell_below R_z3.out hHeld.1, pw_cell_below R_z3.out hHeld.2.1, pw_cell_below R_z3.out hHeld.2.2.1, pw_cell_below R_z3.out hHeld.2.2.2.1, pw_cell_below R_z3.out hHeld.2.2.2.2.1, pw_cell_below R_z3.out hHeld.2.2.2.2.2.1, pw_cell_below R_z3.out hHeld.2.2.2.2.2.2.1, pw_cell_below R_z3.out hHeld.2.2.2.2.2.2.2⟩ (fun hHeld => ?_)
  clear hK K
  refine norm_ (a' := ?_) ?_ ?_
  rotate_left
  · show Act.put _ (some 87) _ = _
    simp only [Act.put, List.setIfInBounds_toArray, List.set_cons_zero, List.set_cons_succ, i64_w, i32_w]
    rfl
  refine pure_ (i := 30) (N := some 90) (v := ?_) (a' := ?_) #[true, true, true, true, true, true, true, true, true, true, true, true, true, true, true, true, true, true, true, true, true, true, true, true, true, true, true, true, true, true, true, false, false] rfl rfl (by kernel_rfl) (fun _ _ _ h => h) (Or.inl ⟨by rfl, ?_⟩) ?_ ?_
  rotate_left
  · intro w'
    go_simp
    with_reducible rfl
  rotate_left
  · simp only [Act.put, List.setIfInBounds_toArray, List.set_cons_zero, List.set_cons_succ, i64_w, i32_w]
    rfl
  refine pure_ (i := 31) (N := some 91) (v := ?_) (a' := ?_) #[true, true, true, true, true, true, true, true, true, true, true, true, true, true, true, true, true, true, true, true, true, true, true, true, true, true, true, true, true, true, true, true, false] rfl rfl (by kernel_rfl) (fun _ _ _ h => h) (Or.inl ⟨by rfl, ?_⟩) ?_ ?_
  rotate_left
  · intro w'
    go_simp
    with_reducible rfl
  rotate_left
  · simp only [Act.put, List.setIfInBounds_toArray, List.set_cons_zero, List.set_cons_succ, i64_w, i32_w]
    rfl
  refine pure_ (i := 32) (N := some 8) (v := ?_) (a' := ?_) #[true, true, true, true, true, true, true, true, true, true, true, true, true, true, true, true, true, true, true, true, true, true, true, true, true, true, true, true, true, true, true, true, true] rfl rfl (by kernel_rfl) (fun _ _ _ h => h) (Or.inl ⟨by rfl, ?_⟩) ?_ ?_
  rotate_left
  · intro w'
    go_simp
    with_reducible rfl
  rotate_left
  · simp only [Act.put, List.setIfInBounds_toArray, List.set_cons_zero, List.set_cons_succ, i64_w, i32_w]
    rfl
  refine done_ (by kernel_rfl) ?_
  go_wp2_with fail
  go_ret
  exact ⟨rfl, below_step HB.out Q_z3.out⟩
end Go.Proofs.Ytkhlfdcjgooogaa.P
