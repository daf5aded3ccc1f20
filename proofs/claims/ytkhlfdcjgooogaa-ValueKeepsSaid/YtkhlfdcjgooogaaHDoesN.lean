/- does: an act of both heaps. -/
import Derived.Test.YtkhlfdcjgooogaaTwo
import Derived.Test.YtkhlfdcjgooogaaPf12
import Derived.Test.YtkhlfdcjgooogaaPf39
namespace Go.Proofs.Ytkhlfdcjgooogaa.P
open Go.RowKit Go.Proofs.YtkhlfdcjgooogaaW.PrintWords Go.Proofs.YtkhlfdcjgooogaaW.PrintLast Go.Proofs.YtkhlfdcjgooogaaW.PrintMore
set_option linter.unusedVariables false
set_option linter.unusedSimpArgs false
theorem pick_below (a r : Int) (w : World) (h : runnellaw9_pick.f a 4 = some r) : Calls Try.prog 39 #[.int .i64 a, .int .i64 4] w fun e w' => e = .returned (.int .i64 r) ∧ Below w.heap.size w w' :=
  (runnellaw9_pick.calls a 4 r w h).mono fun _ _ hh => ⟨hh.1, hh.2.below⟩
set_option maxRecDepth 100000 in
set_option maxHeartbeats 8000000 in
theorem does_newC {w : World} {Bh Bm : Nat} {okh okm : Nat → Prop} {L M : List (List Int)} (o n a an i ii v vn : Int) {x0 x1 e : Int} {one two : Bool} (hx : newK L n = x0 ∧ newN L n = x1 ∧ newE L n = e ∧ newR L n = one) (hy : newK M n = x0 ∧ newN M n = x1 ∧ newE M n = e ∧ newR M n = two) (T : Two w Bh Bm okh okm L M) (hp : runnellaw9_pick.f o 4 = some 0) :
    Calls Try.prog 17 #[.pointer (some ⟨Bh, 0, none⟩), .pointer (some ⟨Bm, 0, none⟩), .agg #[.int .i64 o, .int .i64 n, .int .i64 a, .int .i64 an, .int .i64 i, .int .i64 ii, .int .i64 v, .int .i64 vn]] w fun e w' => e = .returned (.bool (one == two)) ∧ After w Bh Bm okh okm (newL L n) (newL M n) w' := by
  have HX := Lib.hid hx
  have HY := Lib.hid hy
  clear hx hy
  have HP := Lib.hid hp
  have R := Lib.hid (Run.start T)
  clear hp T
  go_enter Try.func17, Try.ntmps17
  go_wp2_with fail
  obtain ⟨a1, hw_⟩ : ∃ W_, W_ = w.alloc (.cells #[.int .i64 o, .int .i64 n, .int .i64 a, .int .i64 an, .int .i64 i, .int .i64 ii, .int .i64 v, .int .i64 vn] 53) := ⟨_, rfl⟩
  rw [← hw_]
  have hb_ : Below w.heap.size w a1 := by rw [hw_]; exact below_alloc (Below.refl _ _) _
  have n_A : Hid (Var a1 okh okm w.heap.size #[.int .i64 o, .int .i64 n, .int .i64 a, .int .i64 an, .int .i64 i, .int .i64 ii, .int .i64 v, .int .i64 vn] 53) := Lib.hid (Var.fresh R.out.two (by rw [hw_]; exact heap_alloc_new _ _) (Nat.le_refl _))
  have V_A := n_A
  clear n_A
  have lt_A : w.heap.size < a1.heap.size := blk_lt V_A.out.blk
  have c_A_0 : a1.cell? ⟨w.heap.size, 0, none⟩ = some (.int .i64 o) := (blk_cell V_A.out.blk 0).trans rfl
  have f_A_0 : a1.frozen? ⟨w.heap.size, 0, none⟩ = false := blk_frozen V_A.out.blk 0
  have c_A_1 : a1.cell? ⟨w.heap.size, 1, none⟩ = some (.int .i64 n) := (blk_cell V_A.out.blk 1).trans rfl
  have f_A_1 : a1.frozen? ⟨w.heap.size, 1, none⟩ = false := blk_frozen V_A.out.blk 1
  have c_A_2 : a1.cell? ⟨w.heap.size, 2, none⟩ = some (.int .i64 a) := (blk_cell V_A.out.blk 2).trans rfl
  have f_A_2 : a1.frozen? ⟨w.heap.size, 2, none⟩ = false := blk_frozen V_A.out.blk 2
  have c_A_3 : a1.cell? ⟨w.heap.size, 3, none⟩ = some (.int .i64 an) := (blk_cell V_A.out.blk 3).trans rfl
  have f_A_3 : a1.frozen? ⟨w.heap.size, 3, none⟩ = false := blk_frozen V_A.out.blk 3
  have c_A_4 : a1.cell? ⟨w.heap.size, 4, none⟩ = some (.int .i64 i) := (blk_cell V_A.out.blk 4).trans rfl
  have f_A_4 : a1.frozen? ⟨w.heap.size, 4, none⟩ = false := blk_frozen V_A.out.blk 4
  have c_A_5 : a1.cell? ⟨w.heap.size, 5, none⟩ = some (.int .i64 ii) := (blk_cell V_A.out.blk 5).trans rfl
  have f_A_5 : a1.frozen? ⟨w.heap.size, 5, none⟩ = false := blk_frozen V_A.out.blk 5
  have c_A_6 : a1.cell? ⟨w.heap.size, 6, none⟩ = some (.int .i64 v) := (blk_cell V_A.out.blk 6).trans rfl
  have f_A_6 : a1.frozen? ⟨w.heap.size, 6, none⟩ = false := blk_frozen V_A.out.blk 6
  have c_A_7 : a1.cell? ⟨w.heap.size, 7, none⟩ = some (.int .i64 vn) := (blk_cell V_A.out.blk 7).trans rfl
  have f_A_7 : a1.frozen? ⟨w.heap.size, 7, none⟩ = false := blk_frozen V_A.out.blk 7
  have nR := Lib.hid (R.out.below hb_)
  clear R
  have R := nR
  clear nR
  clear hb_ hw_
  refine (pick_below o 0 _ HP.out).mono ?_
  rintro e_ w_1 ⟨rfl, hb_⟩
  have n_A : Hid (Var w_1 okh okm w.heap.size #[.int .i64 o, .int .i64 n, .int .i64 a, .int .i64 an, .int .i64 i, .int .i64 ii, .int .i64 v, .int .i64 vn] 53) := Lib.hid (V_A.out.below hb_)
  clear V_A lt_A c_A_0 f_A_0 c_A_1 f_A_1 c_A_2 f_A_2 c_A_3 f_A_3 c_A_4 f_A_4 c_A_5 f_A_5 c_A_6 f_A_6 c_A_7 f_A_7
  have V_A := n_A
  clear n_A
  have lt_A : w.heap.size < w_1.heap.size := blk_lt V_A.out.blk
  have c_A_0 : w_1.cell? ⟨w.heap.size, 0, none⟩ = some (.int .i64 o) := (blk_cell V_A.out.blk 0).trans rfl
  have f_A_0 : w_1.frozen? ⟨w.heap.size, 0, none⟩ = false := blk_frozen V_A.out.blk 0
  have c_A_1 : w_1.cell? ⟨w.heap.size, 1, none⟩ = some (.int .i64 n) := (blk_cell V_A.out.blk 1).trans rfl
  have f_A_1 : w_1.frozen? ⟨w.heap.size, 1, none⟩ = false := blk_frozen V_A.out.blk 1
  have c_A_2 : w_1.cell? ⟨w.heap.size, 2, none⟩ = some (.int .i64 a) := (blk_cell V_A.out.blk 2).trans rfl
  have f_A_2 : w_1.frozen? ⟨w.heap.size, 2, none⟩ = false := blk_frozen V_A.out.blk 2
  have c_A_3 : w_1.cell? ⟨w.heap.size, 3, none⟩ = some (.int .i64 an) := (blk_cell V_A.out.blk 3).trans rfl
  have f_A_3 : w_1.frozen? ⟨w.heap.size, 3, none⟩ = false := blk_frozen V_A.out.blk 3
  have c_A_4 : w_1.cell? ⟨w.heap.size, 4, none⟩ = some (.int .i64 i) := (blk_cell V_A.out.blk 4).trans rfl
  have f_A_4 : w_1.frozen? ⟨w.heap.size, 4, none⟩ = false := blk_frozen V_A.out.blk 4
  have c_A_5 : w_1.cell? ⟨w.heap.size, 5, none⟩ = some (.int .i64 ii) := (blk_cell V_A.out.blk 5).trans rfl
  have f_A_5 : w_1.frozen? ⟨w.heap.size, 5, none⟩ = false := blk_frozen V_A.out.blk 5
  have c_A_6 : w_1.cell? ⟨w.heap.size, 6, none⟩ = some (.int .i64 v) := (blk_cell V_A.out.blk 6).trans rfl
  have f_A_6 : w_1.frozen? ⟨w.heap.size, 6, none⟩ = false := blk_frozen V_A.out.blk 6
  have c_A_7 : w_1.cell? ⟨w.heap.size, 7, none⟩ = some (.int .i64 vn) := (blk_cell V_A.out.blk 7).trans rfl
  have f_A_7 : w_1.frozen? ⟨w.heap.size, 7, none⟩ = false := blk_frozen V_A.out.blk 7
  have nR := Lib.hid (R.out.below hb_)
  clear R
  have R := nR
  clear nR
  clear hb_
  go_wp2_with fail
  refine (run_newH R.out n HX.out).mono ?_
  rintro e_ w_2 ⟨rfl, okh_2, R_, K_⟩
  have n_A : Hid (Var w_2 okh_2 okm w.heap.size #[.int .i64 o, .int .i64 n, .int .i64 a, .int .i64 an, .int .i64 i, .int .i64 ii, .int .i64 v, .int .i64 vn] 53) := Lib.hid (V_A.out.keep K_)
  clear V_A lt_A c_A_0 f_A_0 c_A_1 f_A_1 c_A_2 f_A_2 c_A_3 f_A_3 c_A_4 f_A_4 c_A_5 f_A_5 c_A_6 f_A_6 c_A_7 f_A_7
  have V_A := n_A
  clear n_A
  have lt_A : w.heap.size < w_2.heap.size := blk_lt V_A.out.blk
  have c_A_0 : w_2.cell? ⟨w.heap.size, 0, none⟩ = some (.int .i64 o) := (blk_cell V_A.out.blk 0).trans rfl
  have f_A_0 : w_2.frozen? ⟨w.heap.size, 0, none⟩ = false := blk_frozen V_A.out.blk 0
  have c_A_1 : w_2.cell? ⟨w.heap.size, 1, none⟩ = some (.int .i64 n) := (blk_cell V_A.out.blk 1).trans rfl
  have f_A_1 : w_2.frozen? ⟨w.heap.size, 1, none⟩ = false := blk_frozen V_A.out.blk 1
  have c_A_2 : w_2.cell? ⟨w.heap.size, 2, none⟩ = some (.int .i64 a) := (blk_cell V_A.out.blk 2).trans rfl
  have f_A_2 : w_2.frozen? ⟨w.heap.size, 2, none⟩ = false := blk_frozen V_A.out.blk 2
  have c_A_3 : w_2.cell? ⟨w.heap.size, 3, none⟩ = some (.int .i64 an) := (blk_cell V_A.out.blk 3).trans rfl
  have f_A_3 : w_2.frozen? ⟨w.heap.size, 3, none⟩ = false := blk_frozen V_A.out.blk 3
  have c_A_4 : w_2.cell? ⟨w.heap.size, 4, none⟩ = some (.int .i64 i) := (blk_cell V_A.out.blk 4).trans rfl
  have f_A_4 : w_2.frozen? ⟨w.heap.size, 4, none⟩ = false := blk_frozen V_A.out.blk 4
  have c_A_5 : w_2.cell? ⟨w.heap.size, 5, none⟩ = some (.int .i64 ii) := (blk_cell V_A.out.blk 5).trans rfl
  have f_A_5 : w_2.frozen? ⟨w.heap.size, 5, none⟩ = false := blk_frozen V_A.out.blk 5
  have c_A_6 : w_2.cell? ⟨w.heap.size, 6, none⟩ = some (.int .i64 v) := (blk_cell V_A.out.blk 6).trans rfl
  have f_A_6 : w_2.frozen? ⟨w.heap.size, 6, none⟩ = false := blk_frozen V_A.out.blk 6
  have c_A_7 : w_2.cell? ⟨w.heap.size, 7, none⟩ = some (.int .i64 vn) := (blk_cell V_A.out.blk 7).trans rfl
  have f_A_7 : w_2.frozen? ⟨w.heap.size, 7, none⟩ = false := blk_frozen V_A.out.blk 7
  clear R
  have R := Lib.hid R_
  clear R_ K_
  go_wp2_with fail
  obtain ⟨a2, hw_⟩ : ∃ W_, W_ = w_2.alloc (.cells #[.int .i64 x0, .int .i64 x1] 23) := ⟨_, rfl⟩
  rw [← hw_]
  have hb_ : Below w_2.heap.size w_2 a2 := by rw [hw_]; exact below_alloc (Below.refl _ _) _
  have n_A : Hid (Var a2 okh_2 okm w.heap.size #[.int .i64 o, .int .i64 n, .int .i64 a, .int .i64 an, .int .i64 i, .int .i64 ii, .int .i64 v, .int .i64 vn] 53) := Lib.hid (V_A.out.below hb_)
  have n_x : Hid (Var a2 okh_2 okm w_2.heap.size #[.int .i64 x0, .int .i64 x1] 23) := Lib.hid (Var.fresh R.out.two (by rw [hw_]; exact heap_alloc_new _ _) (Nat.le_refl _))
  clear V_A lt_A c_A_0 f_A_0 c_A_1 f_A_1 c_A_2 f_A_2 c_A_3 f_A_3 c_A_4 f_A_4 c_A_5 f_A_5 c_A_6 f_A_6 c_A_7 f_A_7
  have V_A := n_A
  clear n_A
  have lt_A : w.heap.size < a2.heap.size := blk_lt V_A.out.blk
  have c_A_0 : a2.cell? ⟨w.heap.size, 0, none⟩ = some (.int .i64 o) := (blk_cell V_A.out.blk 0).trans rfl
  have f_A_0 : a2.frozen? ⟨w.heap.size, 0, none⟩ = false := blk_frozen V_A.out.blk 0
  have c_A_1 : a2.cell? ⟨w.heap.size, 1, none⟩ = some (.int .i64 n) := (blk_cell V_A.out.blk 1).trans rfl
  have f_A_1 : a2.frozen? ⟨w.heap.size, 1, none⟩ = false := blk_frozen V_A.out.blk 1
  have c_A_2 : a2.cell? ⟨w.heap.size, 2, none⟩ = some (.int .i64 a) := (blk_cell V_A.out.blk 2).trans rfl
  have f_A_2 : a2.frozen? ⟨w.heap.size, 2, none⟩ = false := blk_frozen V_A.out.blk 2
  have c_A_3 : a2.cell? ⟨w.heap.size, 3, none⟩ = some (.int .i64 an) := (blk_cell V_A.out.blk 3).trans rfl
  have f_A_3 : a2.frozen? ⟨w.heap.size, 3, none⟩ = false := blk_frozen V_A.out.blk 3
  have c_A_4 : a2.cell? ⟨w.heap.size, 4, none⟩ = some (.int .i64 i) := (blk_cell V_A.out.blk 4).trans rfl
  have f_A_4 : a2.frozen? ⟨w.heap.size, 4, none⟩ = false := blk_frozen V_A.out.blk 4
  have c_A_5 : a2.cell? ⟨w.heap.size, 5, none⟩ = some (.int .i64 ii) := (blk_cell V_A.out.blk 5).trans rfl
  have f_A_5 : a2.frozen? ⟨w.heap.size, 5, none⟩ = false := blk_frozen V_A.out.blk 5
  have c_A_6 : a2.cell? ⟨w.heap.size, 6, none⟩ = some (.int .i64 v) := (blk_cell V_A.out.blk 6).trans rfl
  have f_A_6 : a2.frozen? ⟨w.heap.size, 6, none⟩ = false := blk_frozen V_A.out.blk 6
  have c_A_7 : a2.cell? ⟨w.heap.size, 7, none⟩ = some (.int .i64 vn) := (blk_cell V_A.out.blk 7).trans rfl
  have f_A_7 : a2.frozen? ⟨w.heap.size, 7, none⟩ = false := blk_frozen V_A.out.blk 7
  have V_x := n_x
  clear n_x
  have lt_x : w_2.heap.size < a2.heap.size := blk_lt V_x.out.blk
  have c_x_0 : a2.cell? ⟨w_2.heap.size, 0, none⟩ = some (.int .i64 x0) := (blk_cell V_x.out.blk 0).trans rfl
  have f_x_0 : a2.frozen? ⟨w_2.heap.size, 0, none⟩ = false := blk_frozen V_x.out.blk 0
  have c_x_1 : a2.cell? ⟨w_2.heap.size, 1, none⟩ = some (.int .i64 x1) := (blk_cell V_x.out.blk 1).trans rfl
  have f_x_1 : a2.frozen? ⟨w_2.heap.size, 1, none⟩ = false := blk_frozen V_x.out.blk 1
  have nR := Lib.hid (R.out.below hb_)
  clear R
  have R := nR
  clear nR
  clear hb_ hw_
  refine (run_newM R.out n HY.out).mono ?_
  rintro e_ w_3 ⟨rfl, okm_3, R_, K_⟩
  have n_A : Hid (Var w_3 okh_2 okm_3 w.heap.size #[.int .i64 o, .int .i64 n, .int .i64 a, .int .i64 an, .int .i64 i, .int .i64 ii, .int .i64 v, .int .i64 vn] 53) := Lib.hid (V_A.out.keep K_)
  have n_x : Hid (Var w_3 okh_2 okm_3 w_2.heap.size #[.int .i64 x0, .int .i64 x1] 23) := Lib.hid (V_x.out.keep K_)
  clear V_A lt_A c_A_0 f_A_0 c_A_1 f_A_1 c_A_2 f_A_2 c_A_3 f_A_3 c_A_4 f_A_4 c_A_5 f_A_5 c_A_6 f_A_6 c_A_7 f_A_7 V_x lt_x c_x_0 f_x_0 c_x_1 f_x_1
  have V_A := n_A
  clear n_A
  have lt_A : w.heap.size < w_3.heap.size := blk_lt V_A.out.blk
  have c_A_0 : w_3.cell? ⟨w.heap.size, 0, none⟩ = some (.int .i64 o) := (blk_cell V_A.out.blk 0).trans rfl
  have f_A_0 : w_3.frozen? ⟨w.heap.size, 0, none⟩ = false := blk_frozen V_A.out.blk 0
  have c_A_1 : w_3.cell? ⟨w.heap.size, 1, none⟩ = some (.int .i64 n) := (blk_cell V_A.out.blk 1).trans rfl
  have f_A_1 : w_3.frozen? ⟨w.heap.size, 1, none⟩ = false := blk_frozen V_A.out.blk 1
  have c_A_2 : w_3.cell? ⟨w.heap.size, 2, none⟩ = some (.int .i64 a) := (blk_cell V_A.out.blk 2).trans rfl
  have f_A_2 : w_3.frozen? ⟨w.heap.size, 2, none⟩ = false := blk_frozen V_A.out.blk 2
  have c_A_3 : w_3.cell? ⟨w.heap.size, 3, none⟩ = some (.int .i64 an) := (blk_cell V_A.out.blk 3).trans rfl
  have f_A_3 : w_3.frozen? ⟨w.heap.size, 3, none⟩ = false := blk_frozen V_A.out.blk 3
  have c_A_4 : w_3.cell? ⟨w.heap.size, 4, none⟩ = some (.int .i64 i) := (blk_cell V_A.out.blk 4).trans rfl
  have f_A_4 : w_3.frozen? ⟨w.heap.size, 4, none⟩ = false := blk_frozen V_A.out.blk 4
  have c_A_5 : w_3.cell? ⟨w.heap.size, 5, none⟩ = some (.int .i64 ii) := (blk_cell V_A.out.blk 5).trans rfl
  have f_A_5 : w_3.frozen? ⟨w.heap.size, 5, none⟩ = false := blk_frozen V_A.out.blk 5
  have c_A_6 : w_3.cell? ⟨w.heap.size, 6, none⟩ = some (.int .i64 v) := (blk_cell V_A.out.blk 6).trans rfl
  have f_A_6 : w_3.frozen? ⟨w.heap.size, 6, none⟩ = false := blk_frozen V_A.out.blk 6
  have c_A_7 : w_3.cell? ⟨w.heap.size, 7, none⟩ = some (.int .i64 vn) := (blk_cell V_A.out.blk 7).trans rfl
  have f_A_7 : w_3.frozen? ⟨w.heap.size, 7, none⟩ = false := blk_frozen V_A.out.blk 7
  have V_x := n_x
  clear n_x
  have lt_x : w_2.heap.size < w_3.heap.size := blk_lt V_x.out.blk
  have c_x_0 : w_3.cell? ⟨w_2.heap.size, 0, none⟩ = some (.int .i64 x0) := (blk_cell V_x.out.blk 0).trans rfl
  have f_x_0 : w_3.frozen? ⟨w_2.heap.size, 0, none⟩ = false := blk_frozen V_x.out.blk 0
  have c_x_1 : w_3.cell? ⟨w_2.heap.size, 1, none⟩ = some (.int .i64 x1) := (blk_cell V_x.out.blk 1).trans rfl
  have f_x_1 : w_3.frozen? ⟨w_2.heap.size, 1, none⟩ = false := blk_frozen V_x.out.blk 1
  clear R
  have R := Lib.hid R_
  clear R_ K_
  clear V_A lt_A c_A_0 f_A_0 c_A_1 f_A_1 c_A_2 f_A_2 c_A_3 f_A_3 c_A_4 f_A_4 c_A_5 f_A_5 c_A_6 f_A_6 c_A_7 f_A_7
  go_wp2_with fail
  obtain ⟨a3, hw_⟩ : ∃ W_, W_ = w_3.alloc (.cells #[.int .i64 x0, .int .i64 x1] 27) := ⟨_, rfl⟩
  rw [← hw_]
  have hb_ : Below w_3.heap.size w_3 a3 := by rw [hw_]; exact below_alloc (Below.refl _ _) _
  have n_x : Hid (Var a3 okh_2 okm_3 w_2.heap.size #[.int .i64 x0, .int .i64 x1] 23) := Lib.hid (V_x.out.below hb_)
  have n_y : Hid (Var a3 okh_2 okm_3 w_3.heap.size #[.int .i64 x0, .int .i64 x1] 27) := Lib.hid (Var.fresh R.out.two (by rw [hw_]; exact heap_alloc_new _ _) (Nat.le_refl _))
  clear V_x lt_x c_x_0 f_x_0 c_x_1 f_x_1
  have V_x := n_x
  clear n_x
  have lt_x : w_2.heap.size < a3.heap.size := blk_lt V_x.out.blk
  have c_x_0 : a3.cell? ⟨w_2.heap.size, 0, none⟩ = some (.int .i64 x0) := (blk_cell V_x.out.blk 0).trans rfl
  have f_x_0 : a3.frozen? ⟨w_2.heap.size, 0, none⟩ = false := blk_frozen V_x.out.blk 0
  have c_x_1 : a3.cell? ⟨w_2.heap.size, 1, none⟩ = some (.int .i64 x1) := (blk_cell V_x.out.blk 1).trans rfl
  have f_x_1 : a3.frozen? ⟨w_2.heap.size, 1, none⟩ = false := blk_frozen V_x.out.blk 1
  have V_y := n_y
  clear n_y
  have lt_y : w_3.heap.size < a3.heap.size := blk_lt V_y.out.blk
  have c_y_0 : a3.cell? ⟨w_3.heap.size, 0, none⟩ = some (.int .i64 x0) := (blk_cell V_y.out.blk 0).trans rfl
  have f_y_0 : a3.frozen? ⟨w_3.heap.size, 0, none⟩ = false := blk_frozen V_y.out.blk 0
  have c_y_1 : a3.cell? ⟨w_3.heap.size, 1, none⟩ = some (.int .i64 x1) := (blk_cell V_y.out.blk 1).trans rfl
  have f_y_1 : a3.frozen? ⟨w_3.heap.size, 1, none⟩ = false := blk_frozen V_y.out.blk 1
  have nR := Lib.hid (R.out.below hb_)
  clear R
  have R := nR
  clear nR
  clear hb_ hw_
  refine start_ (n := 15) (S := fun w' => w'.cell? ⟨w_2.heap.size, 0, none⟩ = some (.int .i64 x0) ∧ w'.cell? ⟨w_2.heap.size, 1, none⟩ = some (.int .i64 x1) ∧ w'.cell? ⟨w_3.heap.size, 0, none⟩ = some (.int .i64 x0) ∧ w'.cell? ⟨w_3.heap.size, 1, none⟩ = some (.int .i64 x1)) (ds := []) #[false, false, false, false, false, false, false, false, false, false, false, false, false, false, false] (by kernel_rfl) rfl rfl ⟨cell_drew c_x_0, cell_drew c_x_1, cell_drew c_y_0, cell_drew c_y_1⟩ (fun hHeld => ?_)
  refine take_ (i := 0) (N := some 38) (v := ?_) (a' := ?_) #[true, false, false, false, false, false, false, false, false, false, false, false, false, false, false] rfl rfl (by kernel_rfl) (fun _ _ _ h => h) (Or.inl ⟨by rfl, ?_⟩) hHeld ?_ ?_
  rotate_left
  · rintro w' ⟨s0, s1, s2, s3⟩
    go_simp
    with_reducible rfl
  rotate_left
  · simp only [Act.put, List.setIfInBounds_toArray, List.set_cons_zero, List.set_cons_succ, i64_w, i32_w]
    rfl
  refine take_ (i := 2) (N := some 40) (v := ?_) (a' := ?_) #[true, false, true, false, false, false, false, false, false, false, false, false, false, false, false] rfl rfl (by kernel_rfl) (fun _ _ _ h => h) (Or.inl ⟨by rfl, ?_⟩) hHeld ?_ ?_
  rotate_left
  · rintro w' ⟨s0, s1, s2, s3⟩
    go_simp
    with_reducible rfl
  rotate_left
  · simp only [Act.put, List.setIfInBounds_toArray, List.set_cons_zero, List.set_cons_succ, i64_w, i32_w]
    rfl
  refine one_ (i := 1) (N := some 39) #[true, true, true, false, false, false, false, false, false, false, false, false, false, false, false] rfl rfl (by kernel_rfl) (by decide) (fun K hK => ?_)
  refine goes_ Try.func12 (by kernel_rfl) rfl #[.agg #[.int .i64 x0, .int .i64 x1]] (by rfl) rfl rfl (by simp only [List.map_toArray, List.map_cons, List.map_nil]; rfl) ?_
  with_reducible refine (runnellaw9_as.calls x0 x1 x0 x1 _ rfl).mono ?_
  rintro e_ z1 ⟨rfl, hb_⟩
  refine ⟨_, rfl, ?_⟩
  have Q_z1 := Lib.hid (below_step (below_drew (Below.refl a3.heap.size a3)) hb_)
  have P_z1 := Lib.hid hb_
  clear hb_
  refine hK.out _ _ ⟨pw_cell_below P_z1.out hHeld.1, pw_cell_below P_z1.out hHeld.2.1, pw_cell_below P_z1.out hHeld.2.2.1, pw_cell_below P_z1.out hHeld.2.2.2⟩ (fun hHeld => ?_)
  clear hK K
  refine norm_ (a' := ?_) ?_ ?_
  rotate_left
  · show Act.put _ (some 39) _ = _
    simp only [Act.put, List.setIfInBounds_toArray, List.set_cons_zero, List.set_cons_succ, i64_w, i32_w]
    rfl
  refine pure_ (i := 3) (N := some 41) (v := ?_) (a' := ?_) #[true, true, true, true, false, false, false, false, false, false, false, false, false, false, false] rfl rfl (by kernel_rfl) (fun _ _ _ h => h) (Or.inl ⟨by rfl, ?_⟩) ?_ ?_
  rotate_left
  · intro w'
    go_simp
    with_reducible rfl
  rotate_left
  · simp only [Act.put, List.setIfInBounds_toArray, List.set_cons_zero, List.set_cons_succ, i64_w, i32_w]
    rfl
  refine pure_ (i := 4) (N := some 42) (v := ?_) (a' := ?_) #[true, true, true, true, true, false, false, false, false, false, false, false, false, false, false] rfl rfl (by kernel_rfl) (fun _ _ _ h => h) (Or.inl ⟨by rfl, ?_⟩) ?_ ?_
  rotate_left
  · intro w'
    go_simp
    with_reducible rfl
  rotate_left
  · simp only [Act.put, List.setIfInBounds_toArray, List.set_cons_zero, List.set_cons_succ, i64_w, i32_w]
    rfl
  refine pure_ (i := 5) (N := some 43) (v := ?_) (a' := ?_) #[true, true, true, true, true, true, false, false, false, false, false, false, false, false, false] rfl rfl (by kernel_rfl) (fun _ _ _ h => h) (Or.inl ⟨by rfl, ?_⟩) ?_ ?_
  rotate_left
  · intro w'
    go_simp
    with_reducible rfl
  rotate_left
  · simp only [Act.put, List.setIfInBounds_toArray, List.set_cons_zero, List.set_cons_succ, i64_w, i32_w]
    rfl
  refine pure_ (i := 6) (N := some 44) (v := ?_) (a' := ?_) #[true, true, true, true, true, true, true, false, false, false, false, false, false, false, false] rfl rfl (by kernel_rfl) (fun _ _ _ h => h) (Or.inl ⟨by rfl, ?_⟩) ?_ ?_
  rotate_left
  · intro w'
    go_simp
    with_reducible rfl
  rotate_left
  · simp only [Act.put, List.setIfInBounds_toArray, List.set_cons_zero, List.set_cons_succ, i64_w, i32_w]
    rfl
  refine pure_ (i := 7) (N := some 45) (v := ?_) (a' := ?_) #[true, true, true, true, true, true, true, true, false, false, false, false, false, false, false] rfl rfl (by kernel_rfl) (fun _ _ _ h => h) (Or.inl ⟨by rfl, ?_⟩) ?_ ?_
  rotate_left
  · intro w'
    go_simp
    with_reducible rfl
  rotate_left
  · simp only [Act.put, List.setIfInBounds_toArray, List.set_cons_zero, List.set_cons_succ, i64_w, i32_w]
    rfl
  refine pure_ (i := 8) (N := some 46) (v := ?_) (a' := ?_) #[true, true, true, true, true, true, true, true, true, false, false, false, false, false, false] rfl rfl (by kernel_rfl) (fun _ _ _ h => h) (Or.inl ⟨by rfl, ?_⟩) ?_ ?_
  rotate_left
  · intro w'
    go_simp
    with_reducible rfl
  rotate_left
  · simp only [Act.put, List.setIfInBounds_toArray, List.set_cons_zero, List.set_cons_succ, i64_w, i32_w]
    rfl
  refine pure_ (i := 9) (N := some 47) (v := ?_) (a' := ?_) #[true, true, true, true, true, true, true, true, true, true, false, false, false, false, false] rfl rfl (by kernel_rfl) (fun _ _ _ h => h) (Or.inl ⟨by rfl, ?_⟩) ?_ ?_
  rotate_left
  · intro w'
    go_simp
    with_reducible rfl
  rotate_left
  · simp only [Act.put, List.setIfInBounds_toArray, List.set_cons_zero, List.set_cons_succ, i64_w, i32_w]
    rfl
  refine pure_ (i := 10) (N := some 48) (v := ?_) (a' := ?_) #[true, true, true, true, true, true, true, true, true, true, true, false, false, false, false] rfl rfl (by kernel_rfl) (fun _ _ _ h => h) (Or.inl ⟨by rfl, ?_⟩) ?_ ?_
  rotate_left
  · intro w'
    go_simp
    with_reducible rfl
  rotate_left
  · simp only [Act.put, List.setIfInBounds_toArray, List.set_cons_zero, List.set_cons_succ, i64_w, i32_w]
    rfl
  refine pure_ (i := 11) (N := some 49) (v := ?_) (a' := ?_) #[true, true, true, true, true, true, true, true, true, true, true, true, false, false, false] rfl rfl (by kernel_rfl) (fun _ _ _ h => h) (Or.inl ⟨by rfl, ?_⟩) ?_ ?_
  rotate_left
  · intro w'
    go_simp
    with_reducible rfl
  rotate_left
  · simp only [Act.put, List.setIfInBounds_toArray, List.set_cons_zero, List.set_cons_succ, i64_w, i32_w]
    rfl
  refine pure_ (i := 12) (N := some 50) (v := ?_) (a' := ?_) #[true, true, true, true, true, true, true, true, true, true, true, true, true, false, false] rfl rfl (by kernel_rfl) (fun _ _ _ h => h) (Or.inl ⟨by rfl, ?_⟩) ?_ ?_
  rotate_left
  · intro w'
    go_simp
    with_reducible rfl
  rotate_left
  · simp only [Act.put, List.setIfInBounds_toArray, List.set_cons_zero, List.set_cons_succ, i64_w, i32_w]
    rfl
  refine pure_ (i := 13) (N := some 51) (v := ?_) (a' := ?_) #[true, true, true, true, true, true, true, true, true, true, true, true, true, true, false] rfl rfl (by kernel_rfl) (fun _ _ _ h => h) (Or.inl ⟨by rfl, ?_⟩) ?_ ?_
  rotate_left
  · intro w'
    go_simp
    with_reducible rfl
  rotate_left
  · simp only [Act.put, List.setIfInBounds_toArray, List.set_cons_zero, List.set_cons_succ, i64_w, i32_w]
    rfl
  refine pure_ (i := 14) (N := some 6) (v := ?_) (a' := ?_) #[true, true, true, true, true, true, true, true, true, true, true, true, true, true, true] rfl rfl (by kernel_rfl) (fun _ _ _ h => h) (Or.inl ⟨by rfl, ?_⟩) ?_ ?_
  rotate_left
  · intro w'
    go_simp
    with_reducible rfl
  rotate_left
  · simp only [Act.put, List.setIfInBounds_toArray, List.set_cons_zero, List.set_cons_succ, i64_w, i32_w]
    rfl
  refine done_ (by kernel_rfl) ?_
  have n_x : Hid (Var z1 okh_2 okm_3 w_2.heap.size #[.int .i64 x0, .int .i64 x1] 23) := Lib.hid (V_x.out.below Q_z1.out)
  have n_y : Hid (Var z1 okh_2 okm_3 w_3.heap.size #[.int .i64 x0, .int .i64 x1] 27) := Lib.hid (V_y.out.below Q_z1.out)
  clear V_x lt_x c_x_0 f_x_0 c_x_1 f_x_1 V_y lt_y c_y_0 f_y_0 c_y_1 f_y_1
  have V_x := n_x
  clear n_x
  have lt_x : w_2.heap.size < z1.heap.size := blk_lt V_x.out.blk
  have c_x_0 : z1.cell? ⟨w_2.heap.size, 0, none⟩ = some (.int .i64 x0) := (blk_cell V_x.out.blk 0).trans rfl
  have f_x_0 : z1.frozen? ⟨w_2.heap.size, 0, none⟩ = false := blk_frozen V_x.out.blk 0
  have c_x_1 : z1.cell? ⟨w_2.heap.size, 1, none⟩ = some (.int .i64 x1) := (blk_cell V_x.out.blk 1).trans rfl
  have f_x_1 : z1.frozen? ⟨w_2.heap.size, 1, none⟩ = false := blk_frozen V_x.out.blk 1
  have V_y := n_y
  clear n_y
  have lt_y : w_3.heap.size < z1.heap.size := blk_lt V_y.out.blk
  have c_y_0 : z1.cell? ⟨w_3.heap.size, 0, none⟩ = some (.int .i64 x0) := (blk_cell V_y.out.blk 0).trans rfl
  have f_y_0 : z1.frozen? ⟨w_3.heap.size, 0, none⟩ = false := blk_frozen V_y.out.blk 0
  have c_y_1 : z1.cell? ⟨w_3.heap.size, 1, none⟩ = some (.int .i64 x1) := (blk_cell V_y.out.blk 1).trans rfl
  have f_y_1 : z1.frozen? ⟨w_3.heap.size, 1, none⟩ = false := blk_frozen V_y.out.blk 1
  have nR := Lib.hid (R.out.below Q_z1.out)
  clear R
  have R := nR
  clear nR
  go_wp2_with fail
  go_ret
  exact ⟨rfl, R.out.after⟩
set_option maxRecDepth 100000 in
set_option maxHeartbeats 8000000 in
theorem does_newA1 {w : World} {Bh Bm : Nat} {okh okm : Nat → Prop} {L M : List (List Int)} (o n a an i ii v vn : Int) {x0 x1 y0 y1 e : Int} {one two : Bool} (hx : newK L n = x0 ∧ newN L n = x1 ∧ newE L n = e ∧ newR L n = one) (hy : newK M n = y0 ∧ newN M n = y1 ∧ newE M n = e ∧ newR M n = two) (hq : (x0 == y0) = false) (T : Two w Bh Bm okh okm L M) (hp : runnellaw9_pick.f o 4 = some 0) :
    Calls Try.prog 17 #[.pointer (some ⟨Bh, 0, none⟩), .pointer (some ⟨Bm, 0, none⟩), .agg #[.int .i64 o, .int .i64 n, .int .i64 a, .int .i64 an, .int .i64 i, .int .i64 ii, .int .i64 v, .int .i64 vn]] w fun e w' => e = .returned (.bool false) ∧ After w Bh Bm okh okm (newL L n) (newL M n) w' := by
  have HX := Lib.hid hx
  have HY := Lib.hid hy
  clear hx hy
  have HP := Lib.hid hp
  have R := Lib.hid (Run.start T)
  clear hp T
  go_enter Try.func17, Try.ntmps17
  go_wp2_with fail
  obtain ⟨a1, hw_⟩ : ∃ W_, W_ = w.alloc (.cells #[.int .i64 o, .int .i64 n, .int .i64 a, .int .i64 an, .int .i64 i, .int .i64 ii, .int .i64 v, .int .i64 vn] 53) := ⟨_, rfl⟩
  rw [← hw_]
  have hb_ : Below w.heap.size w a1 := by rw [hw_]; exact below_alloc (Below.refl _ _) _
  have n_A : Hid (Var a1 okh okm w.heap.size #[.int .i64 o, .int .i64 n, .int .i64 a, .int .i64 an, .int .i64 i, .int .i64 ii, .int .i64 v, .int .i64 vn] 53) := Lib.hid (Var.fresh R.out.two (by rw [hw_]; exact heap_alloc_new _ _) (Nat.le_refl _))
  have V_A := n_A
  clear n_A
  have lt_A : w.heap.size < a1.heap.size := blk_lt V_A.out.blk
  have c_A_0 : a1.cell? ⟨w.heap.size, 0, none⟩ = some (.int .i64 o) := (blk_cell V_A.out.blk 0).trans rfl
  have f_A_0 : a1.frozen? ⟨w.heap.size, 0, none⟩ = false := blk_frozen V_A.out.blk 0
  have c_A_1 : a1.cell? ⟨w.heap.size, 1, none⟩ = some (.int .i64 n) := (blk_cell V_A.out.blk 1).trans rfl
  have f_A_1 : a1.frozen? ⟨w.heap.size, 1, none⟩ = false := blk_frozen V_A.out.blk 1
  have c_A_2 : a1.cell? ⟨w.heap.size, 2, none⟩ = some (.int .i64 a) := (blk_cell V_A.out.blk 2).trans rfl
  have f_A_2 : a1.frozen? ⟨w.heap.size, 2, none⟩ = false := blk_frozen V_A.out.blk 2
  have c_A_3 : a1.cell? ⟨w.heap.size, 3, none⟩ = some (.int .i64 an) := (blk_cell V_A.out.blk 3).trans rfl
  have f_A_3 : a1.frozen? ⟨w.heap.size, 3, none⟩ = false := blk_frozen V_A.out.blk 3
  have c_A_4 : a1.cell? ⟨w.heap.size, 4, none⟩ = some (.int .i64 i) := (blk_cell V_A.out.blk 4).trans rfl
  have f_A_4 : a1.frozen? ⟨w.heap.size, 4, none⟩ = false := blk_frozen V_A.out.blk 4
  have c_A_5 : a1.cell? ⟨w.heap.size, 5, none⟩ = some (.int .i64 ii) := (blk_cell V_A.out.blk 5).trans rfl
  have f_A_5 : a1.frozen? ⟨w.heap.size, 5, none⟩ = false := blk_frozen V_A.out.blk 5
  have c_A_6 : a1.cell? ⟨w.heap.size, 6, none⟩ = some (.int .i64 v) := (blk_cell V_A.out.blk 6).trans rfl
  have f_A_6 : a1.frozen? ⟨w.heap.size, 6, none⟩ = false := blk_frozen V_A.out.blk 6
  have c_A_7 : a1.cell? ⟨w.heap.size, 7, none⟩ = some (.int .i64 vn) := (blk_cell V_A.out.blk 7).trans rfl
  have f_A_7 : a1.frozen? ⟨w.heap.size, 7, none⟩ = false := blk_frozen V_A.out.blk 7
  have nR := Lib.hid (R.out.below hb_)
  clear R
  have R := nR
  clear nR
  clear hb_ hw_
  refine (pick_below o 0 _ HP.out).mono ?_
  rintro e_ w_1 ⟨rfl, hb_⟩
  have n_A : Hid (Var w_1 okh okm w.heap.size #[.int .i64 o, .int .i64 n, .int .i64 a, .int .i64 an, .int .i64 i, .int .i64 ii, .int .i64 v, .int .i64 vn] 53) := Lib.hid (V_A.out.below hb_)
  clear V_A lt_A c_A_0 f_A_0 c_A_1 f_A_1 c_A_2 f_A_2 c_A_3 f_A_3 c_A_4 f_A_4 c_A_5 f_A_5 c_A_6 f_A_6 c_A_7 f_A_7
  have V_A := n_A
  clear n_A
  have lt_A : w.heap.size < w_1.heap.size := blk_lt V_A.out.blk
  have c_A_0 : w_1.cell? ⟨w.heap.size, 0, none⟩ = some (.int .i64 o) := (blk_cell V_A.out.blk 0).trans rfl
  have f_A_0 : w_1.frozen? ⟨w.heap.size, 0, none⟩ = false := blk_frozen V_A.out.blk 0
  have c_A_1 : w_1.cell? ⟨w.heap.size, 1, none⟩ = some (.int .i64 n) := (blk_cell V_A.out.blk 1).trans rfl
  have f_A_1 : w_1.frozen? ⟨w.heap.size, 1, none⟩ = false := blk_frozen V_A.out.blk 1
  have c_A_2 : w_1.cell? ⟨w.heap.size, 2, none⟩ = some (.int .i64 a) := (blk_cell V_A.out.blk 2).trans rfl
  have f_A_2 : w_1.frozen? ⟨w.heap.size, 2, none⟩ = false := blk_frozen V_A.out.blk 2
  have c_A_3 : w_1.cell? ⟨w.heap.size, 3, none⟩ = some (.int .i64 an) := (blk_cell V_A.out.blk 3).trans rfl
  have f_A_3 : w_1.frozen? ⟨w.heap.size, 3, none⟩ = false := blk_frozen V_A.out.blk 3
  have c_A_4 : w_1.cell? ⟨w.heap.size, 4, none⟩ = some (.int .i64 i) := (blk_cell V_A.out.blk 4).trans rfl
  have f_A_4 : w_1.frozen? ⟨w.heap.size, 4, none⟩ = false := blk_frozen V_A.out.blk 4
  have c_A_5 : w_1.cell? ⟨w.heap.size, 5, none⟩ = some (.int .i64 ii) := (blk_cell V_A.out.blk 5).trans rfl
  have f_A_5 : w_1.frozen? ⟨w.heap.size, 5, none⟩ = false := blk_frozen V_A.out.blk 5
  have c_A_6 : w_1.cell? ⟨w.heap.size, 6, none⟩ = some (.int .i64 v) := (blk_cell V_A.out.blk 6).trans rfl
  have f_A_6 : w_1.frozen? ⟨w.heap.size, 6, none⟩ = false := blk_frozen V_A.out.blk 6
  have c_A_7 : w_1.cell? ⟨w.heap.size, 7, none⟩ = some (.int .i64 vn) := (blk_cell V_A.out.blk 7).trans rfl
  have f_A_7 : w_1.frozen? ⟨w.heap.size, 7, none⟩ = false := blk_frozen V_A.out.blk 7
  have nR := Lib.hid (R.out.below hb_)
  clear R
  have R := nR
  clear nR
  clear hb_
  go_wp2_with fail
  refine (run_newH R.out n HX.out).mono ?_
  rintro e_ w_2 ⟨rfl, okh_2, R_, K_⟩
  have n_A : Hid (Var w_2 okh_2 okm w.heap.size #[.int .i64 o, .int .i64 n, .int .i64 a, .int .i64 an, .int .i64 i, .int .i64 ii, .int .i64 v, .int .i64 vn] 53) := Lib.hid (V_A.out.keep K_)
  clear V_A lt_A c_A_0 f_A_0 c_A_1 f_A_1 c_A_2 f_A_2 c_A_3 f_A_3 c_A_4 f_A_4 c_A_5 f_A_5 c_A_6 f_A_6 c_A_7 f_A_7
  have V_A := n_A
  clear n_A
  have lt_A : w.heap.size < w_2.heap.size := blk_lt V_A.out.blk
  have c_A_0 : w_2.cell? ⟨w.heap.size, 0, none⟩ = some (.int .i64 o) := (blk_cell V_A.out.blk 0).trans rfl
  have f_A_0 : w_2.frozen? ⟨w.heap.size, 0, none⟩ = false := blk_frozen V_A.out.blk 0
  have c_A_1 : w_2.cell? ⟨w.heap.size, 1, none⟩ = some (.int .i64 n) := (blk_cell V_A.out.blk 1).trans rfl
  have f_A_1 : w_2.frozen? ⟨w.heap.size, 1, none⟩ = false := blk_frozen V_A.out.blk 1
  have c_A_2 : w_2.cell? ⟨w.heap.size, 2, none⟩ = some (.int .i64 a) := (blk_cell V_A.out.blk 2).trans rfl
  have f_A_2 : w_2.frozen? ⟨w.heap.size, 2, none⟩ = false := blk_frozen V_A.out.blk 2
  have c_A_3 : w_2.cell? ⟨w.heap.size, 3, none⟩ = some (.int .i64 an) := (blk_cell V_A.out.blk 3).trans rfl
  have f_A_3 : w_2.frozen? ⟨w.heap.size, 3, none⟩ = false := blk_frozen V_A.out.blk 3
  have c_A_4 : w_2.cell? ⟨w.heap.size, 4, none⟩ = some (.int .i64 i) := (blk_cell V_A.out.blk 4).trans rfl
  have f_A_4 : w_2.frozen? ⟨w.heap.size, 4, none⟩ = false := blk_frozen V_A.out.blk 4
  have c_A_5 : w_2.cell? ⟨w.heap.size, 5, none⟩ = some (.int .i64 ii) := (blk_cell V_A.out.blk 5).trans rfl
  have f_A_5 : w_2.frozen? ⟨w.heap.size, 5, none⟩ = false := blk_frozen V_A.out.blk 5
  have c_A_6 : w_2.cell? ⟨w.heap.size, 6, none⟩ = some (.int .i64 v) := (blk_cell V_A.out.blk 6).trans rfl
  have f_A_6 : w_2.frozen? ⟨w.heap.size, 6, none⟩ = false := blk_frozen V_A.out.blk 6
  have c_A_7 : w_2.cell? ⟨w.heap.size, 7, none⟩ = some (.int .i64 vn) := (blk_cell V_A.out.blk 7).trans rfl
  have f_A_7 : w_2.frozen? ⟨w.heap.size, 7, none⟩ = false := blk_frozen V_A.out.blk 7
  clear R
  have R := Lib.hid R_
  clear R_ K_
  go_wp2_with fail
  obtain ⟨a2, hw_⟩ : ∃ W_, W_ = w_2.alloc (.cells #[.int .i64 x0, .int .i64 x1] 23) := ⟨_, rfl⟩
  rw [← hw_]
  have hb_ : Below w_2.heap.size w_2 a2 := by rw [hw_]; exact below_alloc (Below.refl _ _) _
  have n_A : Hid (Var a2 okh_2 okm w.heap.size #[.int .i64 o, .int .i64 n, .int .i64 a, .int .i64 an, .int .i64 i, .int .i64 ii, .int .i64 v, .int .i64 vn] 53) := Lib.hid (V_A.out.below hb_)
  have n_x : Hid (Var a2 okh_2 okm w_2.heap.size #[.int .i64 x0, .int .i64 x1] 23) := Lib.hid (Var.fresh R.out.two (by rw [hw_]; exact heap_alloc_new _ _) (Nat.le_refl _))
  clear V_A lt_A c_A_0 f_A_0 c_A_1 f_A_1 c_A_2 f_A_2 c_A_3 f_A_3 c_A_4 f_A_4 c_A_5 f_A_5 c_A_6 f_A_6 c_A_7 f_A_7
  have V_A := n_A
  clear n_A
  have lt_A : w.heap.size < a2.heap.size := blk_lt V_A.out.blk
  have c_A_0 : a2.cell? ⟨w.heap.size, 0, none⟩ = some (.int .i64 o) := (blk_cell V_A.out.blk 0).trans rfl
  have f_A_0 : a2.frozen? ⟨w.heap.size, 0, none⟩ = false := blk_frozen V_A.out.blk 0
  have c_A_1 : a2.cell? ⟨w.heap.size, 1, none⟩ = some (.int .i64 n) := (blk_cell V_A.out.blk 1).trans rfl
  have f_A_1 : a2.frozen? ⟨w.heap.size, 1, none⟩ = false := blk_frozen V_A.out.blk 1
  have c_A_2 : a2.cell? ⟨w.heap.size, 2, none⟩ = some (.int .i64 a) := (blk_cell V_A.out.blk 2).trans rfl
  have f_A_2 : a2.frozen? ⟨w.heap.size, 2, none⟩ = false := blk_frozen V_A.out.blk 2
  have c_A_3 : a2.cell? ⟨w.heap.size, 3, none⟩ = some (.int .i64 an) := (blk_cell V_A.out.blk 3).trans rfl
  have f_A_3 : a2.frozen? ⟨w.heap.size, 3, none⟩ = false := blk_frozen V_A.out.blk 3
  have c_A_4 : a2.cell? ⟨w.heap.size, 4, none⟩ = some (.int .i64 i) := (blk_cell V_A.out.blk 4).trans rfl
  have f_A_4 : a2.frozen? ⟨w.heap.size, 4, none⟩ = false := blk_frozen V_A.out.blk 4
  have c_A_5 : a2.cell? ⟨w.heap.size, 5, none⟩ = some (.int .i64 ii) := (blk_cell V_A.out.blk 5).trans rfl
  have f_A_5 : a2.frozen? ⟨w.heap.size, 5, none⟩ = false := blk_frozen V_A.out.blk 5
  have c_A_6 : a2.cell? ⟨w.heap.size, 6, none⟩ = some (.int .i64 v) := (blk_cell V_A.out.blk 6).trans rfl
  have f_A_6 : a2.frozen? ⟨w.heap.size, 6, none⟩ = false := blk_frozen V_A.out.blk 6
  have c_A_7 : a2.cell? ⟨w.heap.size, 7, none⟩ = some (.int .i64 vn) := (blk_cell V_A.out.blk 7).trans rfl
  have f_A_7 : a2.frozen? ⟨w.heap.size, 7, none⟩ = false := blk_frozen V_A.out.blk 7
  have V_x := n_x
  clear n_x
  have lt_x : w_2.heap.size < a2.heap.size := blk_lt V_x.out.blk
  have c_x_0 : a2.cell? ⟨w_2.heap.size, 0, none⟩ = some (.int .i64 x0) := (blk_cell V_x.out.blk 0).trans rfl
  have f_x_0 : a2.frozen? ⟨w_2.heap.size, 0, none⟩ = false := blk_frozen V_x.out.blk 0
  have c_x_1 : a2.cell? ⟨w_2.heap.size, 1, none⟩ = some (.int .i64 x1) := (blk_cell V_x.out.blk 1).trans rfl
  have f_x_1 : a2.frozen? ⟨w_2.heap.size, 1, none⟩ = false := blk_frozen V_x.out.blk 1
  have nR := Lib.hid (R.out.below hb_)
  clear R
  have R := nR
  clear nR
  clear hb_ hw_
  refine (run_newM R.out n HY.out).mono ?_
  rintro e_ w_3 ⟨rfl, okm_3, R_, K_⟩
  have n_A : Hid (Var w_3 okh_2 okm_3 w.heap.size #[.int .i64 o, .int .i64 n, .int .i64 a, .int .i64 an, .int .i64 i, .int .i64 ii, .int .i64 v, .int .i64 vn] 53) := Lib.hid (V_A.out.keep K_)
  have n_x : Hid (Var w_3 okh_2 okm_3 w_2.heap.size #[.int .i64 x0, .int .i64 x1] 23) := Lib.hid (V_x.out.keep K_)
  clear V_A lt_A c_A_0 f_A_0 c_A_1 f_A_1 c_A_2 f_A_2 c_A_3 f_A_3 c_A_4 f_A_4 c_A_5 f_A_5 c_A_6 f_A_6 c_A_7 f_A_7 V_x lt_x c_x_0 f_x_0 c_x_1 f_x_1
  have V_A := n_A
  clear n_A
  have lt_A : w.heap.size < w_3.heap.size := blk_lt V_A.out.blk
  have c_A_0 : w_3.cell? ⟨w.heap.size, 0, none⟩ = some (.int .i64 o) := (blk_cell V_A.out.blk 0).trans rfl
  have f_A_0 : w_3.frozen? ⟨w.heap.size, 0, none⟩ = false := blk_frozen V_A.out.blk 0
  have c_A_1 : w_3.cell? ⟨w.heap.size, 1, none⟩ = some (.int .i64 n) := (blk_cell V_A.out.blk 1).trans rfl
  have f_A_1 : w_3.frozen? ⟨w.heap.size, 1, none⟩ = false := blk_frozen V_A.out.blk 1
  have c_A_2 : w_3.cell? ⟨w.heap.size, 2, none⟩ = some (.int .i64 a) := (blk_cell V_A.out.blk 2).trans rfl
  have f_A_2 : w_3.frozen? ⟨w.heap.size, 2, none⟩ = false := blk_frozen V_A.out.blk 2
  have c_A_3 : w_3.cell? ⟨w.heap.size, 3, none⟩ = some (.int .i64 an) := (blk_cell V_A.out.blk 3).trans rfl
  have f_A_3 : w_3.frozen? ⟨w.heap.size, 3, none⟩ = false := blk_frozen V_A.out.blk 3
  have c_A_4 : w_3.cell? ⟨w.heap.size, 4, none⟩ = some (.int .i64 i) := (blk_cell V_A.out.blk 4).trans rfl
  have f_A_4 : w_3.frozen? ⟨w.heap.size, 4, none⟩ = false := blk_frozen V_A.out.blk 4
  have c_A_5 : w_3.cell? ⟨w.heap.size, 5, none⟩ = some (.int .i64 ii) := (blk_cell V_A.out.blk 5).trans rfl
  have f_A_5 : w_3.frozen? ⟨w.heap.size, 5, none⟩ = false := blk_frozen V_A.out.blk 5
  have c_A_6 : w_3.cell? ⟨w.heap.size, 6, none⟩ = some (.int .i64 v) := (blk_cell V_A.out.blk 6).trans rfl
  have f_A_6 : w_3.frozen? ⟨w.heap.size, 6, none⟩ = false := blk_frozen V_A.out.blk 6
  have c_A_7 : w_3.cell? ⟨w.heap.size, 7, none⟩ = some (.int .i64 vn) := (blk_cell V_A.out.blk 7).trans rfl
  have f_A_7 : w_3.frozen? ⟨w.heap.size, 7, none⟩ = false := blk_frozen V_A.out.blk 7
  have V_x := n_x
  clear n_x
  have lt_x : w_2.heap.size < w_3.heap.size := blk_lt V_x.out.blk
  have c_x_0 : w_3.cell? ⟨w_2.heap.size, 0, none⟩ = some (.int .i64 x0) := (blk_cell V_x.out.blk 0).trans rfl
  have f_x_0 : w_3.frozen? ⟨w_2.heap.size, 0, none⟩ = false := blk_frozen V_x.out.blk 0
  have c_x_1 : w_3.cell? ⟨w_2.heap.size, 1, none⟩ = some (.int .i64 x1) := (blk_cell V_x.out.blk 1).trans rfl
  have f_x_1 : w_3.frozen? ⟨w_2.heap.size, 1, none⟩ = false := blk_frozen V_x.out.blk 1
  clear R
  have R := Lib.hid R_
  clear R_ K_
  clear V_A lt_A c_A_0 f_A_0 c_A_1 f_A_1 c_A_2 f_A_2 c_A_3 f_A_3 c_A_4 f_A_4 c_A_5 f_A_5 c_A_6 f_A_6 c_A_7 f_A_7
  go_wp2_with fail
  obtain ⟨a3, hw_⟩ : ∃ W_, W_ = w_3.alloc (.cells #[.int .i64 y0, .int .i64 y1] 27) := ⟨_, rfl⟩
  rw [← hw_]
  have hb_ : Below w_3.heap.size w_3 a3 := by rw [hw_]; exact below_alloc (Below.refl _ _) _
  have n_x : Hid (Var a3 okh_2 okm_3 w_2.heap.size #[.int .i64 x0, .int .i64 x1] 23) := Lib.hid (V_x.out.below hb_)
  have n_y : Hid (Var a3 okh_2 okm_3 w_3.heap.size #[.int .i64 y0, .int .i64 y1] 27) := Lib.hid (Var.fresh R.out.two (by rw [hw_]; exact heap_alloc_new _ _) (Nat.le_refl _))
  clear V_x lt_x c_x_0 f_x_0 c_x_1 f_x_1
  have V_x := n_x
  clear n_x
  have lt_x : w_2.heap.size < a3.heap.size := blk_lt V_x.out.blk
  have c_x_0 : a3.cell? ⟨w_2.heap.size, 0, none⟩ = some (.int .i64 x0) := (blk_cell V_x.out.blk 0).trans rfl
  have f_x_0 : a3.frozen? ⟨w_2.heap.size, 0, none⟩ = false := blk_frozen V_x.out.blk 0
  have c_x_1 : a3.cell? ⟨w_2.heap.size, 1, none⟩ = some (.int .i64 x1) := (blk_cell V_x.out.blk 1).trans rfl
  have f_x_1 : a3.frozen? ⟨w_2.heap.size, 1, none⟩ = false := blk_frozen V_x.out.blk 1
  have V_y := n_y
  clear n_y
  have lt_y : w_3.heap.size < a3.heap.size := blk_lt V_y.out.blk
  have c_y_0 : a3.cell? ⟨w_3.heap.size, 0, none⟩ = some (.int .i64 y0) := (blk_cell V_y.out.blk 0).trans rfl
  have f_y_0 : a3.frozen? ⟨w_3.heap.size, 0, none⟩ = false := blk_frozen V_y.out.blk 0
  have c_y_1 : a3.cell? ⟨w_3.heap.size, 1, none⟩ = some (.int .i64 y1) := (blk_cell V_y.out.blk 1).trans rfl
  have f_y_1 : a3.frozen? ⟨w_3.heap.size, 1, none⟩ = false := blk_frozen V_y.out.blk 1
  have nR := Lib.hid (R.out.below hb_)
  clear R
  have R := nR
  clear nR
  clear hb_ hw_
  refine start_ (n := 15) (S := fun w' => w'.cell? ⟨w_2.heap.size, 0, none⟩ = some (.int .i64 x0) ∧ w'.cell? ⟨w_2.heap.size, 1, none⟩ = some (.int .i64 x1) ∧ w'.cell? ⟨w_3.heap.size, 0, none⟩ = some (.int .i64 y0) ∧ w'.cell? ⟨w_3.heap.size, 1, none⟩ = some (.int .i64 y1)) (ds := []) #[false, false, false, false, false, false, false, false, false, false, false, false, false, false, false] (by kernel_rfl) rfl rfl ⟨cell_drew c_x_0, cell_drew c_x_1, cell_drew c_y_0, cell_drew c_y_1⟩ (fun hHeld => ?_)
  refine take_ (i := 0) (N := some 38) (v := ?_) (a' := ?_) #[true, false, false, false, false, false, false, false, false, false, false, false, false, false, false] rfl rfl (by kernel_rfl) (fun _ _ _ h => h) (Or.inl ⟨by rfl, ?_⟩) hHeld ?_ ?_
  rotate_left
  · rintro w' ⟨s0, s1, s2, s3⟩
    go_simp
    with_reducible rfl
  rotate_left
  · simp only [Act.put, List.setIfInBounds_toArray, List.set_cons_zero, List.set_cons_succ, i64_w, i32_w]
    rfl
  refine take_ (i := 2) (N := some 40) (v := ?_) (a' := ?_) #[true, false, true, false, false, false, false, false, false, false, false, false, false, false, false] rfl rfl (by kernel_rfl) (fun _ _ _ h => h) (Or.inl ⟨by rfl, ?_⟩) hHeld ?_ ?_
  rotate_left
  · rintro w' ⟨s0, s1, s2, s3⟩
    go_simp
    with_reducible rfl
  rotate_left
  · simp only [Act.put, List.setIfInBounds_toArray, List.set_cons_zero, List.set_cons_succ, i64_w, i32_w]
    rfl
  refine one_ (i := 1) (N := some 39) #[true, true, true, false, false, false, false, false, false, false, false, false, false, false, false] rfl rfl (by kernel_rfl) (by decide) (fun K hK => ?_)
  refine goes_ Try.func12 (by kernel_rfl) rfl #[.agg #[.int .i64 x0, .int .i64 x1]] (by rfl) rfl rfl (by simp only [List.map_toArray, List.map_cons, List.map_nil]; rfl) ?_
  with_reducible refine (runnellaw9_as.calls x0 x1 x0 x1 _ rfl).mono ?_
  rintro e_ z1 ⟨rfl, hb_⟩
  refine ⟨_, rfl, ?_⟩
  have Q_z1 := Lib.hid (below_step (below_drew (Below.refl a3.heap.size a3)) hb_)
  have P_z1 := Lib.hid hb_
  clear hb_
  refine hK.out _ _ ⟨pw_cell_below P_z1.out hHeld.1, pw_cell_below P_z1.out hHeld.2.1, pw_cell_below P_z1.out hHeld.2.2.1, pw_cell_below P_z1.out hHeld.2.2.2⟩ (fun hHeld => ?_)
  clear hK K
  refine norm_ (a' := ?_) ?_ ?_
  rotate_left
  · show Act.put _ (some 39) _ = _
    simp only [Act.put, List.setIfInBounds_toArray, List.set_cons_zero, List.set_cons_succ, i64_w, i32_w]
    rfl
  refine pure_ (i := 3) (N := some 41) (v := ?_) (a' := ?_) #[true, true, true, true, false, false, false, false, false, false, false, false, false, false, false] rfl rfl (by kernel_rfl) (fun _ _ _ h => h) (Or.inl ⟨by rfl, ?_⟩) ?_ ?_
  rotate_left
  · intro w'
    go_simp
    with_reducible rfl
  rotate_left
  · simp only [Act.put, List.setIfInBounds_toArray, List.set_cons_zero, List.set_cons_succ, i64_w, i32_w]
    rfl
  refine pure_ (i := 4) (N := some 42) (v := ?_) (a' := ?_) #[true, true, true, true, true, false, false, false, false, false, false, false, false, false, false] rfl rfl (by kernel_rfl) (fun _ _ _ h => h) (Or.inl ⟨by rfl, ?_⟩) ?_ ?_
  rotate_left
  · intro w'
    go_simp
    with_reducible rfl
  rotate_left
  · simp only [Act.put, List.setIfInBounds_toArray, List.set_cons_zero, List.set_cons_succ, i64_w, i32_w]
    rfl
  refine pure_ (i := 5) (N := some 43) (v := undef) (a' := ?_) #[true, true, true, true, true, true, false, false, false, false, false, false, false, false, false] rfl rfl (by kernel_rfl) (fun _ _ _ h => h) (Or.inr ⟨by rfl, rfl⟩) ?_ ?_
  rotate_left
  · simp only [Act.put, List.setIfInBounds_toArray, List.set_cons_zero, List.set_cons_succ, i64_w, i32_w]
    rfl
  refine pure_ (i := 6) (N := some 44) (v := undef) (a' := ?_) #[true, true, true, true, true, true, true, false, false, false, false, false, false, false, false] rfl rfl (by kernel_rfl) (fun _ _ _ h => h) (Or.inr ⟨by rfl, rfl⟩) ?_ ?_
  rotate_left
  · simp only [Act.put, List.setIfInBounds_toArray, List.set_cons_zero, List.set_cons_succ, i64_w, i32_w]
    rfl
  refine pure_ (i := 7) (N := some 45) (v := undef) (a' := ?_) #[true, true, true, true, true, true, true, true, false, false, false, false, false, false, false] rfl rfl (by kernel_rfl) (fun _ _ _ h => h) (Or.inr ⟨by rfl, rfl⟩) ?_ ?_
  rotate_left
  · simp only [Act.put, List.setIfInBounds_toArray, List.set_cons_zero, List.set_cons_succ, i64_w, i32_w]
    rfl
  refine pure_ (i := 8) (N := some 46) (v := ?_) (a' := ?_) #[true, true, true, true, true, true, true, true, true, false, false, false, false, false, false] rfl rfl (by kernel_rfl) (fun _ _ _ h => h) (Or.inl ⟨by rfl, ?_⟩) ?_ ?_
  rotate_left
  · intro w'
    go_simp
    with_reducible rfl
  rotate_left
  · simp only [Act.put, List.setIfInBounds_toArray, List.set_cons_zero, List.set_cons_succ, i64_w, i32_w]
    rfl
  refine pure_ (i := 9) (N := some 47) (v := ?_) (a' := ?_) #[true, true, true, true, true, true, true, true, true, true, false, false, false, false, false] rfl rfl (by kernel_rfl) (fun _ _ _ h => h) (Or.inl ⟨by rfl, ?_⟩) ?_ ?_
  rotate_left
  · intro w'
    go_simp
    with_reducible rfl
  rotate_left
  · simp only [Act.put, List.setIfInBounds_toArray, List.set_cons_zero, List.set_cons_succ, i64_w, i32_w]
    rfl
  refine pure_ (i := 10) (N := some 48) (v := undef) (a' := ?_) #[true, true, true, true, true, true, true, true, true, true, true, false, false, false, false] rfl rfl (by kernel_rfl) (fun _ _ _ h => h) (Or.inr ⟨by rfl, rfl⟩) ?_ ?_
  rotate_left
  · simp only [Act.put, List.setIfInBounds_toArray, List.set_cons_zero, List.set_cons_succ, i64_w, i32_w]
    rfl
  refine pure_ (i := 11) (N := some 49) (v := undef) (a' := ?_) #[true, true, true, true, true, true, true, true, true, true, true, true, false, false, false] rfl rfl (by kernel_rfl) (fun _ _ _ h => h) (Or.inr ⟨by rfl, rfl⟩) ?_ ?_
  rotate_left
  · simp only [Act.put, List.setIfInBounds_toArray, List.set_cons_zero, List.set_cons_succ, i64_w, i32_w]
    rfl
  refine pure_ (i := 12) (N := some 50) (v := undef) (a' := ?_) #[true, true, true, true, true, true, true, true, true, true, true, true, true, false, false] rfl rfl (by kernel_rfl) (fun _ _ _ h => h) (Or.inr ⟨by rfl, rfl⟩) ?_ ?_
  rotate_left
  · simp only [Act.put, List.setIfInBounds_toArray, List.set_cons_zero, List.set_cons_succ, i64_w, i32_w]
    rfl
  refine pure_ (i := 13) (N := some 51) (v := ?_) (a' := ?_) #[true, true, true, true, true, true, true, true, true, true, true, true, true, true, false] rfl rfl (by kernel_rfl) (fun _ _ _ h => h) (Or.inl ⟨by rfl, ?_⟩) ?_ ?_
  rotate_left
  · intro w'
    go_simp
    with_reducible rfl
  rotate_left
  · simp only [Act.put, List.setIfInBounds_toArray, List.set_cons_zero, List.set_cons_succ, i64_w, i32_w]
    rfl
  refine pure_ (i := 14) (N := some 6) (v := ?_) (a' := ?_) #[true, true, true, true, true, true, true, true, true, true, true, true, true, true, true] rfl rfl (by kernel_rfl) (fun _ _ _ h => h) (Or.inl ⟨by rfl, ?_⟩) ?_ ?_
  rotate_left
  · intro w'
    go_simp
    with_reducible rfl
  rotate_left
  · simp only [Act.put, List.setIfInBounds_toArray, List.set_cons_zero, List.set_cons_succ, i64_w, i32_w]
    rfl
  refine done_ (by kernel_rfl) ?_
  have n_x : Hid (Var z1 okh_2 okm_3 w_2.heap.size #[.int .i64 x0, .int .i64 x1] 23) := Lib.hid (V_x.out.below Q_z1.out)
  have n_y : Hid (Var z1 okh_2 okm_3 w_3.heap.size #[.int .i64 y0, .int .i64 y1] 27) := Lib.hid (V_y.out.below Q_z1.out)
  clear V_x lt_x c_x_0 f_x_0 c_x_1 f_x_1 V_y lt_y c_y_0 f_y_0 c_y_1 f_y_1
  have V_x := n_x
  clear n_x
  have lt_x : w_2.heap.size < z1.heap.size := blk_lt V_x.out.blk
  have c_x_0 : z1.cell? ⟨w_2.heap.size, 0, none⟩ = some (.int .i64 x0) := (blk_cell V_x.out.blk 0).trans rfl
  have f_x_0 : z1.frozen? ⟨w_2.heap.size, 0, none⟩ = false := blk_frozen V_x.out.blk 0
  have c_x_1 : z1.cell? ⟨w_2.heap.size, 1, none⟩ = some (.int .i64 x1) := (blk_cell V_x.out.blk 1).trans rfl
  have f_x_1 : z1.frozen? ⟨w_2.heap.size, 1, none⟩ = false := blk_frozen V_x.out.blk 1
  have V_y := n_y
  clear n_y
  have lt_y : w_3.heap.size < z1.heap.size := blk_lt V_y.out.blk
  have c_y_0 : z1.cell? ⟨w_3.heap.size, 0, none⟩ = some (.int .i64 y0) := (blk_cell V_y.out.blk 0).trans rfl
  have f_y_0 : z1.frozen? ⟨w_3.heap.size, 0, none⟩ = false := blk_frozen V_y.out.blk 0
  have c_y_1 : z1.cell? ⟨w_3.heap.size, 1, none⟩ = some (.int .i64 y1) := (blk_cell V_y.out.blk 1).trans rfl
  have f_y_1 : z1.frozen? ⟨w_3.heap.size, 1, none⟩ = false := blk_frozen V_y.out.blk 1
  have nR := Lib.hid (R.out.below Q_z1.out)
  clear R
  have R := nR
  clear nR
  go_wp2_with fail
  go_ret
  exact ⟨rfl, R.out.after⟩
set_option maxRecDepth 100000 in
set_option maxHeartbeats 8000000 in
theorem does_newA2 {w : World} {Bh Bm : Nat} {okh okm : Nat → Prop} {L M : List (List Int)} (o n a an i ii v vn : Int) {x0 x1 y1 e : Int} {one two : Bool} (hx : newK L n = x0 ∧ newN L n = x1 ∧ newE L n = e ∧ newR L n = one) (hy : newK M n = x0 ∧ newN M n = y1 ∧ newE M n = e ∧ newR M n = two) (hq : (x1 == y1) = false) (T : Two w Bh Bm okh okm L M) (hp : runnellaw9_pick.f o 4 = some 0) :
    Calls Try.prog 17 #[.pointer (some ⟨Bh, 0, none⟩), .pointer (some ⟨Bm, 0, none⟩), .agg #[.int .i64 o, .int .i64 n, .int .i64 a, .int .i64 an, .int .i64 i, .int .i64 ii, .int .i64 v, .int .i64 vn]] w fun e w' => e = .returned (.bool false) ∧ After w Bh Bm okh okm (newL L n) (newL M n) w' := by
  have HX := Lib.hid hx
  have HY := Lib.hid hy
  clear hx hy
  have HP := Lib.hid hp
  have R := Lib.hid (Run.start T)
  clear hp T
  go_enter Try.func17, Try.ntmps17
  go_wp2_with fail
  obtain ⟨a1, hw_⟩ : ∃ W_, W_ = w.alloc (.cells #[.int .i64 o, .int .i64 n, .int .i64 a, .int .i64 an, .int .i64 i, .int .i64 ii, .int .i64 v, .int .i64 vn] 53) := ⟨_, rfl⟩
  rw [← hw_]
  have hb_ : Below w.heap.size w a1 := by rw [hw_]; exact below_alloc (Below.refl _ _) _
  have n_A : Hid (Var a1 okh okm w.heap.size #[.int .i64 o, .int .i64 n, .int .i64 a, .int .i64 an, .int .i64 i, .int .i64 ii, .int .i64 v, .int .i64 vn] 53) := Lib.hid (Var.fresh R.out.two (by rw [hw_]; exact heap_alloc_new _ _) (Nat.le_refl _))
  have V_A := n_A
  clear n_A
  have lt_A : w.heap.size < a1.heap.size := blk_lt V_A.out.blk
  have c_A_0 : a1.cell? ⟨w.heap.size, 0, none⟩ = some (.int .i64 o) := (blk_cell V_A.out.blk 0).trans rfl
  have f_A_0 : a1.frozen? ⟨w.heap.size, 0, none⟩ = false := blk_frozen V_A.out.blk 0
  have c_A_1 : a1.cell? ⟨w.heap.size, 1, none⟩ = some (.int .i64 n) := (blk_cell V_A.out.blk 1).trans rfl
  have f_A_1 : a1.frozen? ⟨w.heap.size, 1, none⟩ = false := blk_frozen V_A.out.blk 1
  have c_A_2 : a1.cell? ⟨w.heap.size, 2, none⟩ = some (.int .i64 a) := (blk_cell V_A.out.blk 2).trans rfl
  have f_A_2 : a1.frozen? ⟨w.heap.size, 2, none⟩ = false := blk_frozen V_A.out.blk 2
  have c_A_3 : a1.cell? ⟨w.heap.size, 3, none⟩ = some (.int .i64 an) := (blk_cell V_A.out.blk 3).trans rfl
  have f_A_3 : a1.frozen? ⟨w.heap.size, 3, none⟩ = false := blk_frozen V_A.out.blk 3
  have c_A_4 : a1.cell? ⟨w.heap.size, 4, none⟩ = some (.int .i64 i) := (blk_cell V_A.out.blk 4).trans rfl
  have f_A_4 : a1.frozen? ⟨w.heap.size, 4, none⟩ = false := blk_frozen V_A.out.blk 4
  have c_A_5 : a1.cell? ⟨w.heap.size, 5, none⟩ = some (.int .i64 ii) := (blk_cell V_A.out.blk 5).trans rfl
  have f_A_5 : a1.frozen? ⟨w.heap.size, 5, none⟩ = false := blk_frozen V_A.out.blk 5
  have c_A_6 : a1.cell? ⟨w.heap.size, 6, none⟩ = some (.int .i64 v) := (blk_cell V_A.out.blk 6).trans rfl
  have f_A_6 : a1.frozen? ⟨w.heap.size, 6, none⟩ = false := blk_frozen V_A.out.blk 6
  have c_A_7 : a1.cell? ⟨w.heap.size, 7, none⟩ = some (.int .i64 vn) := (blk_cell V_A.out.blk 7).trans rfl
  have f_A_7 : a1.frozen? ⟨w.heap.size, 7, none⟩ = false := blk_frozen V_A.out.blk 7
  have nR := Lib.hid (R.out.below hb_)
  clear R
  have R := nR
  clear nR
  clear hb_ hw_
  refine (pick_below o 0 _ HP.out).mono ?_
  rintro e_ w_1 ⟨rfl, hb_⟩
  have n_A : Hid (Var w_1 okh okm w.heap.size #[.int .i64 o, .int .i64 n, .int .i64 a, .int .i64 an, .int .i64 i, .int .i64 ii, .int .i64 v, .int .i64 vn] 53) := Lib.hid (V_A.out.below hb_)
  clear V_A lt_A c_A_0 f_A_0 c_A_1 f_A_1 c_A_2 f_A_2 c_A_3 f_A_3 c_A_4 f_A_4 c_A_5 f_A_5 c_A_6 f_A_6 c_A_7 f_A_7
  have V_A := n_A
  clear n_A
  have lt_A : w.heap.size < w_1.heap.size := blk_lt V_A.out.blk
  have c_A_0 : w_1.cell? ⟨w.heap.size, 0, none⟩ = some (.int .i64 o) := (blk_cell V_A.out.blk 0).trans rfl
  have f_A_0 : w_1.frozen? ⟨w.heap.size, 0, none⟩ = false := blk_frozen V_A.out.blk 0
  have c_A_1 : w_1.cell? ⟨w.heap.size, 1, none⟩ = some (.int .i64 n) := (blk_cell V_A.out.blk 1).trans rfl
  have f_A_1 : w_1.frozen? ⟨w.heap.size, 1, none⟩ = false := blk_frozen V_A.out.blk 1
  have c_A_2 : w_1.cell? ⟨w.heap.size, 2, none⟩ = some (.int .i64 a) := (blk_cell V_A.out.blk 2).trans rfl
  have f_A_2 : w_1.frozen? ⟨w.heap.size, 2, none⟩ = false := blk_frozen V_A.out.blk 2
  have c_A_3 : w_1.cell? ⟨w.heap.size, 3, none⟩ = some (.int .i64 an) := (blk_cell V_A.out.blk 3).trans rfl
  have f_A_3 : w_1.frozen? ⟨w.heap.size, 3, none⟩ = false := blk_frozen V_A.out.blk 3
  have c_A_4 : w_1.cell? ⟨w.heap.size, 4, none⟩ = some (.int .i64 i) := (blk_cell V_A.out.blk 4).trans rfl
  have f_A_4 : w_1.frozen? ⟨w.heap.size, 4, none⟩ = false := blk_frozen V_A.out.blk 4
  have c_A_5 : w_1.cell? ⟨w.heap.size, 5, none⟩ = some (.int .i64 ii) := (blk_cell V_A.out.blk 5).trans rfl
  have f_A_5 : w_1.frozen? ⟨w.heap.size, 5, none⟩ = false := blk_frozen V_A.out.blk 5
  have c_A_6 : w_1.cell? ⟨w.heap.size, 6, none⟩ = some (.int .i64 v) := (blk_cell V_A.out.blk 6).trans rfl
  have f_A_6 : w_1.frozen? ⟨w.heap.size, 6, none⟩ = false := blk_frozen V_A.out.blk 6
  have c_A_7 : w_1.cell? ⟨w.heap.size, 7, none⟩ = some (.int .i64 vn) := (blk_cell V_A.out.blk 7).trans rfl
  have f_A_7 : w_1.frozen? ⟨w.heap.size, 7, none⟩ = false := blk_frozen V_A.out.blk 7
  have nR := Lib.hid (R.out.below hb_)
  clear R
  have R := nR
  clear nR
  clear hb_
  go_wp2_with fail
  refine (run_newH R.out n HX.out).mono ?_
  rintro e_ w_2 ⟨rfl, okh_2, R_, K_⟩
  have n_A : Hid (Var w_2 okh_2 okm w.heap.size #[.int .i64 o, .int .i64 n, .int .i64 a, .int .i64 an, .int .i64 i, .int .i64 ii, .int .i64 v, .int .i64 vn] 53) := Lib.hid (V_A.out.keep K_)
  clear V_A lt_A c_A_0 f_A_0 c_A_1 f_A_1 c_A_2 f_A_2 c_A_3 f_A_3 c_A_4 f_A_4 c_A_5 f_A_5 c_A_6 f_A_6 c_A_7 f_A_7
  have V_A := n_A
  clear n_A
  have lt_A : w.heap.size < w_2.heap.size := blk_lt V_A.out.blk
  have c_A_0 : w_2.cell? ⟨w.heap.size, 0, none⟩ = some (.int .i64 o) := (blk_cell V_A.out.blk 0).trans rfl
  have f_A_0 : w_2.frozen? ⟨w.heap.size, 0, none⟩ = false := blk_frozen V_A.out.blk 0
  have c_A_1 : w_2.cell? ⟨w.heap.size, 1, none⟩ = some (.int .i64 n) := (blk_cell V_A.out.blk 1).trans rfl
  have f_A_1 : w_2.frozen? ⟨w.heap.size, 1, none⟩ = false := blk_frozen V_A.out.blk 1
  have c_A_2 : w_2.cell? ⟨w.heap.size, 2, none⟩ = some (.int .i64 a) := (blk_cell V_A.out.blk 2).trans rfl
  have f_A_2 : w_2.frozen? ⟨w.heap.size, 2, none⟩ = false := blk_frozen V_A.out.blk 2
  have c_A_3 : w_2.cell? ⟨w.heap.size, 3, none⟩ = some (.int .i64 an) := (blk_cell V_A.out.blk 3).trans rfl
  have f_A_3 : w_2.frozen? ⟨w.heap.size, 3, none⟩ = false := blk_frozen V_A.out.blk 3
  have c_A_4 : w_2.cell? ⟨w.heap.size, 4, none⟩ = some (.int .i64 i) := (blk_cell V_A.out.blk 4).trans rfl
  have f_A_4 : w_2.frozen? ⟨w.heap.size, 4, none⟩ = false := blk_frozen V_A.out.blk 4
  have c_A_5 : w_2.cell? ⟨w.heap.size, 5, none⟩ = some (.int .i64 ii) := (blk_cell V_A.out.blk 5).trans rfl
  have f_A_5 : w_2.frozen? ⟨w.heap.size, 5, none⟩ = false := blk_frozen V_A.out.blk 5
  have c_A_6 : w_2.cell? ⟨w.heap.size, 6, none⟩ = some (.int .i64 v) := (blk_cell V_A.out.blk 6).trans rfl
  have f_A_6 : w_2.frozen? ⟨w.heap.size, 6, none⟩ = false := blk_frozen V_A.out.blk 6
  have c_A_7 : w_2.cell? ⟨w.heap.size, 7, none⟩ = some (.int .i64 vn) := (blk_cell V_A.out.blk 7).trans rfl
  have f_A_7 : w_2.frozen? ⟨w.heap.size, 7, none⟩ = false := blk_frozen V_A.out.blk 7
  clear R
  have R := Lib.hid R_
  clear R_ K_
  go_wp2_with fail
  obtain ⟨a2, hw_⟩ : ∃ W_, W_ = w_2.alloc (.cells #[.int .i64 x0, .int .i64 x1] 23) := ⟨_, rfl⟩
  rw [← hw_]
  have hb_ : Below w_2.heap.size w_2 a2 := by rw [hw_]; exact below_alloc (Below.refl _ _) _
  have n_A : Hid (Var a2 okh_2 okm w.heap.size #[.int .i64 o, .int .i64 n, .int .i64 a, .int .i64 an, .int .i64 i, .int .i64 ii, .int .i64 v, .int .i64 vn] 53) := Lib.hid (V_A.out.below hb_)
  have n_x : Hid (Var a2 okh_2 okm w_2.heap.size #[.int .i64 x0, .int .i64 x1] 23) := Lib.hid (Var.fresh R.out.two (by rw [hw_]; exact heap_alloc_new _ _) (Nat.le_refl _))
  clear V_A lt_A c_A_0 f_A_0 c_A_1 f_A_1 c_A_2 f_A_2 c_A_3 f_A_3 c_A_4 f_A_4 c_A_5 f_A_5 c_A_6 f_A_6 c_A_7 f_A_7
  have V_A := n_A
  clear n_A
  have lt_A : w.heap.size < a2.heap.size := blk_lt V_A.out.blk
  have c_A_0 : a2.cell? ⟨w.heap.size, 0, none⟩ = some (.int .i64 o) := (blk_cell V_A.out.blk 0).trans rfl
  have f_A_0 : a2.frozen? ⟨w.heap.size, 0, none⟩ = false := blk_frozen V_A.out.blk 0
  have c_A_1 : a2.cell? ⟨w.heap.size, 1, none⟩ = some (.int .i64 n) := (blk_cell V_A.out.blk 1).trans rfl
  have f_A_1 : a2.frozen? ⟨w.heap.size, 1, none⟩ = false := blk_frozen V_A.out.blk 1
  have c_A_2 : a2.cell? ⟨w.heap.size, 2, none⟩ = some (.int .i64 a) := (blk_cell V_A.out.blk 2).trans rfl
  have f_A_2 : a2.frozen? ⟨w.heap.size, 2, none⟩ = false := blk_frozen V_A.out.blk 2
  have c_A_3 : a2.cell? ⟨w.heap.size, 3, none⟩ = some (.int .i64 an) := (blk_cell V_A.out.blk 3).trans rfl
  have f_A_3 : a2.frozen? ⟨w.heap.size, 3, none⟩ = false := blk_frozen V_A.out.blk 3
  have c_A_4 : a2.cell? ⟨w.heap.size, 4, none⟩ = some (.int .i64 i) := (blk_cell V_A.out.blk 4).trans rfl
  have f_A_4 : a2.frozen? ⟨w.heap.size, 4, none⟩ = false := blk_frozen V_A.out.blk 4
  have c_A_5 : a2.cell? ⟨w.heap.size, 5, none⟩ = some (.int .i64 ii) := (blk_cell V_A.out.blk 5).trans rfl
  have f_A_5 : a2.frozen? ⟨w.heap.size, 5, none⟩ = false := blk_frozen V_A.out.blk 5
  have c_A_6 : a2.cell? ⟨w.heap.size, 6, none⟩ = some (.int .i64 v) := (blk_cell V_A.out.blk 6).trans rfl
  have f_A_6 : a2.frozen? ⟨w.heap.size, 6, none⟩ = false := blk_frozen V_A.out.blk 6
  have c_A_7 : a2.cell? ⟨w.heap.size, 7, none⟩ = some (.int .i64 vn) := (blk_cell V_A.out.blk 7).trans rfl
  have f_A_7 : a2.frozen? ⟨w.heap.size, 7, none⟩ = false := blk_frozen V_A.out.blk 7
  have V_x := n_x
  clear n_x
  have lt_x : w_2.heap.size < a2.heap.size := blk_lt V_x.out.blk
  have c_x_0 : a2.cell? ⟨w_2.heap.size, 0, none⟩ = some (.int .i64 x0) := (blk_cell V_x.out.blk 0).trans rfl
  have f_x_0 : a2.frozen? ⟨w_2.heap.size, 0, none⟩ = false := blk_frozen V_x.out.blk 0
  have c_x_1 : a2.cell? ⟨w_2.heap.size, 1, none⟩ = some (.int .i64 x1) := (blk_cell V_x.out.blk 1).trans rfl
  have f_x_1 : a2.frozen? ⟨w_2.heap.size, 1, none⟩ = false := blk_frozen V_x.out.blk 1
  have nR := Lib.hid (R.out.below hb_)
  clear R
  have R := nR
  clear nR
  clear hb_ hw_
  refine (run_newM R.out n HY.out).mono ?_
  rintro e_ w_3 ⟨rfl, okm_3, R_, K_⟩
  have n_A : Hid (Var w_3 okh_2 okm_3 w.heap.size #[.int .i64 o, .int .i64 n, .int .i64 a, .int .i64 an, .int .i64 i, .int .i64 ii, .int .i64 v, .int .i64 vn] 53) := Lib.hid (V_A.out.keep K_)
  have n_x : Hid (Var w_3 okh_2 okm_3 w_2.heap.size #[.int .i64 x0, .int .i64 x1] 23) := Lib.hid (V_x.out.keep K_)
  clear V_A lt_A c_A_0 f_A_0 c_A_1 f_A_1 c_A_2 f_A_2 c_A_3 f_A_3 c_A_4 f_A_4 c_A_5 f_A_5 c_A_6 f_A_6 c_A_7 f_A_7 V_x lt_x c_x_0 f_x_0 c_x_1 f_x_1
  have V_A := n_A
  clear n_A
  have lt_A : w.heap.size < w_3.heap.size := blk_lt V_A.out.blk
  have c_A_0 : w_3.cell? ⟨w.heap.size, 0, none⟩ = some (.int .i64 o) := (blk_cell V_A.out.blk 0).trans rfl
  have f_A_0 : w_3.frozen? ⟨w.heap.size, 0, none⟩ = false := blk_frozen V_A.out.blk 0
  have c_A_1 : w_3.cell? ⟨w.heap.size, 1, none⟩ = some (.int .i64 n) := (blk_cell V_A.out.blk 1).trans rfl
  have f_A_1 : w_3.frozen? ⟨w.heap.size, 1, none⟩ = false := blk_frozen V_A.out.blk 1
  have c_A_2 : w_3.cell? ⟨w.heap.size, 2, none⟩ = some (.int .i64 a) := (blk_cell V_A.out.blk 2).trans rfl
  have f_A_2 : w_3.frozen? ⟨w.heap.size, 2, none⟩ = false := blk_frozen V_A.out.blk 2
  have c_A_3 : w_3.cell? ⟨w.heap.size, 3, none⟩ = some (.int .i64 an) := (blk_cell V_A.out.blk 3).trans rfl
  have f_A_3 : w_3.frozen? ⟨w.heap.size, 3, none⟩ = false := blk_frozen V_A.out.blk 3
  have c_A_4 : w_3.cell? ⟨w.heap.size, 4, none⟩ = some (.int .i64 i) := (blk_cell V_A.out.blk 4).trans rfl
  have f_A_4 : w_3.frozen? ⟨w.heap.size, 4, none⟩ = false := blk_frozen V_A.out.blk 4
  have c_A_5 : w_3.cell? ⟨w.heap.size, 5, none⟩ = some (.int .i64 ii) := (blk_cell V_A.out.blk 5).trans rfl
  have f_A_5 : w_3.frozen? ⟨w.heap.size, 5, none⟩ = false := blk_frozen V_A.out.blk 5
  have c_A_6 : w_3.cell? ⟨w.heap.size, 6, none⟩ = some (.int .i64 v) := (blk_cell V_A.out.blk 6).trans rfl
  have f_A_6 : w_3.frozen? ⟨w.heap.size, 6, none⟩ = false := blk_frozen V_A.out.blk 6
  have c_A_7 : w_3.cell? ⟨w.heap.size, 7, none⟩ = some (.int .i64 vn) := (blk_cell V_A.out.blk 7).trans rfl
  have f_A_7 : w_3.frozen? ⟨w.heap.size, 7, none⟩ = false := blk_frozen V_A.out.blk 7
  have V_x := n_x
  clear n_x
  have lt_x : w_2.heap.size < w_3.heap.size := blk_lt V_x.out.blk
  have c_x_0 : w_3.cell? ⟨w_2.heap.size, 0, none⟩ = some (.int .i64 x0) := (blk_cell V_x.out.blk 0).trans rfl
  have f_x_0 : w_3.frozen? ⟨w_2.heap.size, 0, none⟩ = false := blk_frozen V_x.out.blk 0
  have c_x_1 : w_3.cell? ⟨w_2.heap.size, 1, none⟩ = some (.int .i64 x1) := (blk_cell V_x.out.blk 1).trans rfl
  have f_x_1 : w_3.frozen? ⟨w_2.heap.size, 1, none⟩ = false := blk_frozen V_x.out.blk 1
  clear R
  have R := Lib.hid R_
  clear R_ K_
  clear V_A lt_A c_A_0 f_A_0 c_A_1 f_A_1 c_A_2 f_A_2 c_A_3 f_A_3 c_A_4 f_A_4 c_A_5 f_A_5 c_A_6 f_A_6 c_A_7 f_A_7
  go_wp2_with fail
  obtain ⟨a3, hw_⟩ : ∃ W_, W_ = w_3.alloc (.cells #[.int .i64 x0, .int .i64 y1] 27) := ⟨_, rfl⟩
  rw [← hw_]
  have hb_ : Below w_3.heap.size w_3 a3 := by rw [hw_]; exact below_alloc (Below.refl _ _) _
  have n_x : Hid (Var a3 okh_2 okm_3 w_2.heap.size #[.int .i64 x0, .int .i64 x1] 23) := Lib.hid (V_x.out.below hb_)
  have n_y : Hid (Var a3 okh_2 okm_3 w_3.heap.size #[.int .i64 x0, .int .i64 y1] 27) := Lib.hid (Var.fresh R.out.two (by rw [hw_]; exact heap_alloc_new _ _) (Nat.le_refl _))
  clear V_x lt_x c_x_0 f_x_0 c_x_1 f_x_1
  have V_x := n_x
  clear n_x
  have lt_x : w_2.heap.size < a3.heap.size := blk_lt V_x.out.blk
  have c_x_0 : a3.cell? ⟨w_2.heap.size, 0, none⟩ = some (.int .i64 x0) := (blk_cell V_x.out.blk 0).trans rfl
  have f_x_0 : a3.frozen? ⟨w_2.heap.size, 0, none⟩ = false := blk_frozen V_x.out.blk 0
  have c_x_1 : a3.cell? ⟨w_2.heap.size, 1, none⟩ = some (.int .i64 x1) := (blk_cell V_x.out.blk 1).trans rfl
  have f_x_1 : a3.frozen? ⟨w_2.heap.size, 1, none⟩ = false := blk_frozen V_x.out.blk 1
  have V_y := n_y
  clear n_y
  have lt_y : w_3.heap.size < a3.heap.size := blk_lt V_y.out.blk
  have c_y_0 : a3.cell? ⟨w_3.heap.size, 0, none⟩ = some (.int .i64 x0) := (blk_cell V_y.out.blk 0).trans rfl
  have f_y_0 : a3.frozen? ⟨w_3.heap.size, 0, none⟩ = false := blk_frozen V_y.out.blk 0
  have c_y_1 : a3.cell? ⟨w_3.heap.size, 1, none⟩ = some (.int .i64 y1) := (blk_cell V_y.out.blk 1).trans rfl
  have f_y_1 : a3.frozen? ⟨w_3.heap.size, 1, none⟩ = false := blk_frozen V_y.out.blk 1
  have nR := Lib.hid (R.out.below hb_)
  clear R
  have R := nR
  clear nR
  clear hb_ hw_
  refine start_ (n := 15) (S := fun w' => w'.cell? ⟨w_2.heap.size, 0, none⟩ = some (.int .i64 x0) ∧ w'.cell? ⟨w_2.heap.size, 1, none⟩ = some (.int .i64 x1) ∧ w'.cell? ⟨w_3.heap.size, 0, none⟩ = some (.int .i64 x0) ∧ w'.cell? ⟨w_3.heap.size, 1, none⟩ = some (.int .i64 y1)) (ds := []) #[false, false, false, false, false, false, false, false, false, false, false, false, false, false, false] (by kernel_rfl) rfl rfl ⟨cell_drew c_x_0, cell_drew c_x_1, cell_drew c_y_0, cell_drew c_y_1⟩ (fun hHeld => ?_)
  refine take_ (i := 0) (N := some 38) (v := ?_) (a' := ?_) #[true, false, false, false, false, false, false, false, false, false, false, false, false, false, false] rfl rfl (by kernel_rfl) (fun _ _ _ h => h) (Or.inl ⟨by rfl, ?_⟩) hHeld ?_ ?_
  rotate_left
  · rintro w' ⟨s0, s1, s2, s3⟩
    go_simp
    with_reducible rfl
  rotate_left
  · simp only [Act.put, List.setIfInBounds_toArray, List.set_cons_zero, List.set_cons_succ, i64_w, i32_w]
    rfl
  refine take_ (i := 2) (N := some 40) (v := ?_) (a' := ?_) #[true, false, true, false, false, false, false, false, false, false, false, false, false, false, false] rfl rfl (by kernel_rfl) (fun _ _ _ h => h) (Or.inl ⟨by rfl, ?_⟩) hHeld ?_ ?_
  rotate_left
  · rintro w' ⟨s0, s1, s2, s3⟩
    go_simp
    with_reducible rfl
  rotate_left
  · simp only [Act.put, List.setIfInBounds_toArray, List.set_cons_zero, List.set_cons_succ, i64_w, i32_w]
    rfl
  refine one_ (i := 1) (N := some 39) #[true, true, true, false, false, false, false, false, false, false, false, false, false, false, false] rfl rfl (by kernel_rfl) (by decide) (fun K hK => ?_)
  refine goes_ Try.func12 (by kernel_rfl) rfl #[.agg #[.int .i64 x0, .int .i64 x1]] (by rfl) rfl rfl (by simp only [List.map_toArray, List.map_cons, List.map_nil]; rfl) ?_
  with_reducible refine (runnellaw9_as.calls x0 x1 x0 x1 _ rfl).mono ?_
  rintro e_ z1 ⟨rfl, hb_⟩
  refine ⟨_, rfl, ?_⟩
  have Q_z1 := Lib.hid (below_step (below_drew (Below.refl a3.heap.size a3)) hb_)
  have P_z1 := Lib.hid hb_
  clear hb_
  refine hK.out _ _ ⟨pw_cell_below P_z1.out hHeld.1, pw_cell_below P_z1.out hHeld.2.1, pw_cell_below P_z1.out hHeld.2.2.1, pw_cell_below P_z1.out hHeld.2.2.2⟩ (fun hHeld => ?_)
  clear hK K
  refine norm_ (a' := ?_) ?_ ?_
  rotate_left
  · show Act.put _ (some 39) _ = _
    simp only [Act.put, List.setIfInBounds_toArray, List.set_cons_zero, List.set_cons_succ, i64_w, i32_w]
    rfl
  refine pure_ (i := 3) (N := some 41) (v := ?_) (a' := ?_) #[true, true, true, true, false, false, false, false, false, false, false, false, false, false, false] rfl rfl (by kernel_rfl) (fun _ _ _ h => h) (Or.inl ⟨by rfl, ?_⟩) ?_ ?_
  rotate_left
  · intro w'
    go_simp
    with_reducible rfl
  rotate_left
  · simp only [Act.put, List.setIfInBounds_toArray, List.set_cons_zero, List.set_cons_succ, i64_w, i32_w]
    rfl
  refine pure_ (i := 4) (N := some 42) (v := ?_) (a' := ?_) #[true, true, true, true, true, false, false, false, false, false, false, false, false, false, false] rfl rfl (by kernel_rfl) (fun _ _ _ h => h) (Or.inl ⟨by rfl, ?_⟩) ?_ ?_
  rotate_left
  · intro w'
    go_simp
    with_reducible rfl
  rotate_left
  · simp only [Act.put, List.setIfInBounds_toArray, List.set_cons_zero, List.set_cons_succ, i64_w, i32_w]
    rfl
  refine pure_ (i := 5) (N := some 43) (v := undef) (a' := ?_) #[true, true, true, true, true, true, false, false, false, false, false, false, false, false, false] rfl rfl (by kernel_rfl) (fun _ _ _ h => h) (Or.inr ⟨by rfl, rfl⟩) ?_ ?_
  rotate_left
  · simp only [Act.put, List.setIfInBounds_toArray, List.set_cons_zero, List.set_cons_succ, i64_w, i32_w]
    rfl
  refine pure_ (i := 6) (N := some 44) (v := undef) (a' := ?_) #[true, true, true, true, true, true, true, false, false, false, false, false, false, false, false] rfl rfl (by kernel_rfl) (fun _ _ _ h => h) (Or.inr ⟨by rfl, rfl⟩) ?_ ?_
  rotate_left
  · simp only [Act.put, List.setIfInBounds_toArray, List.set_cons_zero, List.set_cons_succ, i64_w, i32_w]
    rfl
  refine pure_ (i := 7) (N := some 45) (v := undef) (a' := ?_) #[true, true, true, true, true, true, true, true, false, false, false, false, false, false, false] rfl rfl (by kernel_rfl) (fun _ _ _ h => h) (Or.inr ⟨by rfl, rfl⟩) ?_ ?_
  rotate_left
  · simp only [Act.put, List.setIfInBounds_toArray, List.set_cons_zero, List.set_cons_succ, i64_w, i32_w]
    rfl
  refine pure_ (i := 8) (N := some 46) (v := ?_) (a' := ?_) #[true, true, true, true, true, true, true, true, true, false, false, false, false, false, false] rfl rfl (by kernel_rfl) (fun _ _ _ h => h) (Or.inl ⟨by rfl, ?_⟩) ?_ ?_
  rotate_left
  · intro w'
    go_simp
    with_reducible rfl
  rotate_left
  · simp only [Act.put, List.setIfInBounds_toArray, List.set_cons_zero, List.set_cons_succ, i64_w, i32_w]
    rfl
  refine pure_ (i := 9) (N := some 47) (v := ?_) (a' := ?_) #[true, true, true, true, true, true, true, true, true, true, false, false, false, false, false] rfl rfl (by kernel_rfl) (fun _ _ _ h => h) (Or.inl ⟨by rfl, ?_⟩) ?_ ?_
  rotate_left
  · intro w'
    go_simp
    with_reducible rfl
  rotate_left
  · simp only [Act.put, List.setIfInBounds_toArray, List.set_cons_zero, List.set_cons_succ, i64_w, i32_w]
    rfl
  refine pure_ (i := 10) (N := some 48) (v := undef) (a' := ?_) #[true, true, true, true, true, true, true, true, true, true, true, false, false, false, false] rfl rfl (by kernel_rfl) (fun _ _ _ h => h) (Or.inr ⟨by rfl, rfl⟩) ?_ ?_
  rotate_left
  · simp only [Act.put, List.setIfInBounds_toArray, List.set_cons_zero, List.set_cons_succ, i64_w, i32_w]
    rfl
  refine pure_ (i := 11) (N := some 49) (v := undef) (a' := ?_) #[true, true, true, true, true, true, true, true, true, true, true, true, false, false, false] rfl rfl (by kernel_rfl) (fun _ _ _ h => h) (Or.inr ⟨by rfl, rfl⟩) ?_ ?_
  rotate_left
  · simp only [Act.put, List.setIfInBounds_toArray, List.set_cons_zero, List.set_cons_succ, i64_w, i32_w]
    rfl
  refine pure_ (i := 12) (N := some 50) (v := undef) (a' := ?_) #[true, true, true, true, true, true, true, true, true, true, true, true, true, false, false] rfl rfl (by kernel_rfl) (fun _ _ _ h => h) (Or.inr ⟨by rfl, rfl⟩) ?_ ?_
  rotate_left
  · simp only [Act.put, List.setIfInBounds_toArray, List.set_cons_zero, List.set_cons_succ, i64_w, i32_w]
    rfl
  refine pure_ (i := 13) (N := some 51) (v := ?_) (a' := ?_) #[true, true, true, true, true, true, true, true, true, true, true, true, true, true, false] rfl rfl (by kernel_rfl) (fun _ _ _ h => h) (Or.inl ⟨by rfl, ?_⟩) ?_ ?_
  rotate_left
  · intro w'
    go_simp
    with_reducible rfl
  rotate_left
  · simp only [Act.put, List.setIfInBounds_toArray, List.set_cons_zero, List.set_cons_succ, i64_w, i32_w]
    rfl
  refine pure_ (i := 14) (N := some 6) (v := ?_) (a' := ?_) #[true, true, true, true, true, true, true, true, true, true, true, true, true, true, true] rfl rfl (by kernel_rfl) (fun _ _ _ h => h) (Or.inl ⟨by rfl, ?_⟩) ?_ ?_
  rotate_left
  · intro w'
    go_simp
    with_reducible rfl
  rotate_left
  · simp only [Act.put, List.setIfInBounds_toArray, List.set_cons_zero, List.set_cons_succ, i64_w, i32_w]
    rfl
  refine done_ (by kernel_rfl) ?_
  have n_x : Hid (Var z1 okh_2 okm_3 w_2.heap.size #[.int .i64 x0, .int .i64 x1] 23) := Lib.hid (V_x.out.below Q_z1.out)
  have n_y : Hid (Var z1 okh_2 okm_3 w_3.heap.size #[.int .i64 x0, .int .i64 y1] 27) := Lib.hid (V_y.out.below Q_z1.out)
  clear V_x lt_x c_x_0 f_x_0 c_x_1 f_x_1 V_y lt_y c_y_0 f_y_0 c_y_1 f_y_1
  have V_x := n_x
  clear n_x
  have lt_x : w_2.heap.size < z1.heap.size := blk_lt V_x.out.blk
  have c_x_0 : z1.cell? ⟨w_2.heap.size, 0, none⟩ = some (.int .i64 x0) := (blk_cell V_x.out.blk 0).trans rfl
  have f_x_0 : z1.frozen? ⟨w_2.heap.size, 0, none⟩ = false := blk_frozen V_x.out.blk 0
  have c_x_1 : z1.cell? ⟨w_2.heap.size, 1, none⟩ = some (.int .i64 x1) := (blk_cell V_x.out.blk 1).trans rfl
  have f_x_1 : z1.frozen? ⟨w_2.heap.size, 1, none⟩ = false := blk_frozen V_x.out.blk 1
  have V_y := n_y
  clear n_y
  have lt_y : w_3.heap.size < z1.heap.size := blk_lt V_y.out.blk
  have c_y_0 : z1.cell? ⟨w_3.heap.size, 0, none⟩ = some (.int .i64 x0) := (blk_cell V_y.out.blk 0).trans rfl
  have f_y_0 : z1.frozen? ⟨w_3.heap.size, 0, none⟩ = false := blk_frozen V_y.out.blk 0
  have c_y_1 : z1.cell? ⟨w_3.heap.size, 1, none⟩ = some (.int .i64 y1) := (blk_cell V_y.out.blk 1).trans rfl
  have f_y_1 : z1.frozen? ⟨w_3.heap.size, 1, none⟩ = false := blk_frozen V_y.out.blk 1
  have nR := Lib.hid (R.out.below Q_z1.out)
  clear R
  have R := nR
  clear nR
  go_wp2_with fail
  go_ret
  exact ⟨rfl, R.out.after⟩
end Go.Proofs.Ytkhlfdcjgooogaa.P
