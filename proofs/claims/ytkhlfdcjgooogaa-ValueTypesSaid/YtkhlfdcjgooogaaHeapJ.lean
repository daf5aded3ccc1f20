import Derived.Test.YtkhlfdcjgooogaaPf34
import Derived.Test.YtkhlfdcjgooogaaPf13
import Derived.Test.YtkhlfdcjgooogaaVaC
import Derived.Test.YtkhlfdcjgooogaaPf16
set_option linter.unusedVariables false
set_option linter.unusedSimpArgs false
namespace Go.Proofs.Ytkhlfdcjgooogaa.P
open Go.RowKit Go.Proofs.YtkhlfdcjgooogaaW.PrintWords Go.Proofs.YtkhlfdcjgooogaaW.PrintLast Go.Proofs.YtkhlfdcjgooogaaW.PrintMore
theorem blk_new1 (X : World) (o o' : Obj) : ((X.alloc o).alloc o').heap[X.heap.size + 1]? = some o' := by
 have h := heap_alloc_new (X.alloc o) o'
 have e : (X.alloc o).heap.size = X.heap.size + 1 := by simp
 rwa [e] at h
theorem blk_new2 (X : World) (o o' o2 : Obj) : (((X.alloc o).alloc o').alloc o2).heap[X.heap.size + 1 + 1]? = some o2 := by
 have h := heap_alloc_new ((X.alloc o).alloc o') o2
 have e : ((X.alloc o).alloc o').heap.size = X.heap.size + 1 + 1 := by simp
 rwa [e] at h
theorem sh1 : value_Binary.f 9 ⟨#[47]⟩ 1 7 1 (-2) = some (1, -3, 0, true) := by kernel_rfl
theorem sh2 : value_Binary.f 9 ⟨#[37]⟩ 1 7 1 (-2) = some (1, 1, 0, true) := by kernel_rfl
theorem sh3 : value_Binary.f 9 ⟨#[47]⟩ 1 1 1 0 = some (0, 0, 1, true) := by kernel_rfl
theorem sh4 : value_Binary.f 9 ⟨#[38, 38]⟩ 1 1 1 0 = some (0, 0, 0, false) := by kernel_rfl
def runnellaw9_shown.f : Option Bool := some true
theorem HA.empty {W : World} {B : Nat} (h : W.heap[B]? = some (.cells #[.slice none 0 0, .int .i64 0] 47 (0, 0))) : HA W B (fun k => k = B) [] :=
 ⟨rfl, .slice none 0 0, [], h, ⟨by simp [rows], .inl ⟨rfl, rfl⟩⟩, fun k hk => by simp [Value.ownBlock] at hk, rfl, by simp, fun j hj => by simp at hj⟩
theorem sh_new {B : Nat} {ok : Nat → Prop} {w : World} (h : HA w B ok []) : Calls Try.prog 20 #[.pointer (some ⟨B, 0, none⟩), .int .i64 2] w fun e w' => e = .returned (.tuple #[.agg #[.int .i64 3, .int .i64 1], .int .i64 0, .bool true]) ∧ HA w' B (ext ok w w') [[0, 0]] ∧ Chg ok w w' := hnew 2 h (by decide)
theorem sh_set {B : Nat} {ok : Nat → Prop} {w : World} (h : HA w B ok [[0, 0]]) : Calls Try.prog 24 #[.pointer (some ⟨B, 0, none⟩), .agg #[.int .i64 3, .int .i64 1], .agg #[.int .i64 1, .int .i64 1], .agg #[.int .i64 1, .int .i64 9]] w fun e w' => e = .returned (.int .i64 0) ∧ HA w' B ok [[0, 9]] ∧ Chg ok w w' := hset 3 1 1 1 1 9 h (by decide)
theorem sh_get1 {B : Nat} {ok : Nat → Prop} {w : World} (h : HA w B ok [[0, 9]]) : Calls Try.prog 21 #[.pointer (some ⟨B, 0, none⟩), .agg #[.int .i64 3, .int .i64 1], .agg #[.int .i64 1, .int .i64 1]] w fun e w' => e = .returned (.tuple #[.agg #[.int .i64 1, .int .i64 9], .int .i64 0]) ∧ Below w.heap.size w w' := hget 3 1 1 1 h (by decide)
theorem sh_get2 {B : Nat} {ok : Nat → Prop} {w : World} (h : HA w B ok [[0, 9]]) : Calls Try.prog 21 #[.pointer (some ⟨B, 0, none⟩), .agg #[.int .i64 3, .int .i64 1], .agg #[.int .i64 1, .int .i64 2]] w fun e w' => e = .returned (.tuple #[.agg #[.int .i64 0, .int .i64 0], .int .i64 2]) ∧ Below w.heap.size w w' := hget 3 1 1 2 h (by decide)
theorem sh_get3 {B : Nat} {ok : Nat → Prop} {w : World} (h : HA w B ok [[0, 9]]) : Calls Try.prog 21 #[.pointer (some ⟨B, 0, none⟩), .agg #[.int .i64 3, .int .i64 0], .agg #[.int .i64 1, .int .i64 0]] w fun e w' => e = .returned (.tuple #[.agg #[.int .i64 0, .int .i64 0], .int .i64 3]) ∧ Below w.heap.size w w' := hget 3 0 1 0 h (by decide)
theorem ext_not {ok : Nat → Prop} {w w' : World} {g : Nat} (h : ¬ ok g) (hg : g < w.heap.size) : ¬ ext ok w w' g := by
 rintro (h1 | h1)
 ·exact h h1
 ·omega
set_option maxRecDepth 100000 in
set_option maxHeartbeats 4000000 in
theorem runnellaw9_shown.calls (r : Bool) (w : World) (h : runnellaw9_shown.f = some r) : Calls Try.prog 9 #[] w fun e w' => e = .returned (.bool r) ∧ Below w.heap.size w w' := by
 obtain rfl := Option.some.inj h
 clear h
 have HB := Lib.hid (Below.refl w.heap.size w)
 go_enter Try.func9, Try.ntmps9
 go_wp2_with fail
 refine (runnellaw9_num.calls (7) 1 (7) _ rfl).mono ?_
 rintro e w1 ⟨rfl, hb_⟩
 have nB := Lib.hid (below_step (by (with_reducible repeat (first | apply below_alloc | apply pw_below_drewN | apply below_drew1)); exact HB.out) hb_)
 clear HB hb_
 have HB := nB
 clear nB
 go_wp2_with fail
 refine (runnellaw9_num.calls (-2) 1 (-2) _ rfl).mono ?_
 rintro e w2 ⟨rfl, hb_⟩
 have nB := Lib.hid (below_step (by (with_reducible repeat (first | apply below_alloc | apply pw_below_drewN | apply below_drew1)); exact HB.out) hb_)
 clear HB hb_
 have HB := nB
 clear nB
 go_wp2_with fail
 refine (value_Binary.calls 9 ⟨#[47]⟩ 1 7 1 (-2) 1 (-3) 0 true _ sh1).mono ?_
 rintro e w3 ⟨rfl, hb_⟩
 have nB := Lib.hid (below_step (by (with_reducible repeat (first | apply below_alloc | apply pw_below_drewN | apply below_drew1)); exact HB.out) hb_)
 clear HB hb_
 have HB := nB
 clear nB
 go_wp2_with fail
 refine (runnellaw9_num.calls (7) 1 (7) _ rfl).mono ?_
 rintro e w4 ⟨rfl, hb_⟩
 have n_a : Hid (w4.heap[w3.heap.size]? = some (.cells #[.int .i64 1, .int .i64 (-3)] 23 (0, 0))) := Lib.hid (blk_below (by first | exact heap_alloc_new _ _ | exact blk_new1 _ _ _ | exact blk_new2 _ _ _ _ | (refine blk_alloc ?_ _; exact heap_alloc_new _ _) | (refine blk_alloc ?_ _; refine blk_alloc ?_ _; exact heap_alloc_new _ _) | (refine blk_alloc ?_ _; exact blk_new1 _ _ _)) hb_)
 have K_a := n_a
 clear n_a
 have lt_a : w3.heap.size < w4.heap.size := blk_lt K_a.out
 have c_a_0 : w4.cell? ⟨w3.heap.size, 0, none⟩ = some (.int .i64 1) := (blk_cell K_a.out 0).trans rfl
 have f_a_0 : w4.frozen? ⟨w3.heap.size, 0, none⟩ = false := blk_frozen K_a.out 0
 have c_a_1 : w4.cell? ⟨w3.heap.size, 1, none⟩ = some (.int .i64 (-3)) := (blk_cell K_a.out 1).trans rfl
 have f_a_1 : w4.frozen? ⟨w3.heap.size, 1, none⟩ = false := blk_frozen K_a.out 1
 have nB := Lib.hid (below_step (by (with_reducible repeat (first | apply below_alloc | apply pw_below_drewN | apply below_drew1)); exact HB.out) hb_)
 clear HB hb_
 have HB := nB
 clear nB
 go_wp2_with fail
 refine (runnellaw9_num.calls (-2) 1 (-2) _ rfl).mono ?_
 rintro e w5 ⟨rfl, hb_⟩
 have n_a : Hid (w5.heap[w3.heap.size]? = some (.cells #[.int .i64 1, .int .i64 (-3)] 23 (0, 0))) := Lib.hid (blk_below (by (with_reducible repeat (first | refine blk_drewN ?_ _ | refine blk_drew ?_ | refine blk_alloc ?_ _)); exact K_a.out) hb_)
 clear K_a lt_a c_a_0 c_a_1 f_a_0 f_a_1
 have K_a := n_a
 clear n_a
 have lt_a : w3.heap.size < w5.heap.size := blk_lt K_a.out
 have c_a_0 : w5.cell? ⟨w3.heap.size, 0, none⟩ = some (.int .i64 1) := (blk_cell K_a.out 0).trans rfl
 have f_a_0 : w5.frozen? ⟨w3.heap.size, 0, none⟩ = false := blk_frozen K_a.out 0
 have c_a_1 : w5.cell? ⟨w3.heap.size, 1, none⟩ = some (.int .i64 (-3)) := (blk_cell K_a.out 1).trans rfl
 have f_a_1 : w5.frozen? ⟨w3.heap.size, 1, none⟩ = false := blk_frozen K_a.out 1
 have nB := Lib.hid (below_step (by (with_reducible repeat (first | apply below_alloc | apply pw_below_drewN | apply below_drew1)); exact HB.out) hb_)
 clear HB hb_
 have HB := nB
 clear nB
 go_wp2_with fail
 refine (value_Binary.calls 9 ⟨#[37]⟩ 1 7 1 (-2) 1 1 0 true _ sh2).mono ?_
 rintro e w6 ⟨rfl, hb_⟩
 have n_a : Hid (w6.heap[w3.heap.size]? = some (.cells #[.int .i64 1, .int .i64 (-3)] 23 (0, 0))) := Lib.hid (blk_below (by (with_reducible repeat (first | refine blk_drewN ?_ _ | refine blk_drew ?_ | refine blk_alloc ?_ _)); exact K_a.out) hb_)
 clear K_a lt_a c_a_0 c_a_1 f_a_0 f_a_1
 have K_a := n_a
 clear n_a
 have lt_a : w3.heap.size < w6.heap.size := blk_lt K_a.out
 have c_a_0 : w6.cell? ⟨w3.heap.size, 0, none⟩ = some (.int .i64 1) := (blk_cell K_a.out 0).trans rfl
 have f_a_0 : w6.frozen? ⟨w3.heap.size, 0, none⟩ = false := blk_frozen K_a.out 0
 have c_a_1 : w6.cell? ⟨w3.heap.size, 1, none⟩ = some (.int .i64 (-3)) := (blk_cell K_a.out 1).trans rfl
 have f_a_1 : w6.frozen? ⟨w3.heap.size, 1, none⟩ = false := blk_frozen K_a.out 1
 have nB := Lib.hid (below_step (by (with_reducible repeat (first | apply below_alloc | apply pw_below_drewN | apply below_drew1)); exact HB.out) hb_)
 clear HB hb_
 have HB := nB
 clear nB
 go_wp2_with fail
 refine (runnellaw9_num.calls (1) 1 (1) _ rfl).mono ?_
 rintro e w7 ⟨rfl, hb_⟩
 have n_a : Hid (w7.heap[w3.heap.size]? = some (.cells #[.int .i64 1, .int .i64 (-3)] 23 (0, 0))) := Lib.hid (blk_below (by (with_reducible repeat (first | refine blk_drewN ?_ _ | refine blk_drew ?_ | refine blk_alloc ?_ _)); exact K_a.out) hb_)
 have n_b : Hid (w7.heap[w6.heap.size]? = some (.cells #[.int .i64 1, .int .i64 1] 23 (0, 0))) := Lib.hid (blk_below (by first | exact heap_alloc_new _ _ | exact blk_new1 _ _ _ | exact blk_new2 _ _ _ _ | (refine blk_alloc ?_ _; exact heap_alloc_new _ _) | (refine blk_alloc ?_ _; refine blk_alloc ?_ _; exact heap_alloc_new _ _) | (refine blk_alloc ?_ _; exact blk_new1 _ _ _)) hb_)
 clear K_a lt_a c_a_0 c_a_1 f_a_0 f_a_1
 have K_a := n_a
 clear n_a
 have lt_a : w3.heap.size < w7.heap.size := blk_lt K_a.out
 have c_a_0 : w7.cell? ⟨w3.heap.size, 0, none⟩ = some (.int .i64 1) := (blk_cell K_a.out 0).trans rfl
 have f_a_0 : w7.frozen? ⟨w3.heap.size, 0, none⟩ = false := blk_frozen K_a.out 0
 have c_a_1 : w7.cell? ⟨w3.heap.size, 1, none⟩ = some (.int .i64 (-3)) := (blk_cell K_a.out 1).trans rfl
 have f_a_1 : w7.frozen? ⟨w3.heap.size, 1, none⟩ = false := blk_frozen K_a.out 1
 have K_b := n_b
 clear n_b
 have lt_b : w6.heap.size < w7.heap.size := blk_lt K_b.out
 have c_b_0 : w7.cell? ⟨w6.heap.size, 0, none⟩ = some (.int .i64 1) := (blk_cell K_b.out 0).trans rfl
 have f_b_0 : w7.frozen? ⟨w6.heap.size, 0, none⟩ = false := blk_frozen K_b.out 0
 have c_b_1 : w7.cell? ⟨w6.heap.size, 1, none⟩ = some (.int .i64 1) := (blk_cell K_b.out 1).trans rfl
 have f_b_1 : w7.frozen? ⟨w6.heap.size, 1, none⟩ = false := blk_frozen K_b.out 1
 have nB := Lib.hid (below_step (by (with_reducible repeat (first | apply below_alloc | apply pw_below_drewN | apply below_drew1)); exact HB.out) hb_)
 clear HB hb_
 have HB := nB
 clear nB
 go_wp2_with fail
 refine (runnellaw9_num.calls (0) 1 (0) _ rfl).mono ?_
 rintro e w8 ⟨rfl, hb_⟩
 have n_a : Hid (w8.heap[w3.heap.size]? = some (.cells #[.int .i64 1, .int .i64 (-3)] 23 (0, 0))) := Lib.hid (blk_below (by (with_reducible repeat (first | refine blk_drewN ?_ _ | refine blk_drew ?_ | refine blk_alloc ?_ _)); exact K_a.out) hb_)
 have n_b : Hid (w8.heap[w6.heap.size]? = some (.cells #[.int .i64 1, .int .i64 1] 23 (0, 0))) := Lib.hid (blk_below (by (with_reducible repeat (first | refine blk_drewN ?_ _ | refine blk_drew ?_ | refine blk_alloc ?_ _)); exact K_b.out) hb_)
 clear K_a lt_a c_a_0 c_a_1 f_a_0 f_a_1 K_b lt_b c_b_0 c_b_1 f_b_0 f_b_1
 have K_a := n_a
 clear n_a
 have lt_a : w3.heap.size < w8.heap.size := blk_lt K_a.out
 have c_a_0 : w8.cell? ⟨w3.heap.size, 0, none⟩ = some (.int .i64 1) := (blk_cell K_a.out 0).trans rfl
 have f_a_0 : w8.frozen? ⟨w3.heap.size, 0, none⟩ = false := blk_frozen K_a.out 0
 have c_a_1 : w8.cell? ⟨w3.heap.size, 1, none⟩ = some (.int .i64 (-3)) := (blk_cell K_a.out 1).trans rfl
 have f_a_1 : w8.frozen? ⟨w3.heap.size, 1, none⟩ = false := blk_frozen K_a.out 1
 have K_b := n_b
 clear n_b
 have lt_b : w6.heap.size < w8.heap.size := blk_lt K_b.out
 have c_b_0 : w8.cell? ⟨w6.heap.size, 0, none⟩ = some (.int .i64 1) := (blk_cell K_b.out 0).trans rfl
 have f_b_0 : w8.frozen? ⟨w6.heap.size, 0, none⟩ = false := blk_frozen K_b.out 0
 have c_b_1 : w8.cell? ⟨w6.heap.size, 1, none⟩ = some (.int .i64 1) := (blk_cell K_b.out 1).trans rfl
 have f_b_1 : w8.frozen? ⟨w6.heap.size, 1, none⟩ = false := blk_frozen K_b.out 1
 have nB := Lib.hid (below_step (by (with_reducible repeat (first | apply below_alloc | apply pw_below_drewN | apply below_drew1)); exact HB.out) hb_)
 clear HB hb_
 have HB := nB
 clear nB
 go_wp2_with fail
 refine (value_Binary.calls 9 ⟨#[47]⟩ 1 1 1 0 0 0 1 true _ sh3).mono ?_
 rintro e w9 ⟨rfl, hb_⟩
 have n_a : Hid (w9.heap[w3.heap.size]? = some (.cells #[.int .i64 1, .int .i64 (-3)] 23 (0, 0))) := Lib.hid (blk_below (by (with_reducible repeat (first | refine blk_drewN ?_ _ | refine blk_drew ?_ | refine blk_alloc ?_ _)); exact K_a.out) hb_)
 have n_b : Hid (w9.heap[w6.heap.size]? = some (.cells #[.int .i64 1, .int .i64 1] 23 (0, 0))) := Lib.hid (blk_below (by (with_reducible repeat (first | refine blk_drewN ?_ _ | refine blk_drew ?_ | refine blk_alloc ?_ _)); exact K_b.out) hb_)
 clear K_a lt_a c_a_0 c_a_1 f_a_0 f_a_1 K_b lt_b c_b_0 c_b_1 f_b_0 f_b_1
 have K_a := n_a
 clear n_a
 have lt_a : w3.heap.size < w9.heap.size := blk_lt K_a.out
 have c_a_0 : w9.cell? ⟨w3.heap.size, 0, none⟩ = some (.int .i64 1) := (blk_cell K_a.out 0).trans rfl
 have f_a_0 : w9.frozen? ⟨w3.heap.size, 0, none⟩ = false := blk_frozen K_a.out 0
 have c_a_1 : w9.cell? ⟨w3.heap.size, 1, none⟩ = some (.int .i64 (-3)) := (blk_cell K_a.out 1).trans rfl
 have f_a_1 : w9.frozen? ⟨w3.heap.size, 1, none⟩ = false := blk_frozen K_a.out 1
 have K_b := n_b
 clear n_b
 have lt_b : w6.heap.size < w9.heap.size := blk_lt K_b.out
 have c_b_0 : w9.cell? ⟨w6.heap.size, 0, none⟩ = some (.int .i64 1) := (blk_cell K_b.out 0).trans rfl
 have f_b_0 : w9.frozen? ⟨w6.heap.size, 0, none⟩ = false := blk_frozen K_b.out 0
 have c_b_1 : w9.cell? ⟨w6.heap.size, 1, none⟩ = some (.int .i64 1) := (blk_cell K_b.out 1).trans rfl
 have f_b_1 : w9.frozen? ⟨w6.heap.size, 1, none⟩ = false := blk_frozen K_b.out 1
 have nB := Lib.hid (below_step (by (with_reducible repeat (first | apply below_alloc | apply pw_below_drewN | apply below_drew1)); exact HB.out) hb_)
 clear HB hb_
 have HB := nB
 clear nB
 go_wp2_with fail
 refine (runnellaw9_num.calls (1) 1 (1) _ rfl).mono ?_
 rintro e w10 ⟨rfl, hb_⟩
 have n_a : Hid (w10.heap[w3.heap.size]? = some (.cells #[.int .i64 1, .int .i64 (-3)] 23 (0, 0))) := Lib.hid (blk_below (by (with_reducible repeat (first | refine blk_drewN ?_ _ | refine blk_drew ?_ | refine blk_alloc ?_ _)); exact K_a.out) hb_)
 have n_b : Hid (w10.heap[w6.heap.size]? = some (.cells #[.int .i64 1, .int .i64 1] 23 (0, 0))) := Lib.hid (blk_below (by (with_reducible repeat (first | refine blk_drewN ?_ _ | refine blk_drew ?_ | refine blk_alloc ?_ _)); exact K_b.out) hb_)
 clear K_a lt_a c_a_0 c_a_1 f_a_0 f_a_1 K_b lt_b c_b_0 c_b_1 f_b_0 f_b_1
 have K_a := n_a
 clear n_a
 have lt_a : w3.heap.size < w10.heap.size := blk_lt K_a.out
 have c_a_0 : w10.cell? ⟨w3.heap.size, 0, none⟩ = some (.int .i64 1) := (blk_cell K_a.out 0).trans rfl
 have f_a_0 : w10.frozen? ⟨w3.heap.size, 0, none⟩ = false := blk_frozen K_a.out 0
 have c_a_1 : w10.cell? ⟨w3.heap.size, 1, none⟩ = some (.int .i64 (-3)) := (blk_cell K_a.out 1).trans rfl
 have f_a_1 : w10.frozen? ⟨w3.heap.size, 1, none⟩ = false := blk_frozen K_a.out 1
 have K_b := n_b
 clear n_b
 have lt_b : w6.heap.size < w10.heap.size := blk_lt K_b.out
 have c_b_0 : w10.cell? ⟨w6.heap.size, 0, none⟩ = some (.int .i64 1) := (blk_cell K_b.out 0).trans rfl
 have f_b_0 : w10.frozen? ⟨w6.heap.size, 0, none⟩ = false := blk_frozen K_b.out 0
 have c_b_1 : w10.cell? ⟨w6.heap.size, 1, none⟩ = some (.int .i64 1) := (blk_cell K_b.out 1).trans rfl
 have f_b_1 : w10.frozen? ⟨w6.heap.size, 1, none⟩ = false := blk_frozen K_b.out 1
 have nB := Lib.hid (below_step (by (with_reducible repeat (first | apply below_alloc | apply pw_below_drewN | apply below_drew1)); exact HB.out) hb_)
 clear HB hb_
 have HB := nB
 clear nB
 go_wp2_with fail
 refine (runnellaw9_num.calls (0) 1 (0) _ rfl).mono ?_
 rintro e w11 ⟨rfl, hb_⟩
 have n_a : Hid (w11.heap[w3.heap.size]? = some (.cells #[.int .i64 1, .int .i64 (-3)] 23 (0, 0))) := Lib.hid (blk_below (by (with_reducible repeat (first | refine blk_drewN ?_ _ | refine blk_drew ?_ | refine blk_alloc ?_ _)); exact K_a.out) hb_)
 have n_b : Hid (w11.heap[w6.heap.size]? = some (.cells #[.int .i64 1, .int .i64 1] 23 (0, 0))) := Lib.hid (blk_below (by (with_reducible repeat (first | refine blk_drewN ?_ _ | refine blk_drew ?_ | refine blk_alloc ?_ _)); exact K_b.out) hb_)
 clear K_a lt_a c_a_0 c_a_1 f_a_0 f_a_1 K_b lt_b c_b_0 c_b_1 f_b_0 f_b_1
 have K_a := n_a
 clear n_a
 have lt_a : w3.heap.size < w11.heap.size := blk_lt K_a.out
 have c_a_0 : w11.cell? ⟨w3.heap.size, 0, none⟩ = some (.int .i64 1) := (blk_cell K_a.out 0).trans rfl
 have f_a_0 : w11.frozen? ⟨w3.heap.size, 0, none⟩ = false := blk_frozen K_a.out 0
 have c_a_1 : w11.cell? ⟨w3.heap.size, 1, none⟩ = some (.int .i64 (-3)) := (blk_cell K_a.out 1).trans rfl
 have f_a_1 : w11.frozen? ⟨w3.heap.size, 1, none⟩ = false := blk_frozen K_a.out 1
 have K_b := n_b
 clear n_b
 have lt_b : w6.heap.size < w11.heap.size := blk_lt K_b.out
 have c_b_0 : w11.cell? ⟨w6.heap.size, 0, none⟩ = some (.int .i64 1) := (blk_cell K_b.out 0).trans rfl
 have f_b_0 : w11.frozen? ⟨w6.heap.size, 0, none⟩ = false := blk_frozen K_b.out 0
 have c_b_1 : w11.cell? ⟨w6.heap.size, 1, none⟩ = some (.int .i64 1) := (blk_cell K_b.out 1).trans rfl
 have f_b_1 : w11.frozen? ⟨w6.heap.size, 1, none⟩ = false := blk_frozen K_b.out 1
 have nB := Lib.hid (below_step (by (with_reducible repeat (first | apply below_alloc | apply pw_below_drewN | apply below_drew1)); exact HB.out) hb_)
 clear HB hb_
 have HB := nB
 clear nB
 go_wp2_with fail
 refine (value_Binary.calls 9 ⟨#[38, 38]⟩ 1 1 1 0 0 0 0 false _ sh4).mono ?_
 rintro e w12 ⟨rfl, hb_⟩
 have n_a : Hid (w12.heap[w3.heap.size]? = some (.cells #[.int .i64 1, .int .i64 (-3)] 23 (0, 0))) := Lib.hid (blk_below (by (with_reducible repeat (first | refine blk_drewN ?_ _ | refine blk_drew ?_ | refine blk_alloc ?_ _)); exact K_a.out) hb_)
 have n_b : Hid (w12.heap[w6.heap.size]? = some (.cells #[.int .i64 1, .int .i64 1] 23 (0, 0))) := Lib.hid (blk_below (by (with_reducible repeat (first | refine blk_drewN ?_ _ | refine blk_drew ?_ | refine blk_alloc ?_ _)); exact K_b.out) hb_)
 clear K_a lt_a c_a_0 c_a_1 f_a_0 f_a_1 K_b lt_b c_b_0 c_b_1 f_b_0 f_b_1
 have K_a := n_a
 clear n_a
 have lt_a : w3.heap.size < w12.heap.size := blk_lt K_a.out
 have c_a_0 : w12.cell? ⟨w3.heap.size, 0, none⟩ = some (.int .i64 1) := (blk_cell K_a.out 0).trans rfl
 have f_a_0 : w12.frozen? ⟨w3.heap.size, 0, none⟩ = false := blk_frozen K_a.out 0
 have c_a_1 : w12.cell? ⟨w3.heap.size, 1, none⟩ = some (.int .i64 (-3)) := (blk_cell K_a.out 1).trans rfl
 have f_a_1 : w12.frozen? ⟨w3.heap.size, 1, none⟩ = false := blk_frozen K_a.out 1
 have K_b := n_b
 clear n_b
 have lt_b : w6.heap.size < w12.heap.size := blk_lt K_b.out
 have c_b_0 : w12.cell? ⟨w6.heap.size, 0, none⟩ = some (.int .i64 1) := (blk_cell K_b.out 0).trans rfl
 have f_b_0 : w12.frozen? ⟨w6.heap.size, 0, none⟩ = false := blk_frozen K_b.out 0
 have c_b_1 : w12.cell? ⟨w6.heap.size, 1, none⟩ = some (.int .i64 1) := (blk_cell K_b.out 1).trans rfl
 have f_b_1 : w12.frozen? ⟨w6.heap.size, 1, none⟩ = false := blk_frozen K_b.out 1
 have nB := Lib.hid (below_step (by (with_reducible repeat (first | apply below_alloc | apply pw_below_drewN | apply below_drew1)); exact HB.out) hb_)
 clear HB hb_
 have HB := nB
 clear nB
 go_wp2_with fail
 have hW : Hid (w12.heap.size + 1 + 1 = ((w12.alloc (.cells #[.int .i64 0, .int .i64 0] 23)).alloc (.cells #[.slice none 0 0, .int .i64 0] 47)).heap.size) := Lib.hid (by simp)
 have hle : w.heap.size ≤ w12.heap.size := HB.out.size
 refine (sh_new (HA.empty (B := w12.heap.size + 1) (blk_new1 _ _ _))).mono ?_
 rintro e w13 ⟨rfl, hH_, hC_⟩
 obtain ⟨ok, hok⟩ : ∃ ok, ok = ext (fun k => k = w12.heap.size + 1) ((w12.alloc (.cells #[.int .i64 0, .int .i64 0] 23)).alloc (.cells #[.slice none 0 0, .int .i64 0] 47)) w13 := ⟨_, rfl⟩
 have N_a : Hid (¬ ok w3.heap.size) := Lib.hid (by rw [hok]; exact ext_not (by omega) (by rw [← hW.out]; omega))
 have N_b : Hid (¬ ok w6.heap.size) := Lib.hid (by rw [hok]; exact ext_not (by omega) (by rw [← hW.out]; omega))
 have n_a : Hid (w13.heap[w3.heap.size]? = some (.cells #[.int .i64 1, .int .i64 (-3)] 23 (0, 0))) := Lib.hid ((hC_.block _ (by rw [← hW.out]; omega) (by omega)).trans (by (with_reducible repeat (first | refine blk_drewN ?_ _ | refine blk_drew ?_ | refine blk_alloc ?_ _)); exact K_a.out))
 have n_b : Hid (w13.heap[w6.heap.size]? = some (.cells #[.int .i64 1, .int .i64 1] 23 (0, 0))) := Lib.hid ((hC_.block _ (by rw [← hW.out]; omega) (by omega)).trans (by (with_reducible repeat (first | refine blk_drewN ?_ _ | refine blk_drew ?_ | refine blk_alloc ?_ _)); exact K_b.out))
 clear K_a lt_a c_a_0 c_a_1 f_a_0 f_a_1 K_b lt_b c_b_0 c_b_1 f_b_0 f_b_1
 have K_a := n_a
 clear n_a
 have lt_a : w3.heap.size < w13.heap.size := blk_lt K_a.out
 have c_a_0 : w13.cell? ⟨w3.heap.size, 0, none⟩ = some (.int .i64 1) := (blk_cell K_a.out 0).trans rfl
 have f_a_0 : w13.frozen? ⟨w3.heap.size, 0, none⟩ = false := blk_frozen K_a.out 0
 have c_a_1 : w13.cell? ⟨w3.heap.size, 1, none⟩ = some (.int .i64 (-3)) := (blk_cell K_a.out 1).trans rfl
 have f_a_1 : w13.frozen? ⟨w3.heap.size, 1, none⟩ = false := blk_frozen K_a.out 1
 have K_b := n_b
 clear n_b
 have lt_b : w6.heap.size < w13.heap.size := blk_lt K_b.out
 have c_b_0 : w13.cell? ⟨w6.heap.size, 0, none⟩ = some (.int .i64 1) := (blk_cell K_b.out 0).trans rfl
 have f_b_0 : w13.frozen? ⟨w6.heap.size, 0, none⟩ = false := blk_frozen K_b.out 0
 have c_b_1 : w13.cell? ⟨w6.heap.size, 1, none⟩ = some (.int .i64 1) := (blk_cell K_b.out 1).trans rfl
 have f_b_1 : w13.frozen? ⟨w6.heap.size, 1, none⟩ = false := blk_frozen K_b.out 1
 rw [← hok] at hH_
 have HH := Lib.hid hH_
 have hsz13 : w12.heap.size + 1 + 1 ≤ w13.heap.size := by rw [hW.out]; exact hC_.size
 have OKB : Hid (∀ k, ok k → w.heap.size ≤ k ∧ k < w13.heap.size) := Lib.hid (by rintro k hk; rw [hok] at hk; rcases hk with hk | ⟨h1, h2⟩; constructor <;> omega; rw [← hW.out] at h1; constructor <;> omega)
 have nB := Lib.hid ((below_alloc (below_alloc HB.out _) _).trans (hC_.below (by rw [← hW.out]; omega) (fun x hx => by omega)))
 clear HB hC_ hH_ hok
 have HB := nB
 clear nB
 go_wp2_with fail
 have hW13 : Hid ((w13.alloc (.cells #[.int .i64 3, .int .i64 1] 23)).drew.heap.size = w13.heap.size + 1) := Lib.hid (by simp)
 have K_l0 : Hid ((w13.alloc (.cells #[.int .i64 3, .int .i64 1] 23)).drew.heap[w13.heap.size]? = some (.cells #[.int .i64 3, .int .i64 1] 23 (0, 0))) := Lib.hid (heap_alloc_new w13 _)
 refine start_ (n := 35) (S := fun w' => w'.cell? ⟨w3.heap.size, 0, none⟩ = some (.int .i64 1) ∧ w'.cell? ⟨w3.heap.size, 1, none⟩ = some (.int .i64 (-3)) ∧ w'.cell? ⟨w6.heap.size, 0, none⟩ = some (.int .i64 1) ∧ w'.cell? ⟨w6.heap.size, 1, none⟩ = some (.int .i64 1) ∧ w'.cell? ⟨w13.heap.size, 0, none⟩ = some (.int .i64 3) ∧ w'.cell? ⟨w13.heap.size, 1, none⟩ = some (.int .i64 1)) (ds := [32]) #[false, false, false, false, false, false, false, false, false, false, false, false, false, false, false, false, false, false, false, false, false, false, false, false, false, false, false, false, false, false, false, false, false, false, false] (by kernel_rfl) rfl rfl ⟨cell_drew (cell_old c_a_0), cell_drew (cell_old c_a_1), cell_drew (cell_old c_b_0), cell_drew (cell_old c_b_1), cell_drew (cell_new rfl rfl), cell_drew (cell_new rfl rfl)⟩ (fun hHeld => ?_)
 refine take_ (i := 0) (N := some 59) (v := ?_) (a' := ?_) #[true, false, false, false, false, false, false, false, false, false, false, false, false, false, false, false, false, false, false, false, false, false, false, false, false, false, false, false, false, false, false, false, false, false, false] rfl rfl (by kernel_rfl) (fun _ _ _ h => h) (Or.inl ⟨by rfl, ?_⟩) hHeld ?_ ?_
 rotate_left
 ·rintro w' ⟨s0, s1, s2, s3, s4, s5⟩
  go_simp
  with_reducible rfl
 rotate_left
 ·simp only [Act.put, List.setIfInBounds_toArray, List.set_cons_zero, List.set_cons_succ, i64_w, i32_w]
  rfl
 refine one_ (i := 1) (N := some 60) #[true, true, false, false, false, false, false, false, false, false, false, false, false, false, false, false, false, false, false, false, false, false, false, false, false, false, false, false, false, false, false, false, false, false, false] rfl rfl (by kernel_rfl) (by decide) (fun K hK => ?_)
 refine goes_ Try.func16 (by kernel_rfl) rfl #[.int .i64 (-3)] (by rfl) rfl rfl (by simp only [List.map_toArray, List.map_cons, List.map_nil]; rfl) ?_
 with_reducible refine (runnellaw9_num.calls (-3) 1 (-3) _ rfl).mono ?_
 rintro e w14 ⟨rfl, hb_w14⟩
 refine ⟨_, rfl, ?_⟩
 have B_w14 := Lib.hid (below_step (below_drew (below_alloc (Below.refl w13.heap.size w13) (.cells #[.int .i64 3, .int .i64 1] 23))) hb_w14)
 have Q_w14 := Lib.hid hb_w14
 clear hb_w14
 refine hK.out _ _ ⟨pw_cell_below Q_w14.out hHeld.1, pw_cell_below Q_w14.out hHeld.2.1, pw_cell_below Q_w14.out hHeld.2.2.1, pw_cell_below Q_w14.out hHeld.2.2.2.1, pw_cell_below Q_w14.out hHeld.2.2.2.2.1, pw_cell_below Q_w14.out hHeld.2.2.2.2.2⟩ (fun hHeld => ?_)
 clear hK K
 refine norm_ (a' := ?_) ?_ ?_
 rotate_left
 ·show Act.put _ (some 60) _ = _
  simp only [Act.put, List.setIfInBounds_toArray, List.set_cons_zero, List.set_cons_succ, i64_w, i32_w]
  rfl
 refine pure_ (i := 2) (N := some 61) (v := ?_) (a' := ?_) #[true, true, true, false, false, false, false, false, false, false, false, false, false, false, false, false, false, false, false, false, false, false, false, false, false, false, false, false, false, false, false, false, false, false, false] rfl rfl (by kernel_rfl) (fun _ _ _ h => h) (Or.inl ⟨by rfl, ?_⟩) ?_ ?_
 rotate_left
 ·intro w'
  go_simp
  with_reducible rfl
 rotate_left
 ·simp only [Act.put, List.setIfInBounds_toArray, List.set_cons_zero, List.set_cons_succ, i64_w, i32_w]
  rfl
 refine pure_ (i := 3) (N := some 62) (v := ?_) (a' := ?_) #[true, true, true, true, false, false, false, false, false, false, false, false, false, false, false, false, false, false, false, false, false, false, false, false, false, false, false, false, false, false, false, false, false, false, false] rfl rfl (by kernel_rfl) (fun _ _ _ h => h) (Or.inl ⟨by rfl, ?_⟩) ?_ ?_
 rotate_left
 ·intro w'
  go_simp
  with_reducible rfl
 rotate_left
 ·simp only [Act.put, List.setIfInBounds_toArray, List.set_cons_zero, List.set_cons_succ, i64_w, i32_w]
  rfl
 refine take_ (i := 4) (N := some 63) (v := ?_) (a' := ?_) #[true, true, true, true, true, false, false, false, false, false, false, false, false, false, false, false, false, false, false, false, false, false, false, false, false, false, false, false, false, false, false, false, false, false, false] rfl rfl (by kernel_rfl) (fun _ _ _ h => h) (Or.inl ⟨by rfl, ?_⟩) hHeld ?_ ?_
 rotate_left
 ·rintro w' ⟨s0, s1, s2, s3, s4, s5⟩
  go_simp
  with_reducible rfl
 rotate_left
 ·simp only [Act.put, List.setIfInBounds_toArray, List.set_cons_zero, List.set_cons_succ, i64_w, i32_w]
  rfl
 refine one_ (i := 5) (N := some 64) #[true, true, true, true, true, true, false, false, false, false, false, false, false, false, false, false, false, false, false, false, false, false, false, false, false, false, false, false, false, false, false, false, false, false, false] rfl rfl (by kernel_rfl) (by decide) (fun K hK => ?_)
 refine goes_ Try.func16 (by kernel_rfl) rfl #[.int .i64 (1)] (by rfl) rfl rfl (by simp only [List.map_toArray, List.map_cons, List.map_nil]; rfl) ?_
 with_reducible refine (runnellaw9_num.calls (1) 1 (1) _ rfl).mono ?_
 rintro e w15 ⟨rfl, hb_w15⟩
 refine ⟨_, rfl, ?_⟩
 have B_w15 := Lib.hid (below_step B_w14.out hb_w15)
 have Q_w15 := Lib.hid hb_w15
 clear hb_w15
 refine hK.out _ _ ⟨pw_cell_below Q_w15.out hHeld.1, pw_cell_below Q_w15.out hHeld.2.1, pw_cell_below Q_w15.out hHeld.2.2.1, pw_cell_below Q_w15.out hHeld.2.2.2.1, pw_cell_below Q_w15.out hHeld.2.2.2.2.1, pw_cell_below Q_w15.out hHeld.2.2.2.2.2⟩ (fun hHeld => ?_)
 clear hK K
 refine norm_ (a' := ?_) ?_ ?_
 rotate_left
 ·show Act.put _ (some 64) _ = _
  simp only [Act.put, List.setIfInBounds_toArray, List.set_cons_zero, List.set_cons_succ, i64_w, i32_w]
  rfl
 refine pure_ (i := 6) (N := some 65) (v := ?_) (a' := ?_) #[true, true, true, true, true, true, true, false, false, false, false, false, false, false, false, false, false, false, false, false, false, false, false, false, false, false, false, false, false, false, false, false, false, false, false] rfl rfl (by kernel_rfl) (fun _ _ _ h => h) (Or.inl ⟨by rfl, ?_⟩) ?_ ?_
 rotate_left
 ·intro w'
  go_simp
  with_reducible rfl
 rotate_left
 ·simp only [Act.put, List.setIfInBounds_toArray, List.set_cons_zero, List.set_cons_succ, i64_w, i32_w]
  rfl
 refine pure_ (i := 7) (N := some 66) (v := ?_) (a' := ?_) #[true, true, true, true, true, true, true, true, false, false, false, false, false, false, false, false, false, false, false, false, false, false, false, false, false, false, false, false, false, false, false, false, false, false, false] rfl rfl (by kernel_rfl) (fun _ _ _ h => h) (Or.inl ⟨by rfl, ?_⟩) ?_ ?_
 rotate_left
 ·intro w'
  go_simp
  with_reducible rfl
 rotate_left
 ·simp only [Act.put, List.setIfInBounds_toArray, List.set_cons_zero, List.set_cons_succ, i64_w, i32_w]
  rfl
 refine pure_ (i := 8) (N := some 67) (v := ?_) (a' := ?_) #[true, true, true, true, true, true, true, true, true, false, false, false, false, false, false, false, false, false, false, false, false, false, false, false, false, false, false, false, false, false, false, false, false, false, false] rfl rfl (by kernel_rfl) (fun _ _ _ h => h) (Or.inl ⟨by rfl, ?_⟩) ?_ ?_
 rotate_left
 ·intro w'
  go_simp
  with_reducible rfl
 rotate_left
 ·simp only [Act.put, List.setIfInBounds_toArray, List.set_cons_zero, List.set_cons_succ, i64_w, i32_w]
  rfl
 refine pure_ (i := 9) (N := some 68) (v := ?_) (a' := ?_) #[true, true, true, true, true, true, true, true, true, true, false, false, false, false, false, false, false, false, false, false, false, false, false, false, false, false, false, false, false, false, false, false, false, false, false] rfl rfl (by kernel_rfl) (fun _ _ _ h => h) (Or.inl ⟨by rfl, ?_⟩) ?_ ?_
 rotate_left
 ·intro w'
  go_simp
  with_reducible rfl
 rotate_left
 ·simp only [Act.put, List.setIfInBounds_toArray, List.set_cons_zero, List.set_cons_succ, i64_w, i32_w]
  rfl
 refine pure_ (i := 10) (N := some 69) (v := ?_) (a' := ?_) #[true, true, true, true, true, true, true, true, true, true, true, false, false, false, false, false, false, false, false, false, false, false, false, false, false, false, false, false, false, false, false, false, false, false, false] rfl rfl (by kernel_rfl) (fun _ _ _ h => h) (Or.inl ⟨by rfl, ?_⟩) ?_ ?_
 rotate_left
 ·intro w'
  go_simp
  with_reducible rfl
 rotate_left
 ·simp only [Act.put, List.setIfInBounds_toArray, List.set_cons_zero, List.set_cons_succ, i64_w, i32_w]
  rfl
 refine pure_ (i := 11) (N := some 70) (v := ?_) (a' := ?_) #[true, true, true, true, true, true, true, true, true, true, true, true, false, false, false, false, false, false, false, false, false, false, false, false, false, false, false, false, false, false, false, false, false, false, false] rfl rfl (by kernel_rfl) (fun _ _ _ h => h) (Or.inl ⟨by rfl, ?_⟩) ?_ ?_
 rotate_left
 ·intro w'
  go_simp
  with_reducible rfl
 rotate_left
 ·simp only [Act.put, List.setIfInBounds_toArray, List.set_cons_zero, List.set_cons_succ, i64_w, i32_w]
  rfl
 refine pure_ (i := 12) (N := some 71) (v := ?_) (a' := ?_) #[true, true, true, true, true, true, true, true, true, true, true, true, true, false, false, false, false, false, false, false, false, false, false, false, false, false, false, false, false, false, false, false, false, false, false] rfl rfl (by kernel_rfl) (fun _ _ _ h => h) (Or.inl ⟨by rfl, ?_⟩) ?_ ?_
 rotate_left
 ·intro w'
  go_simp
  with_reducible rfl
 rotate_left
 ·simp only [Act.put, List.setIfInBounds_toArray, List.set_cons_zero, List.set_cons_succ, i64_w, i32_w]
  rfl
 refine pure_ (i := 13) (N := some 72) (v := ?_) (a' := ?_) #[true, true, true, true, true, true, true, true, true, true, true, true, true, true, false, false, false, false, false, false, false, false, false, false, false, false, false, false, false, false, false, false, false, false, false] rfl rfl (by kernel_rfl) (fun _ _ _ h => h) (Or.inl ⟨by rfl, ?_⟩) ?_ ?_
 rotate_left
 ·intro w'
  go_simp
  with_reducible rfl
 rotate_left
 ·simp only [Act.put, List.setIfInBounds_toArray, List.set_cons_zero, List.set_cons_succ, i64_w, i32_w]
  rfl
 refine pure_ (i := 14) (N := some 73) (v := ?_) (a' := ?_) #[true, true, true, true, true, true, true, true, true, true, true, true, true, true, true, false, false, false, false, false, false, false, false, false, false, false, false, false, false, false, false, false, false, false, false] rfl rfl (by kernel_rfl) (fun _ _ _ h => h) (Or.inl ⟨by rfl, ?_⟩) ?_ ?_
 rotate_left
 ·intro w'
  go_simp
  with_reducible rfl
 rotate_left
 ·simp only [Act.put, List.setIfInBounds_toArray, List.set_cons_zero, List.set_cons_succ, i64_w, i32_w]
  rfl
 refine pure_ (i := 15) (N := some 74) (v := ?_) (a' := ?_) #[true, true, true, true, true, true, true, true, true, true, true, true, true, true, true, true, false, false, false, false, false, false, false, false, false, false, false, false, false, false, false, false, false, false, false] rfl rfl (by kernel_rfl) (fun _ _ _ h => h) (Or.inl ⟨by rfl, ?_⟩) ?_ ?_
 rotate_left
 ·intro w'
  go_simp
  with_reducible rfl
 rotate_left
 ·simp only [Act.put, List.setIfInBounds_toArray, List.set_cons_zero, List.set_cons_succ, i64_w, i32_w]
  rfl
 refine pure_ (i := 16) (N := some 75) (v := ?_) (a' := ?_) #[true, true, true, true, true, true, true, true, true, true, true, true, true, true, true, true, true, false, false, false, false, false, false, false, false, false, false, false, false, false, false, false, false, false, false] rfl rfl (by kernel_rfl) (fun _ _ _ h => h) (Or.inl ⟨by rfl, ?_⟩) ?_ ?_
 rotate_left
 ·intro w'
  go_simp
  with_reducible rfl
 rotate_left
 ·simp only [Act.put, List.setIfInBounds_toArray, List.set_cons_zero, List.set_cons_succ, i64_w, i32_w]
  rfl
 refine pure_ (i := 17) (N := some 76) (v := ?_) (a' := ?_) #[true, true, true, true, true, true, true, true, true, true, true, true, true, true, true, true, true, true, false, false, false, false, false, false, false, false, false, false, false, false, false, false, false, false, false] rfl rfl (by kernel_rfl) (fun _ _ _ h => h) (Or.inl ⟨by rfl, ?_⟩) ?_ ?_
 rotate_left
 ·intro w'
  go_simp
  with_reducible rfl
 rotate_left
 ·simp only [Act.put, List.setIfInBounds_toArray, List.set_cons_zero, List.set_cons_succ, i64_w, i32_w]
  rfl
 refine pure_ (i := 18) (N := some 77) (v := ?_) (a' := ?_) #[true, true, true, true, true, true, true, true, true, true, true, true, true, true, true, true, true, true, true, false, false, false, false, false, false, false, false, false, false, false, false, false, false, false, false] rfl rfl (by kernel_rfl) (fun _ _ _ h => h) (Or.inl ⟨by rfl, ?_⟩) ?_ ?_
 rotate_left
 ·intro w'
  go_simp
  with_reducible rfl
 rotate_left
 ·simp only [Act.put, List.setIfInBounds_toArray, List.set_cons_zero, List.set_cons_succ, i64_w, i32_w]
  rfl
 refine pure_ (i := 19) (N := some 78) (v := ?_) (a' := ?_) #[true, true, true, true, true, true, true, true, true, true, true, true, true, true, true, true, true, true, true, true, false, false, false, false, false, false, false, false, false, false, false, false, false, false, false] rfl rfl (by kernel_rfl) (fun _ _ _ h => h) (Or.inl ⟨by rfl, ?_⟩) ?_ ?_
 rotate_left
 ·intro w'
  go_simp
  with_reducible rfl
 rotate_left
 ·simp only [Act.put, List.setIfInBounds_toArray, List.set_cons_zero, List.set_cons_succ, i64_w, i32_w]
  rfl
 refine pure_ (i := 20) (N := some 79) (v := ?_) (a' := ?_) #[true, true, true, true, true, true, true, true, true, true, true, true, true, true, true, true, true, true, true, true, true, false, false, false, false, false, false, false, false, false, false, false, false, false, false] rfl rfl (by kernel_rfl) (fun _ _ _ h => h) (Or.inl ⟨by rfl, ?_⟩) ?_ ?_
 rotate_left
 ·intro w'
  go_simp
  with_reducible rfl
 rotate_left
 ·simp only [Act.put, List.setIfInBounds_toArray, List.set_cons_zero, List.set_cons_succ, i64_w, i32_w]
  rfl
 refine pure_ (i := 21) (N := some 80) (v := ?_) (a' := ?_) #[true, true, true, true, true, true, true, true, true, true, true, true, true, true, true, true, true, true, true, true, true, true, false, false, false, false, false, false, false, false, false, false, false, false, false] rfl rfl (by kernel_rfl) (fun _ _ _ h => h) (Or.inl ⟨by rfl, ?_⟩) ?_ ?_
 rotate_left
 ·intro w'
  go_simp
  with_reducible rfl
 rotate_left
 ·simp only [Act.put, List.setIfInBounds_toArray, List.set_cons_zero, List.set_cons_succ, i64_w, i32_w]
  rfl
 refine pure_ (i := 22) (N := some 81) (v := ?_) (a' := ?_) #[true, true, true, true, true, true, true, true, true, true, true, true, true, true, true, true, true, true, true, true, true, true, true, false, false, false, false, false, false, false, false, false, false, false, false] rfl rfl (by kernel_rfl) (fun _ _ _ h => h) (Or.inl ⟨by rfl, ?_⟩) ?_ ?_
 rotate_left
 ·intro w'
  go_simp
  with_reducible rfl
 rotate_left
 ·simp only [Act.put, List.setIfInBounds_toArray, List.set_cons_zero, List.set_cons_succ, i64_w, i32_w]
  rfl
 refine pure_ (i := 23) (N := some 82) (v := ?_) (a' := ?_) #[true, true, true, true, true, true, true, true, true, true, true, true, true, true, true, true, true, true, true, true, true, true, true, true, false, false, false, false, false, false, false, false, false, false, false] rfl rfl (by kernel_rfl) (fun _ _ _ h => h) (Or.inl ⟨by rfl, ?_⟩) ?_ ?_
 rotate_left
 ·intro w'
  go_simp
  with_reducible rfl
 rotate_left
 ·simp only [Act.put, List.setIfInBounds_toArray, List.set_cons_zero, List.set_cons_succ, i64_w, i32_w]
  rfl
 refine pure_ (i := 24) (N := some 83) (v := ?_) (a' := ?_) #[true, true, true, true, true, true, true, true, true, true, true, true, true, true, true, true, true, true, true, true, true, true, true, true, true, false, false, false, false, false, false, false, false, false, false] rfl rfl (by kernel_rfl) (fun _ _ _ h => h) (Or.inl ⟨by rfl, ?_⟩) ?_ ?_
 rotate_left
 ·intro w'
  go_simp
  with_reducible rfl
 rotate_left
 ·simp only [Act.put, List.setIfInBounds_toArray, List.set_cons_zero, List.set_cons_succ, i64_w, i32_w]
  rfl
 refine pure_ (i := 25) (N := some 84) (v := ?_) (a' := ?_) #[true, true, true, true, true, true, true, true, true, true, true, true, true, true, true, true, true, true, true, true, true, true, true, true, true, true, false, false, false, false, false, false, false, false, false] rfl rfl (by kernel_rfl) (fun _ _ _ h => h) (Or.inl ⟨by rfl, ?_⟩) ?_ ?_
 rotate_left
 ·intro w'
  go_simp
  with_reducible rfl
 rotate_left
 ·simp only [Act.put, List.setIfInBounds_toArray, List.set_cons_zero, List.set_cons_succ, i64_w, i32_w]
  rfl
 refine pure_ (i := 26) (N := some 85) (v := ?_) (a' := ?_) #[true, true, true, true, true, true, true, true, true, true, true, true, true, true, true, true, true, true, true, true, true, true, true, true, true, true, true, false, false, false, false, false, false, false, false] rfl rfl (by kernel_rfl) (fun _ _ _ h => h) (Or.inl ⟨by rfl, ?_⟩) ?_ ?_
 rotate_left
 ·intro w'
  go_simp
  with_reducible rfl
 rotate_left
 ·simp only [Act.put, List.setIfInBounds_toArray, List.set_cons_zero, List.set_cons_succ, i64_w, i32_w]
  rfl
 refine pure_ (i := 27) (N := some 86) (v := ?_) (a' := ?_) #[true, true, true, true, true, true, true, true, true, true, true, true, true, true, true, true, true, true, true, true, true, true, true, true, true, true, true, true, false, false, false, false, false, false, false] rfl rfl (by kernel_rfl) (fun _ _ _ h => h) (Or.inl ⟨by rfl, ?_⟩) ?_ ?_
 rotate_left
 ·intro w'
  go_simp
  with_reducible rfl
 rotate_left
 ·simp only [Act.put, List.setIfInBounds_toArray, List.set_cons_zero, List.set_cons_succ, i64_w, i32_w]
  rfl
 refine pure_ (i := 28) (N := some 87) (v := ?_) (a' := ?_) #[true, true, true, true, true, true, true, true, true, true, true, true, true, true, true, true, true, true, true, true, true, true, true, true, true, true, true, true, true, false, false, false, false, false, false] rfl rfl (by kernel_rfl) (fun _ _ _ h => h) (Or.inl ⟨by rfl, ?_⟩) ?_ ?_
 rotate_left
 ·intro w'
  go_simp
  with_reducible rfl
 rotate_left
 ·simp only [Act.put, List.setIfInBounds_toArray, List.set_cons_zero, List.set_cons_succ, i64_w, i32_w]
  rfl
 refine take_ (i := 29) (N := some 88) (v := ?_) (a' := ?_) #[true, true, true, true, true, true, true, true, true, true, true, true, true, true, true, true, true, true, true, true, true, true, true, true, true, true, true, true, true, true, false, false, false, false, false] rfl rfl (by kernel_rfl) (fun _ _ _ h => h) (Or.inl ⟨by rfl, ?_⟩) hHeld ?_ ?_
 rotate_left
 ·rintro w' ⟨s0, s1, s2, s3, s4, s5⟩
  go_simp
  with_reducible rfl
 rotate_left
 ·simp only [Act.put, List.setIfInBounds_toArray, List.set_cons_zero, List.set_cons_succ, i64_w, i32_w]
  rfl
 refine one_ (i := 30) (N := some 89) #[true, true, true, true, true, true, true, true, true, true, true, true, true, true, true, true, true, true, true, true, true, true, true, true, true, true, true, true, true, true, true, false, false, false, false] rfl rfl (by kernel_rfl) (by decide) (fun K hK => ?_)
 refine goes_ Try.func16 (by kernel_rfl) rfl #[.int .i64 (1)] (by rfl) rfl rfl (by simp only [List.map_toArray, List.map_cons, List.map_nil]; rfl) ?_
 with_reducible refine (runnellaw9_num.calls (1) 1 (1) _ rfl).mono ?_
 rintro e w16 ⟨rfl, hb_w16⟩
 refine ⟨_, rfl, ?_⟩
 have B_w16 := Lib.hid (below_step B_w15.out hb_w16)
 have Q_w16 := Lib.hid hb_w16
 clear hb_w16
 refine hK.out _ _ ⟨pw_cell_below Q_w16.out hHeld.1, pw_cell_below Q_w16.out hHeld.2.1, pw_cell_below Q_w16.out hHeld.2.2.1, pw_cell_below Q_w16.out hHeld.2.2.2.1, pw_cell_below Q_w16.out hHeld.2.2.2.2.1, pw_cell_below Q_w16.out hHeld.2.2.2.2.2⟩ (fun hHeld => ?_)
 clear hK K
 refine norm_ (a' := ?_) ?_ ?_
 rotate_left
 ·show Act.put _ (some 89) _ = _
  simp only [Act.put, List.setIfInBounds_toArray, List.set_cons_zero, List.set_cons_succ, i64_w, i32_w]
  rfl
 refine one_ (i := 31) (N := some 90) #[true, true, true, true, true, true, true, true, true, true, true, true, true, true, true, true, true, true, true, true, true, true, true, true, true, true, true, true, true, true, true, true, false, false, false] rfl rfl (by kernel_rfl) (by decide) (fun K hK => ?_)
 refine goes_ Try.func16 (by kernel_rfl) rfl #[.int .i64 (9)] (by rfl) rfl rfl (by simp only [List.map_toArray, List.map_cons, List.map_nil]; rfl) ?_
 with_reducible refine (runnellaw9_num.calls (9) 1 (9) _ rfl).mono ?_
 rintro e w17 ⟨rfl, hb_w17⟩
 refine ⟨_, rfl, ?_⟩
 have B_w17 := Lib.hid (below_step B_w16.out hb_w17)
 have Q_w17 := Lib.hid hb_w17
 clear hb_w17
 refine hK.out _ _ ⟨pw_cell_below Q_w17.out hHeld.1, pw_cell_below Q_w17.out hHeld.2.1, pw_cell_below Q_w17.out hHeld.2.2.1, pw_cell_below Q_w17.out hHeld.2.2.2.1, pw_cell_below Q_w17.out hHeld.2.2.2.2.1, pw_cell_below Q_w17.out hHeld.2.2.2.2.2⟩ (fun hHeld => ?_)
 clear hK K
 refine norm_ (a' := ?_) ?_ ?_
 rotate_left
 ·show Act.put _ (some 90) _ = _
  simp only [Act.put, List.setIfInBounds_toArray, List.set_cons_zero, List.set_cons_succ, i64_w, i32_w]
  rfl
 refine last_ (i := 32) (N := some 91) #[true, true, true, true, true, true, true, true, true, true, true, true, true, true, true, true, true, true, true, true, true, true, true, true, true, true, true, true, true, true, true, true, true, false, false] rfl rfl (by kernel_rfl) (by decide) (fun K hK => ?_)
 refine goes_ Try.func24 (by kernel_rfl) rfl #[.pointer (some ⟨w12.heap.size + 1, 0, none⟩), .agg #[.int .i64 3, .int .i64 1], .agg #[.int .i64 1, .int .i64 1], .agg #[.int .i64 1, .int .i64 9]] (by rfl) rfl rfl (by simp only [List.map_toArray, List.map_cons, List.map_nil]; rfl) ?_
 with_reducible refine (sh_set (HH.out.below B_w17.out)).mono ?_
 rintro e w18 ⟨rfl, hH_, hC_⟩
 refine ⟨_, rfl, ?_⟩
 have HH18 := Lib.hid hH_
 have HC18 := Lib.hid hC_
 clear hH_ hC_
 refine hK.out _ _ ?_
 clear hK K
 refine norm_ (a' := ?_) ?_ ?_
 rotate_left
 ·show Act.put _ (some 91) _ = _
  simp only [Act.put, List.setIfInBounds_toArray, List.set_cons_zero, List.set_cons_succ, i64_w, i32_w]
  rfl
 refine pure_ (i := 33) (N := some 92) (v := ?_) (a' := ?_) #[true, true, true, true, true, true, true, true, true, true, true, true, true, true, true, true, true, true, true, true, true, true, true, true, true, true, true, true, true, true, true, true, true, true, false] rfl rfl (by kernel_rfl) (fun _ _ _ h => h) (Or.inl ⟨by rfl, ?_⟩) ?_ ?_
 rotate_left
 ·intro w'
  go_simp
  with_reducible rfl
 rotate_left
 ·simp only [Act.put, List.setIfInBounds_toArray, List.set_cons_zero, List.set_cons_succ, i64_w, i32_w]
  rfl
 refine pure_ (i := 34) (N := some 93) (v := ?_) (a' := ?_) #[true, true, true, true, true, true, true, true, true, true, true, true, true, true, true, true, true, true, true, true, true, true, true, true, true, true, true, true, true, true, true, true, true, true, true] rfl rfl (by kernel_rfl) (fun _ _ _ h => h) (Or.inl ⟨by rfl, ?_⟩) ?_ ?_
 rotate_left
 ·intro w'
  go_simp
  with_reducible rfl
 rotate_left
 ·simp only [Act.put, List.setIfInBounds_toArray, List.set_cons_zero, List.set_cons_succ, i64_w, i32_w]
  rfl
 refine done_ (by kernel_rfl) ?_
 have K_l : Hid (w18.heap[w13.heap.size]? = some (.cells #[.int .i64 3, .int .i64 1] 23 (0, 0))) := Lib.hid ((HC18.out.block _ (by have := B_w17.out.size; have h2 := Q_w14.out.size; have h3 := Q_w15.out.size; have h4 := Q_w16.out.size; have h5 := Q_w17.out.size; rw [hW13.out] at h2; omega) (fun h => by have := (OKB.out _ h).2; omega)).trans (blk_below (blk_below (blk_below (blk_below K_l0.out Q_w14.out) Q_w15.out) Q_w16.out) Q_w17.out))
 have nB := Lib.hid ((HB.out.trans (B_w17.out.mono HB.out.size)).trans (HC18.out.below (Nat.le_trans HB.out.size B_w17.out.size) (fun x hx h => by have := (OKB.out _ h).1; omega)))
 clear K_a lt_a c_a_0 c_a_1 f_a_0 f_a_1 K_b lt_b c_b_0 c_b_1 f_b_0 f_b_1 HB
 have HB := nB
 clear nB
 have lt_l : w13.heap.size < w18.heap.size := blk_lt K_l.out
 have c_l_0 : w18.cell? ⟨w13.heap.size, 0, none⟩ = some (.int .i64 3) := (blk_cell K_l.out 0).trans rfl
 have f_l_0 : w18.frozen? ⟨w13.heap.size, 0, none⟩ = false := blk_frozen K_l.out 0
 have c_l_1 : w18.cell? ⟨w13.heap.size, 1, none⟩ = some (.int .i64 1) := (blk_cell K_l.out 1).trans rfl
 have f_l_1 : w18.frozen? ⟨w13.heap.size, 1, none⟩ = false := blk_frozen K_l.out 1
 go_wp2_with fail
 have Cl0 := Lib.hid c_l_0
 have Cl1 := Lib.hid c_l_1
 refine start_ (n := 10) (S := fun w' => w'.cell? ⟨w13.heap.size, 0, none⟩ = some (.int .i64 3) ∧ w'.cell? ⟨w13.heap.size, 1, none⟩ = some (.int .i64 1)) (ds := [8]) #[false, false, false, false, false, false, false, false, false, false] (by kernel_rfl) rfl rfl ⟨cell_drew (Cl0.out), cell_drew (Cl1.out)⟩ (fun hHeld => ?_)
 refine pure_ (i := 0) (N := some 95) (v := ?_) (a' := ?_) #[true, false, false, false, false, false, false, false, false, false] rfl rfl (by kernel_rfl) (fun _ _ _ h => h) (Or.inl ⟨by rfl, ?_⟩) ?_ ?_
 rotate_left
 ·intro w'
  go_simp
  with_reducible rfl
 rotate_left
 ·simp only [Act.put, List.setIfInBounds_toArray, List.set_cons_zero, List.set_cons_succ, i64_w, i32_w]
  rfl
 refine take_ (i := 1) (N := some 96) (v := ?_) (a' := ?_) #[true, true, false, false, false, false, false, false, false, false] rfl rfl (by kernel_rfl) (fun _ _ _ h => h) (Or.inl ⟨by rfl, ?_⟩) hHeld ?_ ?_
 rotate_left
 ·rintro w' ⟨s0, s1⟩
  go_simp
  with_reducible rfl
 rotate_left
 ·simp only [Act.put, List.setIfInBounds_toArray, List.set_cons_zero, List.set_cons_succ, i64_w, i32_w]
  rfl
 refine join_ (σ := Nat) 2 #[true, true, true, true, true, true, true, true, false, false] (fun s => [(97, .agg #[.int .i64 1, .int .i64 1]), (98, .tuple #[.agg #[.int .i64 1, .int .i64 9], .int .i64 0]), (94, .tuple #[.agg #[.int .i64 1, .int .i64 9], .int .i64 0]), (99, .agg #[.int .i64 1, .int .i64 9]), (100, .int .i64 0), (17, .pointer (some ⟨s, 0, none⟩))]) (fun s w' => Below w18.heap.size w18 w' ∧ w'.heap[s]? = some (.cells #[.int .i64 0, .int .i64 0] 23 (0, 0)) ∧ w18.heap.size ≤ s) ?_ ?_
 rotate_left
 ·intro hCont
  refine two_ (i := 2) (j := 7) (Ni := some 97) (Nj := some 17) #[true, true, true, false, false, false, false, false, false, false] #[true, true, false, false, false, false, false, true, false, false] rfl rfl rfl rfl (by kernel_rfl) (by decide) (by decide) (fun K hK => ?_) (fun K hK => ?_)
  ·skip
   refine goes_ Try.func16 (by kernel_rfl) rfl #[.int .i64 1] (by rfl) rfl rfl (by simp only [List.map_toArray, List.map_cons, List.map_nil]; rfl) ?_
   with_reducible refine (runnellaw9_num.calls 1 1 1 _ rfl).mono ?_
   rintro e w_p2 ⟨rfl, hb_⟩
   refine ⟨_, rfl, ?_⟩
   have B_p2 := Lib.hid (below_step ((below_drew (Below.refl w18.heap.size w18))) hb_)
   clear hb_
   refine hK.out _ _ ⟨pw_cell_below B_p2.out Cl0.out, pw_cell_below B_p2.out Cl1.out⟩ (fun hHeld => ?_)
   clear hK K
   refine norm_ (a' := ?_) ?_ ?_
   rotate_left
   ·show Act.put _ (some 97) _ = _
    simp only [Act.put, List.setIfInBounds_toArray, List.set_cons_zero, List.set_cons_succ, i64_w, i32_w]
    rfl
   refine two_ (i := 3) (j := 7) (Ni := some 98) (Nj := some 17) #[true, true, true, true, false, false, false, false, false, false] #[true, true, true, false, false, false, false, true, false, false] rfl rfl rfl rfl (by kernel_rfl) (by decide) (by decide) (fun K hK => ?_) (fun K hK => ?_)
   ·skip
    refine goes_ Try.func21 (by kernel_rfl) rfl #[.pointer (some ⟨w12.heap.size + 1, 0, none⟩), .agg #[.int .i64 3, .int .i64 1], .agg #[.int .i64 1, .int .i64 1]] (by rfl) rfl rfl (by simp only [List.map_toArray, List.map_cons, List.map_nil]; rfl) ?_
    with_reducible refine (sh_get1 (HH18.out.below (B_p2.out))).mono ?_
    rintro e w_p2_3 ⟨rfl, hb_⟩
    refine ⟨_, rfl, ?_⟩
    have B_p2_3 := Lib.hid (below_step (B_p2.out) hb_)
    clear hb_
    refine hK.out _ _ ⟨pw_cell_below B_p2_3.out Cl0.out, pw_cell_below B_p2_3.out Cl1.out⟩ (fun hHeld => ?_)
    clear hK K
    refine norm_ (a' := ?_) ?_ ?_
    rotate_left
    ·show Act.put _ (some 98) _ = _
     simp only [Act.put, List.setIfInBounds_toArray, List.set_cons_zero, List.set_cons_succ, i64_w, i32_w]
     rfl
    refine pure_ (i := 4) (N := some 94) (v := ?_) (a' := ?_) #[true, true, true, true, true, false, false, false, false, false] rfl rfl (by kernel_rfl) (fun _ _ _ h => h) (Or.inl ⟨by rfl, ?_⟩) ?_ ?_
    rotate_left
    ·intro w'
     go_simp
     with_reducible rfl
    rotate_left
    ·simp only [Act.put, List.setIfInBounds_toArray, List.set_cons_zero, List.set_cons_succ, i64_w, i32_w]
     rfl
    refine pure_ (i := 5) (N := some 99) (v := ?_) (a' := ?_) #[true, true, true, true, true, true, false, false, false, false] rfl rfl (by kernel_rfl) (fun _ _ _ h => h) (Or.inl ⟨by rfl, ?_⟩) ?_ ?_
    rotate_left
    ·intro w'
     go_simp
     with_reducible rfl
    rotate_left
    ·simp only [Act.put, List.setIfInBounds_toArray, List.set_cons_zero, List.set_cons_succ, i64_w, i32_w]
     rfl
    refine pure_ (i := 6) (N := some 100) (v := ?_) (a' := ?_) #[true, true, true, true, true, true, true, false, false, false] rfl rfl (by kernel_rfl) (fun _ _ _ h => h) (Or.inl ⟨by rfl, ?_⟩) ?_ ?_
    rotate_left
    ·intro w'
     go_simp
     with_reducible rfl
    rotate_left
    ·simp only [Act.put, List.setIfInBounds_toArray, List.set_cons_zero, List.set_cons_succ, i64_w, i32_w]
     rfl
    refine one_ (i := 7) (N := some 17) #[true, true, true, true, true, true, true, true, false, false] rfl rfl (by kernel_rfl) (by decide) (fun K hK => ?_)
    refine value_ (w1 := ?_) (v := ?_) (by rfl) rfl ?_ ?_
    rotate_left 2
    ·go_simp
     constructor
     ·rfl
     ·rfl
    have B_p2_3_7 := Lib.hid (below_alloc (B_p2_3.out) (.cells #[.int .i64 0, .int .i64 0] 23))
    have N_p2_3_7 : Hid ((w_p2_3.alloc (.cells #[.int .i64 0, .int .i64 0] 23)).heap[w_p2_3.heap.size]? = some (.cells #[.int .i64 0, .int .i64 0] 23 (0, 0))) := Lib.hid (heap_alloc_new w_p2_3 _)
    have LE_N_p2_3_7 : Hid (w18.heap.size ≤ w_p2_3.heap.size) := Lib.hid ((B_p2_3.out).size)
    refine hK.out _ _ ⟨pw_cell_below B_p2_3_7.out Cl0.out, pw_cell_below B_p2_3_7.out Cl1.out⟩ (fun hHeld => ?_)
    clear hK K
    refine norm_ (a' := ?_) ?_ ?_
    rotate_left
    ·show Act.put _ (some 17) _ = _
     simp only [Act.put, List.setIfInBounds_toArray, List.set_cons_zero, List.set_cons_succ, i64_w, i32_w]
     rfl
    exact norm_ (by simp only [putAll, Act.put, List.setIfInBounds_toArray, List.set_cons_zero, List.set_cons_succ]) (hCont w_p2_3.heap.size _ ⟨B_p2_3_7.out, N_p2_3_7.out, LE_N_p2_3_7.out⟩)
   ·skip
    refine value_ (w1 := ?_) (v := ?_) (by rfl) rfl ?_ ?_
    rotate_left 2
    ·go_simp
     constructor
     ·rfl
     ·rfl
    have B_p2_7 := Lib.hid (below_alloc (B_p2.out) (.cells #[.int .i64 0, .int .i64 0] 23))
    have N_p2_7 : Hid ((w_p2.alloc (.cells #[.int .i64 0, .int .i64 0] 23)).heap[w_p2.heap.size]? = some (.cells #[.int .i64 0, .int .i64 0] 23 (0, 0))) := Lib.hid (heap_alloc_new w_p2 _)
    have LE_N_p2_7 : Hid (w18.heap.size ≤ w_p2.heap.size) := Lib.hid ((B_p2.out).size)
    refine hK.out _ _ ⟨pw_cell_below B_p2_7.out Cl0.out, pw_cell_below B_p2_7.out Cl1.out⟩ (fun hHeld => ?_)
    clear hK K
    refine norm_ (a' := ?_) ?_ ?_
    rotate_left
    ·show Act.put _ (some 17) _ = _
     simp only [Act.put, List.setIfInBounds_toArray, List.set_cons_zero, List.set_cons_succ, i64_w, i32_w]
     rfl
    refine one_ (i := 3) (N := some 98) #[true, true, true, true, false, false, false, true, false, false] rfl rfl (by kernel_rfl) (by decide) (fun K hK => ?_)
    refine goes_ Try.func21 (by kernel_rfl) rfl #[.pointer (some ⟨w12.heap.size + 1, 0, none⟩), .agg #[.int .i64 3, .int .i64 1], .agg #[.int .i64 1, .int .i64 1]] (by rfl) rfl rfl (by simp only [List.map_toArray, List.map_cons, List.map_nil]; rfl) ?_
    with_reducible refine (sh_get1 (HH18.out.below (B_p2_7.out))).mono ?_
    rintro e w_p2_7_3 ⟨rfl, hb_⟩
    refine ⟨_, rfl, ?_⟩
    have B_p2_7_3 := Lib.hid (below_step (B_p2_7.out) hb_)
    have N_p2_7_3 := Lib.hid (blk_below N_p2_7.out hb_)
    have LE_N_p2_7_3 := Lib.hid LE_N_p2_7.out
    clear hb_
    refine hK.out _ _ ⟨pw_cell_below B_p2_7_3.out Cl0.out, pw_cell_below B_p2_7_3.out Cl1.out⟩ (fun hHeld => ?_)
    clear hK K
    refine norm_ (a' := ?_) ?_ ?_
    rotate_left
    ·show Act.put _ (some 98) _ = _
     simp only [Act.put, List.setIfInBounds_toArray, List.set_cons_zero, List.set_cons_succ, i64_w, i32_w]
     rfl
    refine pure_ (i := 4) (N := some 94) (v := ?_) (a' := ?_) #[true, true, true, true, true, false, false, true, false, false] rfl rfl (by kernel_rfl) (fun _ _ _ h => h) (Or.inl ⟨by rfl, ?_⟩) ?_ ?_
    rotate_left
    ·intro w'
     go_simp
     with_reducible rfl
    rotate_left
    ·simp only [Act.put, List.setIfInBounds_toArray, List.set_cons_zero, List.set_cons_succ, i64_w, i32_w]
     rfl
    refine pure_ (i := 5) (N := some 99) (v := ?_) (a' := ?_) #[true, true, true, true, true, true, false, true, false, false] rfl rfl (by kernel_rfl) (fun _ _ _ h => h) (Or.inl ⟨by rfl, ?_⟩) ?_ ?_
    rotate_left
    ·intro w'
     go_simp
     with_reducible rfl
    rotate_left
    ·simp only [Act.put, List.setIfInBounds_toArray, List.set_cons_zero, List.set_cons_succ, i64_w, i32_w]
     rfl
    refine pure_ (i := 6) (N := some 100) (v := ?_) (a' := ?_) #[true, true, true, true, true, true, true, true, false, false] rfl rfl (by kernel_rfl) (fun _ _ _ h => h) (Or.inl ⟨by rfl, ?_⟩) ?_ ?_
    rotate_left
    ·intro w'
     go_simp
     with_reducible rfl
    rotate_left
    ·simp only [Act.put, List.setIfInBounds_toArray, List.set_cons_zero, List.set_cons_succ, i64_w, i32_w]
     rfl
    exact norm_ (by simp only [putAll, Act.put, List.setIfInBounds_toArray, List.set_cons_zero, List.set_cons_succ]) (hCont w_p2.heap.size _ ⟨B_p2_7_3.out, N_p2_7_3.out, LE_N_p2_7_3.out⟩)
  ·skip
   refine value_ (w1 := ?_) (v := ?_) (by rfl) rfl ?_ ?_
   rotate_left 2
   ·go_simp
    constructor
    ·rfl
    ·rfl
   have B_p7 := Lib.hid (below_alloc ((below_drew (Below.refl w18.heap.size w18))) (.cells #[.int .i64 0, .int .i64 0] 23))
   have N_p7 : Hid ((w18.drew.alloc (.cells #[.int .i64 0, .int .i64 0] 23)).heap[w18.heap.size]? = some (.cells #[.int .i64 0, .int .i64 0] 23 (0, 0))) := Lib.hid (heap_alloc_new w18.drew _)
   have LE_N_p7 : Hid (w18.heap.size ≤ w18.heap.size) := Lib.hid (Nat.le_refl _)
   refine hK.out _ _ ⟨pw_cell_below B_p7.out Cl0.out, pw_cell_below B_p7.out Cl1.out⟩ (fun hHeld => ?_)
   clear hK K
   refine norm_ (a' := ?_) ?_ ?_
   rotate_left
   ·show Act.put _ (some 17) _ = _
    simp only [Act.put, List.setIfInBounds_toArray, List.set_cons_zero, List.set_cons_succ, i64_w, i32_w]
    rfl
   refine one_ (i := 2) (N := some 97) #[true, true, true, false, false, false, false, true, false, false] rfl rfl (by kernel_rfl) (by decide) (fun K hK => ?_)
   refine goes_ Try.func16 (by kernel_rfl) rfl #[.int .i64 1] (by rfl) rfl rfl (by simp only [List.map_toArray, List.map_cons, List.map_nil]; rfl) ?_
   with_reducible refine (runnellaw9_num.calls 1 1 1 _ rfl).mono ?_
   rintro e w_p7_2 ⟨rfl, hb_⟩
   refine ⟨_, rfl, ?_⟩
   have B_p7_2 := Lib.hid (below_step (B_p7.out) hb_)
   have N_p7_2 := Lib.hid (blk_below N_p7.out hb_)
   have LE_N_p7_2 := Lib.hid LE_N_p7.out
   clear hb_
   refine hK.out _ _ ⟨pw_cell_below B_p7_2.out Cl0.out, pw_cell_below B_p7_2.out Cl1.out⟩ (fun hHeld => ?_)
   clear hK K
   refine norm_ (a' := ?_) ?_ ?_
   rotate_left
   ·show Act.put _ (some 97) _ = _
    simp only [Act.put, List.setIfInBounds_toArray, List.set_cons_zero, List.set_cons_succ, i64_w, i32_w]
    rfl
   refine one_ (i := 3) (N := some 98) #[true, true, true, true, false, false, false, true, false, false] rfl rfl (by kernel_rfl) (by decide) (fun K hK => ?_)
   refine goes_ Try.func21 (by kernel_rfl) rfl #[.pointer (some ⟨w12.heap.size + 1, 0, none⟩), .agg #[.int .i64 3, .int .i64 1], .agg #[.int .i64 1, .int .i64 1]] (by rfl) rfl rfl (by simp only [List.map_toArray, List.map_cons, List.map_nil]; rfl) ?_
   with_reducible refine (sh_get1 (HH18.out.below (B_p7_2.out))).mono ?_
   rintro e w_p7_2_3 ⟨rfl, hb_⟩
   refine ⟨_, rfl, ?_⟩
   have B_p7_2_3 := Lib.hid (below_step (B_p7_2.out) hb_)
   have N_p7_2_3 := Lib.hid (blk_below N_p7_2.out hb_)
   have LE_N_p7_2_3 := Lib.hid LE_N_p7_2.out
   clear hb_
   refine hK.out _ _ ⟨pw_cell_below B_p7_2_3.out Cl0.out, pw_cell_below B_p7_2_3.out Cl1.out⟩ (fun hHeld => ?_)
   clear hK K
   refine norm_ (a' := ?_) ?_ ?_
   rotate_left
   ·show Act.put _ (some 98) _ = _
    simp only [Act.put, List.setIfInBounds_toArray, List.set_cons_zero, List.set_cons_succ, i64_w, i32_w]
    rfl
   refine pure_ (i := 4) (N := some 94) (v := ?_) (a' := ?_) #[true, true, true, true, true, false, false, true, false, false] rfl rfl (by kernel_rfl) (fun _ _ _ h => h) (Or.inl ⟨by rfl, ?_⟩) ?_ ?_
   rotate_left
   ·intro w'
    go_simp
    with_reducible rfl
   rotate_left
   ·simp only [Act.put, List.setIfInBounds_toArray, List.set_cons_zero, List.set_cons_succ, i64_w, i32_w]
    rfl
   refine pure_ (i := 5) (N := some 99) (v := ?_) (a' := ?_) #[true, true, true, true, true, true, false, true, false, false] rfl rfl (by kernel_rfl) (fun _ _ _ h => h) (Or.inl ⟨by rfl, ?_⟩) ?_ ?_
   rotate_left
   ·intro w'
    go_simp
    with_reducible rfl
   rotate_left
   ·simp only [Act.put, List.setIfInBounds_toArray, List.set_cons_zero, List.set_cons_succ, i64_w, i32_w]
    rfl
   refine pure_ (i := 6) (N := some 100) (v := ?_) (a' := ?_) #[true, true, true, true, true, true, true, true, false, false] rfl rfl (by kernel_rfl) (fun _ _ _ h => h) (Or.inl ⟨by rfl, ?_⟩) ?_ ?_
   rotate_left
   ·intro w'
    go_simp
    with_reducible rfl
   rotate_left
   ·simp only [Act.put, List.setIfInBounds_toArray, List.set_cons_zero, List.set_cons_succ, i64_w, i32_w]
    rfl
   exact norm_ (by simp only [putAll, Act.put, List.setIfInBounds_toArray, List.set_cons_zero, List.set_cons_succ]) (hCont w18.heap.size _ ⟨B_p7_2_3.out, N_p7_2_3.out, LE_N_p7_2_3.out⟩)
 rintro sp wFp ⟨hF1p, hF2p, hF3p⟩
 have hHeld := True.intro
 refine norm_ (a' := ?_) ?_ ?_
 rotate_left
 ·simp only [putAll, Act.put, List.setIfInBounds_toArray, List.set_cons_zero, List.set_cons_succ]
  rfl
 refine last_ (i := 8) (N := none) #[true, true, true, true, true, true, true, true, true, false] rfl rfl (by kernel_rfl) (by decide) (fun K hK => ?_)
 have cv0 := (blk_cell hF2p 0).trans rfl
 have cv1 := (blk_cell hF2p 1).trans rfl
 have fv0 := blk_frozen hF2p 0
 have fv1 := blk_frozen hF2p 1
 refine skip_ (w1 := ?_) (by rfl) rfl ?_ ?_
 rotate_left
 ·go_simp
  rfl
 refine hK.out _ _ ?_
 clear hK K
 refine pure_ (i := 9) (N := some 18) (v := ?_) (a' := ?_) #[true, true, true, true, true, true, true, true, true, true] rfl rfl (by kernel_rfl) (fun _ _ _ h => h) (Or.inl ⟨by rfl, ?_⟩) ?_ ?_
 rotate_left
 ·intro w'
  go_simp
  with_reducible rfl
 rotate_left
 ·simp only [Act.put, List.setIfInBounds_toArray, List.set_cons_zero, List.set_cons_succ, i64_w, i32_w]
  rfl
 refine done_ (by kernel_rfl) ?_
 go_wp2_with fail
 clear cv0 cv1 fv0 fv1 Cl0 Cl1
 obtain ⟨w20, hw_⟩ : ∃ w20, w20 = (wFp.setCell ⟨sp, 0, none⟩ (.int .i64 1)).setCell ⟨sp, 1, none⟩ (.int .i64 9) := ⟨_, rfl⟩
 rw [← hw_]
 have hb_ : Below w18.heap.size w18 w20 := by rw [hw_]; exact Below.setCell (Below.setCell (hF1p) (p := ⟨sp, _, none⟩) hF3p _) (p := ⟨sp, _, none⟩) hF3p _
 have n_v : Hid (w20.heap[sp]? = some (.cells #[.int .i64 1, .int .i64 9] 23 (0, 0))) := Lib.hid (by rw [hw_]; exact blk_put (blk_put (hF2p) 0 _ rfl) 1 _ rfl)
 have n_l : Hid (w20.heap[w13.heap.size]? = some (.cells #[.int .i64 3, .int .i64 1] 23 (0, 0))) := Lib.hid (blk_below K_l.out hb_)
 clear K_l lt_l c_l_0 c_l_1 f_l_0 f_l_1
 have K_l := n_l
 clear n_l
 have lt_l : w13.heap.size < w20.heap.size := blk_lt K_l.out
 have c_l_0 : w20.cell? ⟨w13.heap.size, 0, none⟩ = some (.int .i64 3) := (blk_cell K_l.out 0).trans rfl
 have f_l_0 : w20.frozen? ⟨w13.heap.size, 0, none⟩ = false := blk_frozen K_l.out 0
 have c_l_1 : w20.cell? ⟨w13.heap.size, 1, none⟩ = some (.int .i64 1) := (blk_cell K_l.out 1).trans rfl
 have f_l_1 : w20.frozen? ⟨w13.heap.size, 1, none⟩ = false := blk_frozen K_l.out 1
 have K_v := n_v
 clear n_v
 have lt_v : sp < w20.heap.size := blk_lt K_v.out
 have c_v_0 : w20.cell? ⟨sp, 0, none⟩ = some (.int .i64 1) := (blk_cell K_v.out 0).trans rfl
 have f_v_0 : w20.frozen? ⟨sp, 0, none⟩ = false := blk_frozen K_v.out 0
 have c_v_1 : w20.cell? ⟨sp, 1, none⟩ = some (.int .i64 9) := (blk_cell K_v.out 1).trans rfl
 have f_v_1 : w20.frozen? ⟨sp, 1, none⟩ = false := blk_frozen K_v.out 1
 have HH20 := Lib.hid (HH18.out.below hb_)
 have nB := Lib.hid (below_step HB.out hb_)
 clear HB hb_ hw_
 have HB := nB
 clear nB
 have Cl0 := Lib.hid c_l_0
 have Cl1 := Lib.hid c_l_1
 go_wp2_with fail
 refine start_ (n := 10) (S := fun w' => w'.cell? ⟨w13.heap.size, 0, none⟩ = some (.int .i64 3) ∧ w'.cell? ⟨w13.heap.size, 1, none⟩ = some (.int .i64 1)) (ds := [8]) #[false, false, false, false, false, false, false, false, false, false] (by kernel_rfl) rfl rfl ⟨cell_drew (Cl0.out), cell_drew (Cl1.out)⟩ (fun hHeld => ?_)
 refine pure_ (i := 0) (N := some 102) (v := ?_) (a' := ?_) #[true, false, false, false, false, false, false, false, false, false] rfl rfl (by kernel_rfl) (fun _ _ _ h => h) (Or.inl ⟨by rfl, ?_⟩) ?_ ?_
 rotate_left
 ·intro w'
  go_simp
  with_reducible rfl
 rotate_left
 ·simp only [Act.put, List.setIfInBounds_toArray, List.set_cons_zero, List.set_cons_succ, i64_w, i32_w]
  rfl
 refine take_ (i := 1) (N := some 103) (v := ?_) (a' := ?_) #[true, true, false, false, false, false, false, false, false, false] rfl rfl (by kernel_rfl) (fun _ _ _ h => h) (Or.inl ⟨by rfl, ?_⟩) hHeld ?_ ?_
 rotate_left
 ·rintro w' ⟨s0, s1⟩
  go_simp
  with_reducible rfl
 rotate_left
 ·simp only [Act.put, List.setIfInBounds_toArray, List.set_cons_zero, List.set_cons_succ, i64_w, i32_w]
  rfl
 refine join_ (σ := Nat) 2 #[true, true, true, true, true, true, true, true, false, false] (fun s => [(104, .agg #[.int .i64 1, .int .i64 2]), (105, .tuple #[.agg #[.int .i64 0, .int .i64 0], .int .i64 2]), (101, .tuple #[.agg #[.int .i64 0, .int .i64 0], .int .i64 2]), (106, .agg #[.int .i64 0, .int .i64 0]), (107, .int .i64 2), (19, .pointer (some ⟨s, 0, none⟩))]) (fun s w' => Below w20.heap.size w20 w' ∧ w'.heap[s]? = some (.cells #[.int .i64 0, .int .i64 0] 23 (0, 0)) ∧ w20.heap.size ≤ s) ?_ ?_
 rotate_left
 ·intro hCont
  refine two_ (i := 2) (j := 7) (Ni := some 104) (Nj := some 19) #[true, true, true, false, false, false, false, false, false, false] #[true, true, false, false, false, false, false, true, false, false] rfl rfl rfl rfl (by kernel_rfl) (by decide) (by decide) (fun K hK => ?_) (fun K hK => ?_)
  ·skip
   refine goes_ Try.func16 (by kernel_rfl) rfl #[.int .i64 2] (by rfl) rfl rfl (by simp only [List.map_toArray, List.map_cons, List.map_nil]; rfl) ?_
   with_reducible refine (runnellaw9_num.calls 2 1 2 _ rfl).mono ?_
   rintro e w_q2 ⟨rfl, hb_⟩
   refine ⟨_, rfl, ?_⟩
   have B_q2 := Lib.hid (below_step ((below_drew (Below.refl w20.heap.size w20))) hb_)
   clear hb_
   refine hK.out _ _ ⟨pw_cell_below B_q2.out Cl0.out, pw_cell_below B_q2.out Cl1.out⟩ (fun hHeld => ?_)
   clear hK K
   refine norm_ (a' := ?_) ?_ ?_
   rotate_left
   ·show Act.put _ (some 104) _ = _
    simp only [Act.put, List.setIfInBounds_toArray, List.set_cons_zero, List.set_cons_succ, i64_w, i32_w]
    rfl
   refine two_ (i := 3) (j := 7) (Ni := some 105) (Nj := some 19) #[true, true, true, true, false, false, false, false, false, false] #[true, true, true, false, false, false, false, true, false, false] rfl rfl rfl rfl (by kernel_rfl) (by decide) (by decide) (fun K hK => ?_) (fun K hK => ?_)
   ·skip
    refine goes_ Try.func21 (by kernel_rfl) rfl #[.pointer (some ⟨w12.heap.size + 1, 0, none⟩), .agg #[.int .i64 3, .int .i64 1], .agg #[.int .i64 1, .int .i64 2]] (by rfl) rfl rfl (by simp only [List.map_toArray, List.map_cons, List.map_nil]; rfl) ?_
    with_reducible refine (sh_get2 (HH20.out.below (B_q2.out))).mono ?_
    rintro e w_q2_3 ⟨rfl, hb_⟩
    refine ⟨_, rfl, ?_⟩
    have B_q2_3 := Lib.hid (below_step (B_q2.out) hb_)
    clear hb_
    refine hK.out _ _ ⟨pw_cell_below B_q2_3.out Cl0.out, pw_cell_below B_q2_3.out Cl1.out⟩ (fun hHeld => ?_)
    clear hK K
    refine norm_ (a' := ?_) ?_ ?_
    rotate_left
    ·show Act.put _ (some 105) _ = _
     simp only [Act.put, List.setIfInBounds_toArray, List.set_cons_zero, List.set_cons_succ, i64_w, i32_w]
     rfl
    refine pure_ (i := 4) (N := some 101) (v := ?_) (a' := ?_) #[true, true, true, true, true, false, false, false, false, false] rfl rfl (by kernel_rfl) (fun _ _ _ h => h) (Or.inl ⟨by rfl, ?_⟩) ?_ ?_
    rotate_left
    ·intro w'
     go_simp
     with_reducible rfl
    rotate_left
    ·simp only [Act.put, List.setIfInBounds_toArray, List.set_cons_zero, List.set_cons_succ, i64_w, i32_w]
     rfl
    refine pure_ (i := 5) (N := some 106) (v := ?_) (a' := ?_) #[true, true, true, true, true, true, false, false, false, false] rfl rfl (by kernel_rfl) (fun _ _ _ h => h) (Or.inl ⟨by rfl, ?_⟩) ?_ ?_
    rotate_left
    ·intro w'
     go_simp
     with_reducible rfl
    rotate_left
    ·simp only [Act.put, List.setIfInBounds_toArray, List.set_cons_zero, List.set_cons_succ, i64_w, i32_w]
     rfl
    refine pure_ (i := 6) (N := some 107) (v := ?_) (a' := ?_) #[true, true, true, true, true, true, true, false, false, false] rfl rfl (by kernel_rfl) (fun _ _ _ h => h) (Or.inl ⟨by rfl, ?_⟩) ?_ ?_
    rotate_left
    ·intro w'
     go_simp
     with_reducible rfl
    rotate_left
    ·simp only [Act.put, List.setIfInBounds_toArray, List.set_cons_zero, List.set_cons_succ, i64_w, i32_w]
     rfl
    refine one_ (i := 7) (N := some 19) #[true, true, true, true, true, true, true, true, false, false] rfl rfl (by kernel_rfl) (by decide) (fun K hK => ?_)
    refine value_ (w1 := ?_) (v := ?_) (by rfl) rfl ?_ ?_
    rotate_left 2
    ·go_simp
     constructor
     ·rfl
     ·rfl
    have B_q2_3_7 := Lib.hid (below_alloc (B_q2_3.out) (.cells #[.int .i64 0, .int .i64 0] 23))
    have N_q2_3_7 : Hid ((w_q2_3.alloc (.cells #[.int .i64 0, .int .i64 0] 23)).heap[w_q2_3.heap.size]? = some (.cells #[.int .i64 0, .int .i64 0] 23 (0, 0))) := Lib.hid (heap_alloc_new w_q2_3 _)
    have LE_N_q2_3_7 : Hid (w20.heap.size ≤ w_q2_3.heap.size) := Lib.hid ((B_q2_3.out).size)
    refine hK.out _ _ ⟨pw_cell_below B_q2_3_7.out Cl0.out, pw_cell_below B_q2_3_7.out Cl1.out⟩ (fun hHeld => ?_)
    clear hK K
    refine norm_ (a' := ?_) ?_ ?_
    rotate_left
    ·show Act.put _ (some 19) _ = _
     simp only [Act.put, List.setIfInBounds_toArray, List.set_cons_zero, List.set_cons_succ, i64_w, i32_w]
     rfl
    exact norm_ (by simp only [putAll, Act.put, List.setIfInBounds_toArray, List.set_cons_zero, List.set_cons_succ]) (hCont w_q2_3.heap.size _ ⟨B_q2_3_7.out, N_q2_3_7.out, LE_N_q2_3_7.out⟩)
   ·skip
    refine value_ (w1 := ?_) (v := ?_) (by rfl) rfl ?_ ?_
    rotate_left 2
    ·go_simp
     constructor
     ·rfl
     ·rfl
    have B_q2_7 := Lib.hid (below_alloc (B_q2.out) (.cells #[.int .i64 0, .int .i64 0] 23))
    have N_q2_7 : Hid ((w_q2.alloc (.cells #[.int .i64 0, .int .i64 0] 23)).heap[w_q2.heap.size]? = some (.cells #[.int .i64 0, .int .i64 0] 23 (0, 0))) := Lib.hid (heap_alloc_new w_q2 _)
    have LE_N_q2_7 : Hid (w20.heap.size ≤ w_q2.heap.size) := Lib.hid ((B_q2.out).size)
    refine hK.out _ _ ⟨pw_cell_below B_q2_7.out Cl0.out, pw_cell_below B_q2_7.out Cl1.out⟩ (fun hHeld => ?_)
    clear hK K
    refine norm_ (a' := ?_) ?_ ?_
    rotate_left
    ·show Act.put _ (some 19) _ = _
     simp only [Act.put, List.setIfInBounds_toArray, List.set_cons_zero, List.set_cons_succ, i64_w, i32_w]
     rfl
    refine one_ (i := 3) (N := some 105) #[true, true, true, true, false, false, false, true, false, false] rfl rfl (by kernel_rfl) (by decide) (fun K hK => ?_)
    refine goes_ Try.func21 (by kernel_rfl) rfl #[.pointer (some ⟨w12.heap.size + 1, 0, none⟩), .agg #[.int .i64 3, .int .i64 1], .agg #[.int .i64 1, .int .i64 2]] (by rfl) rfl rfl (by simp only [List.map_toArray, List.map_cons, List.map_nil]; rfl) ?_
    with_reducible refine (sh_get2 (HH20.out.below (B_q2_7.out))).mono ?_
    rintro e w_q2_7_3 ⟨rfl, hb_⟩
    refine ⟨_, rfl, ?_⟩
    have B_q2_7_3 := Lib.hid (below_step (B_q2_7.out) hb_)
    have N_q2_7_3 := Lib.hid (blk_below N_q2_7.out hb_)
    have LE_N_q2_7_3 := Lib.hid LE_N_q2_7.out
    clear hb_
    refine hK.out _ _ ⟨pw_cell_below B_q2_7_3.out Cl0.out, pw_cell_below B_q2_7_3.out Cl1.out⟩ (fun hHeld => ?_)
    clear hK K
    refine norm_ (a' := ?_) ?_ ?_
    rotate_left
    ·show Act.put _ (some 105) _ = _
     simp only [Act.put, List.setIfInBounds_toArray, List.set_cons_zero, List.set_cons_succ, i64_w, i32_w]
     rfl
    refine pure_ (i := 4) (N := some 101) (v := ?_) (a' := ?_) #[true, true, true, true, true, false, false, true, false, false] rfl rfl (by kernel_rfl) (fun _ _ _ h => h) (Or.inl ⟨by rfl, ?_⟩) ?_ ?_
    rotate_left
    ·intro w'
     go_simp
     with_reducible rfl
    rotate_left
    ·simp only [Act.put, List.setIfInBounds_toArray, List.set_cons_zero, List.set_cons_succ, i64_w, i32_w]
     rfl
    refine pure_ (i := 5) (N := some 106) (v := ?_) (a' := ?_) #[true, true, true, true, true, true, false, true, false, false] rfl rfl (by kernel_rfl) (fun _ _ _ h => h) (Or.inl ⟨by rfl, ?_⟩) ?_ ?_
    rotate_left
    ·intro w'
     go_simp
     with_reducible rfl
    rotate_left
    ·simp only [Act.put, List.setIfInBounds_toArray, List.set_cons_zero, List.set_cons_succ, i64_w, i32_w]
     rfl
    refine pure_ (i := 6) (N := some 107) (v := ?_) (a' := ?_) #[true, true, true, true, true, true, true, true, false, false] rfl rfl (by kernel_rfl) (fun _ _ _ h => h) (Or.inl ⟨by rfl, ?_⟩) ?_ ?_
    rotate_left
    ·intro w'
     go_simp
     with_reducible rfl
    rotate_left
    ·simp only [Act.put, List.setIfInBounds_toArray, List.set_cons_zero, List.set_cons_succ, i64_w, i32_w]
     rfl
    exact norm_ (by simp only [putAll, Act.put, List.setIfInBounds_toArray, List.set_cons_zero, List.set_cons_succ]) (hCont w_q2.heap.size _ ⟨B_q2_7_3.out, N_q2_7_3.out, LE_N_q2_7_3.out⟩)
  ·skip
   refine value_ (w1 := ?_) (v := ?_) (by rfl) rfl ?_ ?_
   rotate_left 2
   ·go_simp
    constructor
    ·rfl
    ·rfl
   have B_q7 := Lib.hid (below_alloc ((below_drew (Below.refl w20.heap.size w20))) (.cells #[.int .i64 0, .int .i64 0] 23))
   have N_q7 : Hid ((w20.drew.alloc (.cells #[.int .i64 0, .int .i64 0] 23)).heap[w20.heap.size]? = some (.cells #[.int .i64 0, .int .i64 0] 23 (0, 0))) := Lib.hid (heap_alloc_new w20.drew _)
   have LE_N_q7 : Hid (w20.heap.size ≤ w20.heap.size) := Lib.hid (Nat.le_refl _)
   refine hK.out _ _ ⟨pw_cell_below B_q7.out Cl0.out, pw_cell_below B_q7.out Cl1.out⟩ (fun hHeld => ?_)
   clear hK K
   refine norm_ (a' := ?_) ?_ ?_
   rotate_left
   ·show Act.put _ (some 19) _ = _
    simp only [Act.put, List.setIfInBounds_toArray, List.set_cons_zero, List.set_cons_succ, i64_w, i32_w]
    rfl
   refine one_ (i := 2) (N := some 104) #[true, true, true, false, false, false, false, true, false, false] rfl rfl (by kernel_rfl) (by decide) (fun K hK => ?_)
   refine goes_ Try.func16 (by kernel_rfl) rfl #[.int .i64 2] (by rfl) rfl rfl (by simp only [List.map_toArray, List.map_cons, List.map_nil]; rfl) ?_
   with_reducible refine (runnellaw9_num.calls 2 1 2 _ rfl).mono ?_
   rintro e w_q7_2 ⟨rfl, hb_⟩
   refine ⟨_, rfl, ?_⟩
   have B_q7_2 := Lib.hid (below_step (B_q7.out) hb_)
   have N_q7_2 := Lib.hid (blk_below N_q7.out hb_)
   have LE_N_q7_2 := Lib.hid LE_N_q7.out
   clear hb_
   refine hK.out _ _ ⟨pw_cell_below B_q7_2.out Cl0.out, pw_cell_below B_q7_2.out Cl1.out⟩ (fun hHeld => ?_)
   clear hK K
   refine norm_ (a' := ?_) ?_ ?_
   rotate_left
   ·show Act.put _ (some 104) _ = _
    simp only [Act.put, List.setIfInBounds_toArray, List.set_cons_zero, List.set_cons_succ, i64_w, i32_w]
    rfl
   refine one_ (i := 3) (N := some 105) #[true, true, true, true, false, false, false, true, false, false] rfl rfl (by kernel_rfl) (by decide) (fun K hK => ?_)
   refine goes_ Try.func21 (by kernel_rfl) rfl #[.pointer (some ⟨w12.heap.size + 1, 0, none⟩), .agg #[.int .i64 3, .int .i64 1], .agg #[.int .i64 1, .int .i64 2]] (by rfl) rfl rfl (by simp only [List.map_toArray, List.map_cons, List.map_nil]; rfl) ?_
   with_reducible refine (sh_get2 (HH20.out.below (B_q7_2.out))).mono ?_
   rintro e w_q7_2_3 ⟨rfl, hb_⟩
   refine ⟨_, rfl, ?_⟩
   have B_q7_2_3 := Lib.hid (below_step (B_q7_2.out) hb_)
   have N_q7_2_3 := Lib.hid (blk_below N_q7_2.out hb_)
   have LE_N_q7_2_3 := Lib.hid LE_N_q7_2.out
   clear hb_
   refine hK.out _ _ ⟨pw_cell_below B_q7_2_3.out Cl0.out, pw_cell_below B_q7_2_3.out Cl1.out⟩ (fun hHeld => ?_)
   clear hK K
   refine norm_ (a' := ?_) ?_ ?_
   rotate_left
   ·show Act.put _ (some 105) _ = _
    simp only [Act.put, List.setIfInBounds_toArray, List.set_cons_zero, List.set_cons_succ, i64_w, i32_w]
    rfl
   refine pure_ (i := 4) (N := some 101) (v := ?_) (a' := ?_) #[true, true, true, true, true, false, false, true, false, false] rfl rfl (by kernel_rfl) (fun _ _ _ h => h) (Or.inl ⟨by rfl, ?_⟩) ?_ ?_
   rotate_left
   ·intro w'
    go_simp
    with_reducible rfl
   rotate_left
   ·simp only [Act.put, List.setIfInBounds_toArray, List.set_cons_zero, List.set_cons_succ, i64_w, i32_w]
    rfl
   refine pure_ (i := 5) (N := some 106) (v := ?_) (a' := ?_) #[true, true, true, true, true, true, false, true, false, false] rfl rfl (by kernel_rfl) (fun _ _ _ h => h) (Or.inl ⟨by rfl, ?_⟩) ?_ ?_
   rotate_left
   ·intro w'
    go_simp
    with_reducible rfl
   rotate_left
   ·simp only [Act.put, List.setIfInBounds_toArray, List.set_cons_zero, List.set_cons_succ, i64_w, i32_w]
    rfl
   refine pure_ (i := 6) (N := some 107) (v := ?_) (a' := ?_) #[true, true, true, true, true, true, true, true, false, false] rfl rfl (by kernel_rfl) (fun _ _ _ h => h) (Or.inl ⟨by rfl, ?_⟩) ?_ ?_
   rotate_left
   ·intro w'
    go_simp
    with_reducible rfl
   rotate_left
   ·simp only [Act.put, List.setIfInBounds_toArray, List.set_cons_zero, List.set_cons_succ, i64_w, i32_w]
    rfl
   exact norm_ (by simp only [putAll, Act.put, List.setIfInBounds_toArray, List.set_cons_zero, List.set_cons_succ]) (hCont w20.heap.size _ ⟨B_q7_2_3.out, N_q7_2_3.out, LE_N_q7_2_3.out⟩)
 rintro sq wFq ⟨hF1q, hF2q, hF3q⟩
 have hHeld := True.intro
 refine norm_ (a' := ?_) ?_ ?_
 rotate_left
 ·simp only [putAll, Act.put, List.setIfInBounds_toArray, List.set_cons_zero, List.set_cons_succ]
  rfl
 refine last_ (i := 8) (N := none) #[true, true, true, true, true, true, true, true, true, false] rfl rfl (by kernel_rfl) (by decide) (fun K hK => ?_)
 have cv0 := (blk_cell hF2q 0).trans rfl
 have cv1 := (blk_cell hF2q 1).trans rfl
 have fv0 := blk_frozen hF2q 0
 have fv1 := blk_frozen hF2q 1
 refine skip_ (w1 := ?_) (by rfl) rfl ?_ ?_
 rotate_left
 ·go_simp
  rfl
 refine hK.out _ _ ?_
 clear hK K
 refine pure_ (i := 9) (N := some 20) (v := ?_) (a' := ?_) #[true, true, true, true, true, true, true, true, true, true] rfl rfl (by kernel_rfl) (fun _ _ _ h => h) (Or.inl ⟨by rfl, ?_⟩) ?_ ?_
 rotate_left
 ·intro w'
  go_simp
  with_reducible rfl
 rotate_left
 ·simp only [Act.put, List.setIfInBounds_toArray, List.set_cons_zero, List.set_cons_succ, i64_w, i32_w]
  rfl
 refine done_ (by kernel_rfl) ?_
 go_wp2_with fail
 clear cv0 cv1 fv0 fv1 Cl0 Cl1
 obtain ⟨w22, hw_⟩ : ∃ w22, w22 = (wFq.setCell ⟨sq, 0, none⟩ (.int .i64 0)).setCell ⟨sq, 1, none⟩ (.int .i64 0) := ⟨_, rfl⟩
 rw [← hw_]
 have hb_ : Below w20.heap.size w20 w22 := by rw [hw_]; exact Below.setCell (Below.setCell (hF1q) (p := ⟨sq, _, none⟩) hF3q _) (p := ⟨sq, _, none⟩) hF3q _
 have n_z : Hid (w22.heap[sq]? = some (.cells #[.int .i64 0, .int .i64 0] 23 (0, 0))) := Lib.hid (by rw [hw_]; exact blk_put (blk_put (hF2q) 0 _ rfl) 1 _ rfl)
 have n_l : Hid (w22.heap[w13.heap.size]? = some (.cells #[.int .i64 3, .int .i64 1] 23 (0, 0))) := Lib.hid (blk_below K_l.out hb_)
 have n_v : Hid (w22.heap[sp]? = some (.cells #[.int .i64 1, .int .i64 9] 23 (0, 0))) := Lib.hid (blk_below K_v.out hb_)
 clear K_l lt_l c_l_0 c_l_1 f_l_0 f_l_1 K_v lt_v c_v_0 c_v_1 f_v_0 f_v_1
 have K_l := n_l
 clear n_l
 have lt_l : w13.heap.size < w22.heap.size := blk_lt K_l.out
 have c_l_0 : w22.cell? ⟨w13.heap.size, 0, none⟩ = some (.int .i64 3) := (blk_cell K_l.out 0).trans rfl
 have f_l_0 : w22.frozen? ⟨w13.heap.size, 0, none⟩ = false := blk_frozen K_l.out 0
 have c_l_1 : w22.cell? ⟨w13.heap.size, 1, none⟩ = some (.int .i64 1) := (blk_cell K_l.out 1).trans rfl
 have f_l_1 : w22.frozen? ⟨w13.heap.size, 1, none⟩ = false := blk_frozen K_l.out 1
 have K_v := n_v
 clear n_v
 have lt_v : sp < w22.heap.size := blk_lt K_v.out
 have c_v_0 : w22.cell? ⟨sp, 0, none⟩ = some (.int .i64 1) := (blk_cell K_v.out 0).trans rfl
 have f_v_0 : w22.frozen? ⟨sp, 0, none⟩ = false := blk_frozen K_v.out 0
 have c_v_1 : w22.cell? ⟨sp, 1, none⟩ = some (.int .i64 9) := (blk_cell K_v.out 1).trans rfl
 have f_v_1 : w22.frozen? ⟨sp, 1, none⟩ = false := blk_frozen K_v.out 1
 have K_z := n_z
 clear n_z
 have lt_z : sq < w22.heap.size := blk_lt K_z.out
 have c_z_0 : w22.cell? ⟨sq, 0, none⟩ = some (.int .i64 0) := (blk_cell K_z.out 0).trans rfl
 have f_z_0 : w22.frozen? ⟨sq, 0, none⟩ = false := blk_frozen K_z.out 0
 have c_z_1 : w22.cell? ⟨sq, 1, none⟩ = some (.int .i64 0) := (blk_cell K_z.out 1).trans rfl
 have f_z_1 : w22.frozen? ⟨sq, 1, none⟩ = false := blk_frozen K_z.out 1
 have HH22 := Lib.hid (HH20.out.below hb_)
 have nB := Lib.hid (below_step HB.out hb_)
 clear HB hb_ hw_
 have HB := nB
 clear nB
 clear K_l lt_l c_l_0 c_l_1 f_l_0 f_l_1
 clear K_z lt_z c_z_0 c_z_1 f_z_0 f_z_1
 go_wp2_with fail
 refine (value_Zero.calls 3 3 0 _ rfl).mono ?_
 rintro e w23 ⟨rfl, hb_⟩
 have n_v : Hid (w23.heap[sp]? = some (.cells #[.int .i64 1, .int .i64 9] 23 (0, 0))) := Lib.hid (blk_below (by (with_reducible repeat (first | refine blk_drewN ?_ _ | refine blk_drew ?_ | refine blk_alloc ?_ _)); exact K_v.out) hb_)
 clear K_v lt_v c_v_0 c_v_1 f_v_0 f_v_1
 have K_v := n_v
 clear n_v
 have lt_v : sp < w23.heap.size := blk_lt K_v.out
 have c_v_0 : w23.cell? ⟨sp, 0, none⟩ = some (.int .i64 1) := (blk_cell K_v.out 0).trans rfl
 have f_v_0 : w23.frozen? ⟨sp, 0, none⟩ = false := blk_frozen K_v.out 0
 have c_v_1 : w23.cell? ⟨sp, 1, none⟩ = some (.int .i64 9) := (blk_cell K_v.out 1).trans rfl
 have f_v_1 : w23.frozen? ⟨sp, 1, none⟩ = false := blk_frozen K_v.out 1
 have n_HH22 := Lib.hid (HH22.out.below (by exact below_step (by (with_reducible repeat (first | apply below_alloc | apply pw_below_drewN | apply below_drew1)); exact Below.refl _ _) hb_))
 clear HH22
 have HH22 := n_HH22
 clear n_HH22
 have nB := Lib.hid (below_step (by (with_reducible repeat (first | apply below_alloc | apply pw_below_drewN | apply below_drew1)); exact HB.out) hb_)
 clear HB hb_
 have HB := nB
 clear nB
 go_wp2_with fail
 refine (runnellaw9_num.calls 0 1 0 _ rfl).mono ?_
 rintro e w24 ⟨rfl, hb_⟩
 have n_v : Hid (w24.heap[sp]? = some (.cells #[.int .i64 1, .int .i64 9] 23 (0, 0))) := Lib.hid (blk_below (by (with_reducible repeat (first | refine blk_drewN ?_ _ | refine blk_drew ?_ | refine blk_alloc ?_ _)); exact K_v.out) hb_)
 clear K_v lt_v c_v_0 c_v_1 f_v_0 f_v_1
 have K_v := n_v
 clear n_v
 have lt_v : sp < w24.heap.size := blk_lt K_v.out
 have c_v_0 : w24.cell? ⟨sp, 0, none⟩ = some (.int .i64 1) := (blk_cell K_v.out 0).trans rfl
 have f_v_0 : w24.frozen? ⟨sp, 0, none⟩ = false := blk_frozen K_v.out 0
 have c_v_1 : w24.cell? ⟨sp, 1, none⟩ = some (.int .i64 9) := (blk_cell K_v.out 1).trans rfl
 have f_v_1 : w24.frozen? ⟨sp, 1, none⟩ = false := blk_frozen K_v.out 1
 have n_HH22 := Lib.hid (HH22.out.below (by exact below_step (by (with_reducible repeat (first | apply below_alloc | apply pw_below_drewN | apply below_drew1)); exact Below.refl _ _) hb_))
 clear HH22
 have HH22 := n_HH22
 clear n_HH22
 have nB := Lib.hid (below_step (by (with_reducible repeat (first | apply below_alloc | apply pw_below_drewN | apply below_drew1)); exact HB.out) hb_)
 clear HB hb_
 have HB := nB
 clear nB
 go_wp2_with fail
 refine (sh_get3 HH22.out).mono ?_
 rintro e w25 ⟨rfl, hb_⟩
 have n_v : Hid (w25.heap[sp]? = some (.cells #[.int .i64 1, .int .i64 9] 23 (0, 0))) := Lib.hid (blk_below (by (with_reducible repeat (first | refine blk_drewN ?_ _ | refine blk_drew ?_ | refine blk_alloc ?_ _)); exact K_v.out) hb_)
 clear K_v lt_v c_v_0 c_v_1 f_v_0 f_v_1
 have K_v := n_v
 clear n_v
 have lt_v : sp < w25.heap.size := blk_lt K_v.out
 have c_v_0 : w25.cell? ⟨sp, 0, none⟩ = some (.int .i64 1) := (blk_cell K_v.out 0).trans rfl
 have f_v_0 : w25.frozen? ⟨sp, 0, none⟩ = false := blk_frozen K_v.out 0
 have c_v_1 : w25.cell? ⟨sp, 1, none⟩ = some (.int .i64 9) := (blk_cell K_v.out 1).trans rfl
 have f_v_1 : w25.frozen? ⟨sp, 1, none⟩ = false := blk_frozen K_v.out 1
 have n_HH22 := Lib.hid (HH22.out.below (by exact below_step (by (with_reducible repeat (first | apply below_alloc | apply pw_below_drewN | apply below_drew1)); exact Below.refl _ _) hb_))
 clear HH22
 have HH22 := n_HH22
 clear n_HH22
 have nB := Lib.hid (below_step (by (with_reducible repeat (first | apply below_alloc | apply pw_below_drewN | apply below_drew1)); exact HB.out) hb_)
 clear HB hb_
 have HB := nB
 clear nB
 go_wp2_with fail
 have HBz := Lib.hid (below_drew (below_alloc HB.out (.cells #[.int .i64 0, .int .i64 0] 23)))
 refine start_ (n := 16) (S := fun w' => w'.cell? ⟨sp, 0, none⟩ = some (.int .i64 1) ∧ w'.cell? ⟨sp, 1, none⟩ = some (.int .i64 9)) (ds := []) #[false, false, false, false, false, false, false, false, false, false, false, false, false, false, false, false] (by kernel_rfl) rfl rfl ⟨cell_drew (cell_old c_v_0), cell_drew (cell_old c_v_1)⟩ (fun hHeld => ?_)
 refine take_ (i := 0) (N := some 115) (v := ?_) (a' := ?_) #[true, false, false, false, false, false, false, false, false, false, false, false, false, false, false, false] rfl rfl (by kernel_rfl) (fun _ _ _ h => h) (Or.inl ⟨by rfl, ?_⟩) hHeld ?_ ?_
 rotate_left
 ·rintro w' ⟨s0, s1⟩
  go_simp
  with_reducible rfl
 rotate_left
 ·simp only [Act.put, List.setIfInBounds_toArray, List.set_cons_zero, List.set_cons_succ, i64_w, i32_w]
  rfl
 refine one_ (i := 1) (N := some 116) #[true, true, false, false, false, false, false, false, false, false, false, false, false, false, false, false] rfl rfl (by kernel_rfl) (by decide) (fun K hK => ?_)
 refine goes_ Try.func16 (by kernel_rfl) rfl #[.int .i64 9] (by rfl) rfl rfl (by simp only [List.map_toArray, List.map_cons, List.map_nil]; rfl) ?_
 with_reducible refine (runnellaw9_num.calls 9 1 9 _ rfl).mono ?_
 rintro e w26 ⟨rfl, hb_⟩
 refine ⟨_, rfl, ?_⟩
 have Q26 := Lib.hid hb_
 clear hb_
 refine hK.out _ _ ⟨pw_cell_below Q26.out hHeld.1, pw_cell_below Q26.out hHeld.2⟩ (fun hHeld => ?_)
 clear hK K
 refine norm_ (a' := ?_) ?_ ?_
 rotate_left
 ·show Act.put _ (some 116) _ = _
  simp only [Act.put, List.setIfInBounds_toArray, List.set_cons_zero, List.set_cons_succ, i64_w, i32_w]
  rfl
 refine pure_ (i := 2) (N := some 117) (v := ?_) (a' := ?_) #[true, true, true, false, false, false, false, false, false, false, false, false, false, false, false, false] rfl rfl (by kernel_rfl) (fun _ _ _ h => h) (Or.inl ⟨by rfl, ?_⟩) ?_ ?_
 rotate_left
 ·intro w'
  go_simp
  with_reducible rfl
 rotate_left
 ·simp only [Act.put, List.setIfInBounds_toArray, List.set_cons_zero, List.set_cons_succ, i64_w, i32_w]
  rfl
 refine pure_ (i := 3) (N := some 118) (v := ?_) (a' := ?_) #[true, true, true, true, false, false, false, false, false, false, false, false, false, false, false, false] rfl rfl (by kernel_rfl) (fun _ _ _ h => h) (Or.inl ⟨by rfl, ?_⟩) ?_ ?_
 rotate_left
 ·intro w'
  go_simp
  with_reducible rfl
 rotate_left
 ·simp only [Act.put, List.setIfInBounds_toArray, List.set_cons_zero, List.set_cons_succ, i64_w, i32_w]
  rfl
 refine pure_ (i := 4) (N := some 119) (v := ?_) (a' := ?_) #[true, true, true, true, true, false, false, false, false, false, false, false, false, false, false, false] rfl rfl (by kernel_rfl) (fun _ _ _ h => h) (Or.inl ⟨by rfl, ?_⟩) ?_ ?_
 rotate_left
 ·intro w'
  go_simp
  with_reducible rfl
 rotate_left
 ·simp only [Act.put, List.setIfInBounds_toArray, List.set_cons_zero, List.set_cons_succ, i64_w, i32_w]
  rfl
 refine pure_ (i := 5) (N := some 120) (v := ?_) (a' := ?_) #[true, true, true, true, true, true, false, false, false, false, false, false, false, false, false, false] rfl rfl (by kernel_rfl) (fun _ _ _ h => h) (Or.inl ⟨by rfl, ?_⟩) ?_ ?_
 rotate_left
 ·intro w'
  go_simp
  with_reducible rfl
 rotate_left
 ·simp only [Act.put, List.setIfInBounds_toArray, List.set_cons_zero, List.set_cons_succ, i64_w, i32_w]
  rfl
 refine pure_ (i := 6) (N := some 121) (v := ?_) (a' := ?_) #[true, true, true, true, true, true, true, false, false, false, false, false, false, false, false, false] rfl rfl (by kernel_rfl) (fun _ _ _ h => h) (Or.inl ⟨by rfl, ?_⟩) ?_ ?_
 rotate_left
 ·intro w'
  go_simp
  with_reducible rfl
 rotate_left
 ·simp only [Act.put, List.setIfInBounds_toArray, List.set_cons_zero, List.set_cons_succ, i64_w, i32_w]
  rfl
 refine pure_ (i := 7) (N := some 122) (v := ?_) (a' := ?_) #[true, true, true, true, true, true, true, true, false, false, false, false, false, false, false, false] rfl rfl (by kernel_rfl) (fun _ _ _ h => h) (Or.inl ⟨by rfl, ?_⟩) ?_ ?_
 rotate_left
 ·intro w'
  go_simp
  with_reducible rfl
 rotate_left
 ·simp only [Act.put, List.setIfInBounds_toArray, List.set_cons_zero, List.set_cons_succ, i64_w, i32_w]
  rfl
 refine pure_ (i := 8) (N := some 123) (v := ?_) (a' := ?_) #[true, true, true, true, true, true, true, true, true, false, false, false, false, false, false, false] rfl rfl (by kernel_rfl) (fun _ _ _ h => h) (Or.inl ⟨by rfl, ?_⟩) ?_ ?_
 rotate_left
 ·intro w'
  go_simp
  with_reducible rfl
 rotate_left
 ·simp only [Act.put, List.setIfInBounds_toArray, List.set_cons_zero, List.set_cons_succ, i64_w, i32_w]
  rfl
 refine pure_ (i := 9) (N := some 124) (v := ?_) (a' := ?_) #[true, true, true, true, true, true, true, true, true, true, false, false, false, false, false, false] rfl rfl (by kernel_rfl) (fun _ _ _ h => h) (Or.inl ⟨by rfl, ?_⟩) ?_ ?_
 rotate_left
 ·intro w'
  go_simp
  with_reducible rfl
 rotate_left
 ·simp only [Act.put, List.setIfInBounds_toArray, List.set_cons_zero, List.set_cons_succ, i64_w, i32_w]
  rfl
 refine pure_ (i := 10) (N := some 125) (v := ?_) (a' := ?_) #[true, true, true, true, true, true, true, true, true, true, true, false, false, false, false, false] rfl rfl (by kernel_rfl) (fun _ _ _ h => h) (Or.inl ⟨by rfl, ?_⟩) ?_ ?_
 rotate_left
 ·intro w'
  go_simp
  with_reducible rfl
 rotate_left
 ·simp only [Act.put, List.setIfInBounds_toArray, List.set_cons_zero, List.set_cons_succ, i64_w, i32_w]
  rfl
 refine pure_ (i := 11) (N := some 126) (v := ?_) (a' := ?_) #[true, true, true, true, true, true, true, true, true, true, true, true, false, false, false, false] rfl rfl (by kernel_rfl) (fun _ _ _ h => h) (Or.inl ⟨by rfl, ?_⟩) ?_ ?_
 rotate_left
 ·intro w'
  go_simp
  with_reducible rfl
 rotate_left
 ·simp only [Act.put, List.setIfInBounds_toArray, List.set_cons_zero, List.set_cons_succ, i64_w, i32_w]
  rfl
 refine pure_ (i := 12) (N := some 127) (v := ?_) (a' := ?_) #[true, true, true, true, true, true, true, true, true, true, true, true, true, false, false, false] rfl rfl (by kernel_rfl) (fun _ _ _ h => h) (Or.inl ⟨by rfl, ?_⟩) ?_ ?_
 rotate_left
 ·intro w'
  go_simp
  with_reducible rfl
 rotate_left
 ·simp only [Act.put, List.setIfInBounds_toArray, List.set_cons_zero, List.set_cons_succ, i64_w, i32_w]
  rfl
 refine pure_ (i := 13) (N := some 128) (v := ?_) (a' := ?_) #[true, true, true, true, true, true, true, true, true, true, true, true, true, true, false, false] rfl rfl (by kernel_rfl) (fun _ _ _ h => h) (Or.inl ⟨by rfl, ?_⟩) ?_ ?_
 rotate_left
 ·intro w'
  go_simp
  with_reducible rfl
 rotate_left
 ·simp only [Act.put, List.setIfInBounds_toArray, List.set_cons_zero, List.set_cons_succ, i64_w, i32_w]
  rfl
 refine pure_ (i := 14) (N := some 129) (v := ?_) (a' := ?_) #[true, true, true, true, true, true, true, true, true, true, true, true, true, true, true, false] rfl rfl (by kernel_rfl) (fun _ _ _ h => h) (Or.inl ⟨by rfl, ?_⟩) ?_ ?_
 rotate_left
 ·intro w'
  go_simp
  with_reducible rfl
 rotate_left
 ·simp only [Act.put, List.setIfInBounds_toArray, List.set_cons_zero, List.set_cons_succ, i64_w, i32_w]
  rfl
 refine pure_ (i := 15) (N := some 0) (v := ?_) (a' := ?_) #[true, true, true, true, true, true, true, true, true, true, true, true, true, true, true, true] rfl rfl (by kernel_rfl) (fun _ _ _ h => h) (Or.inl ⟨by rfl, ?_⟩) ?_ ?_
 rotate_left
 ·intro w'
  go_simp
  with_reducible rfl
 rotate_left
 ·simp only [Act.put, List.setIfInBounds_toArray, List.set_cons_zero, List.set_cons_succ, i64_w, i32_w]
  rfl
 refine done_ (by kernel_rfl) ?_
 go_wp2_with fail
 go_ret
 exact ⟨rfl, below_step HBz.out Q26.out⟩
end Go.Proofs.Ytkhlfdcjgooogaa.P
