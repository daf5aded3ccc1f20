/- does: an act of both heaps. -/
import Derived.Test.YtkhlfdcjgooogaaHDoesN
import Derived.Test.YtkhlfdcjgooogaaPf12
import Derived.Test.YtkhlfdcjgooogaaPf39
namespace Go.Proofs.Ytkhlfdcjgooogaa.P
open Go.RowKit Go.Proofs.YtkhlfdcjgooogaaW.PrintWords Go.Proofs.YtkhlfdcjgooogaaW.PrintLast Go.Proofs.YtkhlfdcjgooogaaW.PrintMore
set_option linter.unusedVariables false
set_option linter.unusedSimpArgs false
set_option maxRecDepth 100000 in
set_option maxHeartbeats 8000000 in
theorem does_getC {w : World} {Bh Bm : Nat} {okh okm : Nat → Prop} {L M : List (List Int)} (o n a an i ii v vn : Int) {x0 x1 r0 r1 : Int} (hx : getK L a an i ii = x0 ∧ getN L a an i ii = x1 ∧ wrongF L a an i ii = r0) (hy : getK M a an i ii = x0 ∧ getN M a an i ii = x1 ∧ wrongF M a an i ii = r1) (T : Two w Bh Bm okh okm L M) (hp : runnellaw9_pick.f o 4 = some 1) :
    Calls Try.prog 17 #[.pointer (some ⟨Bh, 0, none⟩), .pointer (some ⟨Bm, 0, none⟩), .agg #[.int .i64 o, .int .i64 n, .int .i64 a, .int .i64 an, .int .i64 i, .int .i64 ii, .int .i64 v, .int .i64 vn]] w fun e w' => e = .returned (.bool (r0 == r1)) ∧ After w Bh Bm okh okm L M w' := by
  have HX := Lib.hid hx
  have HY := Lib.hid hy
  clear hx hy
  have HP := Lib.hid hp
  have R := Lib.hid (Run.start T)
  clear hp T
  go_enter Try.func17, Try.ntmps17
  go_wp2_with fail
  obtain ⟨a1, hw_⟩ : ∃ W_, W_ = w.alloc (.cells #[.int .i64 o, .int .i64 n, .int .i64 a, .int .i64 an, .int .i64 i, .int .i64 ii, .int .i64 v, .int .i64 vn] 53) := ⟨_, rfl⟩
  rw [← hw_]
  have hb_ : Below w.heap.size w a1 := by rw [hw_]; exact below_alloc (Below.refl _ _) _
  have n_A : Hid (Var a1 okh okm w.heap.size #[.int .i64 o, .int .i64 n, .int .i64 a, .int .i64 an, .int .i64 i, .int .i64 ii, .int .i64 v, .int .i64 vn] 53) := Lib.hid (Var.fresh R.out.two (by rw [hw_]; exact heap_alloc_new _ _) (Nat.le_refl _))
  have V_A := n_A
  clear n_A
  have lt_A : w.heap.size < a1.heap.size := blk_lt V_A.out.blk
  have c_A_0 : a1.cell? ⟨w.heap.size, 0, none⟩ = some (.int .i64 o) := (blk_cell V_A.out.blk 0).trans rfl
  have f_A_0 : a1.frozen? ⟨w.heap.size, 0, none⟩ = false := blk_frozen V_A.out.blk 0
  have c_A_1 : a1.cell? ⟨w.heap.size, 1, none⟩ = some (.int .i64 n) := (blk_cell V_A.out.blk 1).trans rfl
  have f_A_1 : a1.frozen? ⟨w.heap.size, 1, none⟩ = false := blk_frozen V_A.out.blk 1
  have c_A_2 : a1.cell? ⟨w.heap.size, 2, none⟩ = some (.int .i64 a) := (blk_cell V_A.out.blk 2).trans rfl
  have f_A_2 : a1.frozen? ⟨w.heap.size, 2, none⟩ = false := blk_frozen V_A.out.blk 2
  have c_A_3 : a1.cell? ⟨w.heap.size, 3, none⟩ = some (.int .i64 an) := (blk_cell V_A.out.blk 3).trans rfl
  have f_A_3 : a1.frozen? ⟨w.heap.size, 3, none⟩ = false := blk_frozen V_A.out.blk 3
  have c_A_4 : a1.cell? ⟨w.heap.size, 4, none⟩ = some (.int .i64 i) := (blk_cell V_A.out.blk 4).trans rfl
  have f_A_4 : a1.frozen? ⟨w.heap.size, 4, none⟩ = false := blk_frozen V_A.out.blk 4
  have c_A_5 : a1.cell? ⟨w.heap.size, 5, none⟩ = some (.int .i64 ii) := (blk_cell V_A.out.blk 5).trans rfl
  have f_A_5 : a1.frozen? ⟨w.heap.size, 5, none⟩ = false := blk_frozen V_A.out.blk 5
  have c_A_6 : a1.cell? ⟨w.heap.size, 6, none⟩ = some (.int .i64 v) := (blk_cell V_A.out.blk 6).trans rfl
  have f_A_6 : a1.frozen? ⟨w.heap.size, 6, none⟩ = false := blk_frozen V_A.out.blk 6
  have c_A_7 : a1.cell? ⟨w.heap.size, 7, none⟩ = some (.int .i64 vn) := (blk_cell V_A.out.blk 7).trans rfl
  have f_A_7 : a1.frozen? ⟨w.heap.size, 7, none⟩ = false := blk_frozen V_A.out.blk 7
  have nR := Lib.hid (R.out.below hb_)
  clear R
  have R := nR
  clear nR
  clear hb_ hw_
  refine (pick_below o 1 _ HP.out).mono ?_
  rintro e_ w_1 ⟨rfl, hb_⟩
  have n_A : Hid (Var w_1 okh okm w.heap.size #[.int .i64 o, .int .i64 n, .int .i64 a, .int .i64 an, .int .i64 i, .int .i64 ii, .int .i64 v, .int .i64 vn] 53) := Lib.hid (V_A.out.below hb_)
  clear V_A lt_A c_A_0 f_A_0 c_A_1 f_A_1 c_A_2 f_A_2 c_A_3 f_A_3 c_A_4 f_A_4 c_A_5 f_A_5 c_A_6 f_A_6 c_A_7 f_A_7
  have V_A := n_A
  clear n_A
  have lt_A : w.heap.size < w_1.heap.size := blk_lt V_A.out.blk
  have c_A_0 : w_1.cell? ⟨w.heap.size, 0, none⟩ = some (.int .i64 o) := (blk_cell V_A.out.blk 0).trans rfl
  have f_A_0 : w_1.frozen? ⟨w.heap.size, 0, none⟩ = false := blk_frozen V_A.out.blk 0
  have c_A_1 : w_1.cell? ⟨w.heap.size, 1, none⟩ = some (.int .i64 n) := (blk_cell V_A.out.blk 1).trans rfl
  have f_A_1 : w_1.frozen? ⟨w.heap.size, 1, none⟩ = false := blk_frozen V_A.out.blk 1
  have c_A_2 : w_1.cell? ⟨w.heap.size, 2, none⟩ = some (.int .i64 a) := (blk_cell V_A.out.blk 2).trans rfl
  have f_A_2 : w_1.frozen? ⟨w.heap.size, 2, none⟩ = false := blk_frozen V_A.out.blk 2
  have c_A_3 : w_1.cell? ⟨w.heap.size, 3, none⟩ = some (.int .i64 an) := (blk_cell V_A.out.blk 3).trans rfl
  have f_A_3 : w_1.frozen? ⟨w.heap.size, 3, none⟩ = false := blk_frozen V_A.out.blk 3
  have c_A_4 : w_1.cell? ⟨w.heap.size, 4, none⟩ = some (.int .i64 i) := (blk_cell V_A.out.blk 4).trans rfl
  have f_A_4 : w_1.frozen? ⟨w.heap.size, 4, none⟩ = false := blk_frozen V_A.out.blk 4
  have c_A_5 : w_1.cell? ⟨w.heap.size, 5, none⟩ = some (.int .i64 ii) := (blk_cell V_A.out.blk 5).trans rfl
  have f_A_5 : w_1.frozen? ⟨w.heap.size, 5, none⟩ = false := blk_frozen V_A.out.blk 5
  have c_A_6 : w_1.cell? ⟨w.heap.size, 6, none⟩ = some (.int .i64 v) := (blk_cell V_A.out.blk 6).trans rfl
  have f_A_6 : w_1.frozen? ⟨w.heap.size, 6, none⟩ = false := blk_frozen V_A.out.blk 6
  have c_A_7 : w_1.cell? ⟨w.heap.size, 7, none⟩ = some (.int .i64 vn) := (blk_cell V_A.out.blk 7).trans rfl
  have f_A_7 : w_1.frozen? ⟨w.heap.size, 7, none⟩ = false := blk_frozen V_A.out.blk 7
  have nR := Lib.hid (R.out.below hb_)
  clear R
  have R := nR
  clear nR
  clear hb_
  go_wp2_with fail
  refine (run_getH R.out a an i ii HX.out).mono ?_
  rintro e_ w_2 ⟨rfl, hb_⟩
  have n_A : Hid (Var w_2 okh okm w.heap.size #[.int .i64 o, .int .i64 n, .int .i64 a, .int .i64 an, .int .i64 i, .int .i64 ii, .int .i64 v, .int .i64 vn] 53) := Lib.hid (V_A.out.below hb_)
  clear V_A lt_A c_A_0 f_A_0 c_A_1 f_A_1 c_A_2 f_A_2 c_A_3 f_A_3 c_A_4 f_A_4 c_A_5 f_A_5 c_A_6 f_A_6 c_A_7 f_A_7
  have V_A := n_A
  clear n_A
  have lt_A : w.heap.size < w_2.heap.size := blk_lt V_A.out.blk
  have c_A_0 : w_2.cell? ⟨w.heap.size, 0, none⟩ = some (.int .i64 o) := (blk_cell V_A.out.blk 0).trans rfl
  have f_A_0 : w_2.frozen? ⟨w.heap.size, 0, none⟩ = false := blk_frozen V_A.out.blk 0
  have c_A_1 : w_2.cell? ⟨w.heap.size, 1, none⟩ = some (.int .i64 n) := (blk_cell V_A.out.blk 1).trans rfl
  have f_A_1 : w_2.frozen? ⟨w.heap.size, 1, none⟩ = false := blk_frozen V_A.out.blk 1
  have c_A_2 : w_2.cell? ⟨w.heap.size, 2, none⟩ = some (.int .i64 a) := (blk_cell V_A.out.blk 2).trans rfl
  have f_A_2 : w_2.frozen? ⟨w.heap.size, 2, none⟩ = false := blk_frozen V_A.out.blk 2
  have c_A_3 : w_2.cell? ⟨w.heap.size, 3, none⟩ = some (.int .i64 an) := (blk_cell V_A.out.blk 3).trans rfl
  have f_A_3 : w_2.frozen? ⟨w.heap.size, 3, none⟩ = false := blk_frozen V_A.out.blk 3
  have c_A_4 : w_2.cell? ⟨w.heap.size, 4, none⟩ = some (.int .i64 i) := (blk_cell V_A.out.blk 4).trans rfl
  have f_A_4 : w_2.frozen? ⟨w.heap.size, 4, none⟩ = false := blk_frozen V_A.out.blk 4
  have c_A_5 : w_2.cell? ⟨w.heap.size, 5, none⟩ = some (.int .i64 ii) := (blk_cell V_A.out.blk 5).trans rfl
  have f_A_5 : w_2.frozen? ⟨w.heap.size, 5, none⟩ = false := blk_frozen V_A.out.blk 5
  have c_A_6 : w_2.cell? ⟨w.heap.size, 6, none⟩ = some (.int .i64 v) := (blk_cell V_A.out.blk 6).trans rfl
  have f_A_6 : w_2.frozen? ⟨w.heap.size, 6, none⟩ = false := blk_frozen V_A.out.blk 6
  have c_A_7 : w_2.cell? ⟨w.heap.size, 7, none⟩ = some (.int .i64 vn) := (blk_cell V_A.out.blk 7).trans rfl
  have f_A_7 : w_2.frozen? ⟨w.heap.size, 7, none⟩ = false := blk_frozen V_A.out.blk 7
  have nR := Lib.hid (R.out.below hb_)
  clear R
  have R := nR
  clear nR
  clear hb_
  go_wp2_with fail
  obtain ⟨a2, hw_⟩ : ∃ W_, W_ = w_2.alloc (.cells #[.int .i64 x0, .int .i64 x1] 23) := ⟨_, rfl⟩
  rw [← hw_]
  have hb_ : Below w_2.heap.size w_2 a2 := by rw [hw_]; exact below_alloc (Below.refl _ _) _
  have n_A : Hid (Var a2 okh okm w.heap.size #[.int .i64 o, .int .i64 n, .int .i64 a, .int .i64 an, .int .i64 i, .int .i64 ii, .int .i64 v, .int .i64 vn] 53) := Lib.hid (V_A.out.below hb_)
  have n_x : Hid (Var a2 okh okm w_2.heap.size #[.int .i64 x0, .int .i64 x1] 23) := Lib.hid (Var.fresh R.out.two (by rw [hw_]; exact heap_alloc_new _ _) (Nat.le_refl _))
  clear V_A lt_A c_A_0 f_A_0 c_A_1 f_A_1 c_A_2 f_A_2 c_A_3 f_A_3 c_A_4 f_A_4 c_A_5 f_A_5 c_A_6 f_A_6 c_A_7 f_A_7
  have V_A := n_A
  clear n_A
  have lt_A : w.heap.size < a2.heap.size := blk_lt V_A.out.blk
  have c_A_0 : a2.cell? ⟨w.heap.size, 0, none⟩ = some (.int .i64 o) := (blk_cell V_A.out.blk 0).trans rfl
  have f_A_0 : a2.frozen? ⟨w.heap.size, 0, none⟩ = false := blk_frozen V_A.out.blk 0
  have c_A_1 : a2.cell? ⟨w.heap.size, 1, none⟩ = some (.int .i64 n) := (blk_cell V_A.out.blk 1).trans rfl
  have f_A_1 : a2.frozen? ⟨w.heap.size, 1, none⟩ = false := blk_frozen V_A.out.blk 1
  have c_A_2 : a2.cell? ⟨w.heap.size, 2, none⟩ = some (.int .i64 a) := (blk_cell V_A.out.blk 2).trans rfl
  have f_A_2 : a2.frozen? ⟨w.heap.size, 2, none⟩ = false := blk_frozen V_A.out.blk 2
  have c_A_3 : a2.cell? ⟨w.heap.size, 3, none⟩ = some (.int .i64 an) := (blk_cell V_A.out.blk 3).trans rfl
  have f_A_3 : a2.frozen? ⟨w.heap.size, 3, none⟩ = false := blk_frozen V_A.out.blk 3
  have c_A_4 : a2.cell? ⟨w.heap.size, 4, none⟩ = some (.int .i64 i) := (blk_cell V_A.out.blk 4).trans rfl
  have f_A_4 : a2.frozen? ⟨w.heap.size, 4, none⟩ = false := blk_frozen V_A.out.blk 4
  have c_A_5 : a2.cell? ⟨w.heap.size, 5, none⟩ = some (.int .i64 ii) := (blk_cell V_A.out.blk 5).trans rfl
  have f_A_5 : a2.frozen? ⟨w.heap.size, 5, none⟩ = false := blk_frozen V_A.out.blk 5
  have c_A_6 : a2.cell? ⟨w.heap.size, 6, none⟩ = some (.int .i64 v) := (blk_cell V_A.out.blk 6).trans rfl
  have f_A_6 : a2.frozen? ⟨w.heap.size, 6, none⟩ = false := blk_frozen V_A.out.blk 6
  have c_A_7 : a2.cell? ⟨w.heap.size, 7, none⟩ = some (.int .i64 vn) := (blk_cell V_A.out.blk 7).trans rfl
  have f_A_7 : a2.frozen? ⟨w.heap.size, 7, none⟩ = false := blk_frozen V_A.out.blk 7
  have V_x := n_x
  clear n_x
  have lt_x : w_2.heap.size < a2.heap.size := blk_lt V_x.out.blk
  have c_x_0 : a2.cell? ⟨w_2.heap.size, 0, none⟩ = some (.int .i64 x0) := (blk_cell V_x.out.blk 0).trans rfl
  have f_x_0 : a2.frozen? ⟨w_2.heap.size, 0, none⟩ = false := blk_frozen V_x.out.blk 0
  have c_x_1 : a2.cell? ⟨w_2.heap.size, 1, none⟩ = some (.int .i64 x1) := (blk_cell V_x.out.blk 1).trans rfl
  have f_x_1 : a2.frozen? ⟨w_2.heap.size, 1, none⟩ = false := blk_frozen V_x.out.blk 1
  have nR := Lib.hid (R.out.below hb_)
  clear R
  have R := nR
  clear nR
  clear hb_ hw_
  have CA2 := Lib.hid c_A_2
  have CA3 := Lib.hid c_A_3
  have CA4 := Lib.hid c_A_4
  have CA5 := Lib.hid c_A_5
  refine start_ (n := 14) (S := fun w' => w'.cell? ⟨w.heap.size, 2, none⟩ = some (.int .i64 a) ∧ w'.cell? ⟨w.heap.size, 3, none⟩ = some (.int .i64 an) ∧ w'.cell? ⟨w.heap.size, 4, none⟩ = some (.int .i64 i) ∧ w'.cell? ⟨w.heap.size, 5, none⟩ = some (.int .i64 ii)) (ds := [12]) #[false, false, false, false, false, false, false, false, false, false, false, false, false, false] (by kernel_rfl) rfl rfl ⟨cell_drew (CA2.out), cell_drew (CA3.out), cell_drew (CA4.out), cell_drew (CA5.out)⟩ (fun hHeld => ?_)
  refine pure_ (i := 0) (N := some 64) (v := ?_) (a' := ?_) #[true, false, false, false, false, false, false, false, false, false, false, false, false, false] rfl rfl (by kernel_rfl) (fun _ _ _ h => h) (Or.inl ⟨by rfl, ?_⟩) ?_ ?_
  rotate_left
  · intro w'
    go_simp
    with_reducible rfl
  rotate_left
  · simp only [Act.put, List.setIfInBounds_toArray, List.set_cons_zero, List.set_cons_succ, i64_w, i32_w]
    rfl
  refine pure_ (i := 1) (N := some 65) (v := ?_) (a' := ?_) #[true, true, false, false, false, false, false, false, false, false, false, false, false, false] rfl rfl (by kernel_rfl) (fun _ _ _ h => h) (Or.inl ⟨by rfl, ?_⟩) ?_ ?_
  rotate_left
  · intro w'
    go_simp
    with_reducible rfl
  rotate_left
  · simp only [Act.put, List.setIfInBounds_toArray, List.set_cons_zero, List.set_cons_succ, i64_w, i32_w]
    rfl
  refine pure_ (i := 4) (N := some 68) (v := ?_) (a' := ?_) #[true, true, false, false, true, false, false, false, false, false, false, false, false, false] rfl rfl (by kernel_rfl) (fun _ _ _ h => h) (Or.inl ⟨by rfl, ?_⟩) ?_ ?_
  rotate_left
  · intro w'
    go_simp
    with_reducible rfl
  rotate_left
  · simp only [Act.put, List.setIfInBounds_toArray, List.set_cons_zero, List.set_cons_succ, i64_w, i32_w]
    rfl
  refine take_ (i := 2) (N := some 66) (v := ?_) (a' := ?_) #[true, true, true, false, true, false, false, false, false, false, false, false, false, false] rfl rfl (by kernel_rfl) (fun _ _ _ h => h) (Or.inl ⟨by rfl, ?_⟩) hHeld ?_ ?_
  rotate_left
  · rintro w' ⟨s0, s1, s2, s3⟩
    go_simp
    with_reducible rfl
  rotate_left
  · simp only [Act.put, List.setIfInBounds_toArray, List.set_cons_zero, List.set_cons_succ, i64_w, i32_w]
    rfl
  refine take_ (i := 5) (N := some 69) (v := ?_) (a' := ?_) #[true, true, true, false, true, true, false, false, false, false, false, false, false, false] rfl rfl (by kernel_rfl) (fun _ _ _ h => h) (Or.inl ⟨by rfl, ?_⟩) hHeld ?_ ?_
  rotate_left
  · rintro w' ⟨s0, s1, s2, s3⟩
    go_simp
    with_reducible rfl
  rotate_left
  · simp only [Act.put, List.setIfInBounds_toArray, List.set_cons_zero, List.set_cons_succ, i64_w, i32_w]
    rfl
  refine join_ (σ := Nat) 2 #[true, true, true, true, true, true, true, true, true, true, true, true, false, false] (fun s => [(67, .agg #[.int .i64 a, .int .i64 an]), (70, .agg #[.int .i64 i, .int .i64 ii]), (71, .tuple #[.agg #[.int .i64 x0, .int .i64 x1], .int .i64 r1]), (63, .tuple #[.agg #[.int .i64 x0, .int .i64 x1], .int .i64 r1]), (72, .agg #[.int .i64 x0, .int .i64 x1]), (73, .int .i64 r1), (15, .pointer (some ⟨s, 0, none⟩))]) (fun s w' => Below a2.heap.size a2 w' ∧ w'.heap[s]? = some (.cells #[.int .i64 0, .int .i64 0] 27 (0, 0)) ∧ a2.heap.size ≤ s) ?_ ?_
  rotate_left
  · intro hCont
    refine two_ (i := 3) (j := 11) (Ni := some 67) (Nj := some 15) #[true, true, true, true, true, true, false, false, false, false, false, false, false, false] #[true, true, true, false, true, true, false, false, false, false, false, true, false, false] rfl rfl rfl rfl (by kernel_rfl) (by decide) (by decide) (fun K hK => ?_) (fun K hK => ?_)
    · skip
      refine goes_ Try.func12 (by kernel_rfl) rfl #[.agg #[.int .i64 a, .int .i64 an]] (by rfl) rfl rfl (by simp only [List.map_toArray, List.map_cons, List.map_nil]; rfl) ?_
      with_reducible refine (runnellaw9_as.calls a an a an _ rfl).mono ?_
      rintro e w_p3 ⟨rfl, hb_⟩
      refine ⟨_, rfl, ?_⟩
      have B_p3 := Lib.hid (below_step ((below_drew (Below.refl a2.heap.size a2))) hb_)
      clear hb_
      refine hK.out _ _ ⟨pw_cell_below B_p3.out CA2.out, pw_cell_below B_p3.out CA3.out, pw_cell_below B_p3.out CA4.out, pw_cell_below B_p3.out CA5.out⟩ (fun hHeld => ?_)
      clear hK K
      refine norm_ (a' := ?_) ?_ ?_
      rotate_left
      · show Act.put _ (some 67) _ = _
        simp only [Act.put, List.setIfInBounds_toArray, List.set_cons_zero, List.set_cons_succ, i64_w, i32_w]
        rfl
      refine two_ (i := 6) (j := 11) (Ni := some 70) (Nj := some 15) #[true, true, true, true, true, true, true, false, false, false, false, false, false, false] #[true, true, true, true, true, true, false, false, false, false, false, true, false, false] rfl rfl rfl rfl (by kernel_rfl) (by decide) (by decide) (fun K hK => ?_) (fun K hK => ?_)
      · skip
        refine goes_ Try.func12 (by kernel_rfl) rfl #[.agg #[.int .i64 i, .int .i64 ii]] (by rfl) rfl rfl (by simp only [List.map_toArray, List.map_cons, List.map_nil]; rfl) ?_
        with_reducible refine (runnellaw9_as.calls i ii i ii _ rfl).mono ?_
        rintro e w_p3_6 ⟨rfl, hb_⟩
        refine ⟨_, rfl, ?_⟩
        have B_p3_6 := Lib.hid (below_step (B_p3.out) hb_)
        clear hb_
        refine hK.out _ _ ⟨pw_cell_below B_p3_6.out CA2.out, pw_cell_below B_p3_6.out CA3.out, pw_cell_below B_p3_6.out CA4.out, pw_cell_below B_p3_6.out CA5.out⟩ (fun hHeld => ?_)
        clear hK K
        refine norm_ (a' := ?_) ?_ ?_
        rotate_left
        · show Act.put _ (some 70) _ = _
          simp only [Act.put, List.setIfInBounds_toArray, List.set_cons_zero, List.set_cons_succ, i64_w, i32_w]
          rfl
        refine two_ (i := 7) (j := 11) (Ni := some 71) (Nj := some 15) #[true, true, true, true, true, true, true, true, false, false, false, false, false, false] #[true, true, true, true, true, true, true, false, false, false, false, true, false, false] rfl rfl rfl rfl (by kernel_rfl) (by decide) (by decide) (fun K hK => ?_) (fun K hK => ?_)
        · skip
          refine goes_ Try.func41 (by kernel_rfl) rfl #[.pointer (some ⟨Bm, 0, none⟩), .agg #[.int .i64 a, .int .i64 an], .agg #[.int .i64 i, .int .i64 ii]] (by rfl) rfl rfl (by simp only [List.map_toArray, List.map_cons, List.map_nil]; rfl) ?_
          with_reducible refine (run_getM (R.out.below (B_p3_6.out)) a an i ii HY.out).mono ?_
          rintro e w_p3_6_7 ⟨rfl, hb_⟩
          refine ⟨_, rfl, ?_⟩
          have B_p3_6_7 := Lib.hid (below_step (B_p3_6.out) hb_)
          clear hb_
          refine hK.out _ _ ⟨pw_cell_below B_p3_6_7.out CA2.out, pw_cell_below B_p3_6_7.out CA3.out, pw_cell_below B_p3_6_7.out CA4.out, pw_cell_below B_p3_6_7.out CA5.out⟩ (fun hHeld => ?_)
          clear hK K
          refine norm_ (a' := ?_) ?_ ?_
          rotate_left
          · show Act.put _ (some 71) _ = _
            simp only [Act.put, List.setIfInBounds_toArray, List.set_cons_zero, List.set_cons_succ, i64_w, i32_w]
            rfl
          refine pure_ (i := 8) (N := some 63) (v := ?_) (a' := ?_) #[true, true, true, true, true, true, true, true, true, false, false, false, false, false] rfl rfl (by kernel_rfl) (fun _ _ _ h => h) (Or.inl ⟨by rfl, ?_⟩) ?_ ?_
          rotate_left
          · intro w'
            go_simp
            with_reducible rfl
          rotate_left
          · simp only [Act.put, List.setIfInBounds_toArray, List.set_cons_zero, List.set_cons_succ, i64_w, i32_w]
            rfl
          refine pure_ (i := 9) (N := some 72) (v := ?_) (a' := ?_) #[true, true, true, true, true, true, true, true, true, true, false, false, false, false] rfl rfl (by kernel_rfl) (fun _ _ _ h => h) (Or.inl ⟨by rfl, ?_⟩) ?_ ?_
          rotate_left
          · intro w'
            go_simp
            with_reducible rfl
          rotate_left
          · simp only [Act.put, List.setIfInBounds_toArray, List.set_cons_zero, List.set_cons_succ, i64_w, i32_w]
            rfl
          refine pure_ (i := 10) (N := some 73) (v := ?_) (a' := ?_) #[true, true, true, true, true, true, true, true, true, true, true, false, false, false] rfl rfl (by kernel_rfl) (fun _ _ _ h => h) (Or.inl ⟨by rfl, ?_⟩) ?_ ?_
          rotate_left
          · intro w'
            go_simp
            with_reducible rfl
          rotate_left
          · simp only [Act.put, List.setIfInBounds_toArray, List.set_cons_zero, List.set_cons_succ, i64_w, i32_w]
            rfl
          refine one_ (i := 11) (N := some 15) #[true, true, true, true, true, true, true, true, true, true, true, true, false, false] rfl rfl (by kernel_rfl) (by decide) (fun K hK => ?_)
          refine value_ (w1 := ?_) (v := ?_) (by rfl) rfl ?_ ?_
          rotate_left 2
          · go_simp
            constructor
            · rfl
            · rfl
          have B_p3_6_7_11 := Lib.hid (below_alloc (B_p3_6_7.out) (.cells #[.int .i64 0, .int .i64 0] 27))
          have N_p3_6_7_11 : Hid ((w_p3_6_7.alloc (.cells #[.int .i64 0, .int .i64 0] 27)).heap[w_p3_6_7.heap.size]? = some (.cells #[.int .i64 0, .int .i64 0] 27 (0, 0))) := Lib.hid (heap_alloc_new w_p3_6_7 _)
          have LE_N_p3_6_7_11 : Hid (a2.heap.size ≤ w_p3_6_7.heap.size) := Lib.hid ((B_p3_6_7.out).size)
          refine hK.out _ _ ⟨pw_cell_below B_p3_6_7_11.out CA2.out, pw_cell_below B_p3_6_7_11.out CA3.out, pw_cell_below B_p3_6_7_11.out CA4.out, pw_cell_below B_p3_6_7_11.out CA5.out⟩ (fun hHeld => ?_)
          clear hK K
          refine norm_ (a' := ?_) ?_ ?_
          rotate_left
          · show Act.put _ (some 15) _ = _
            simp only [Act.put, List.setIfInBounds_toArray, List.set_cons_zero, List.set_cons_succ, i64_w, i32_w]
            rfl
          exact norm_ (by simp only [putAll, Act.put, List.setIfInBounds_toArray, List.set_cons_zero, List.set_cons_succ]) (hCont w_p3_6_7.heap.size _ ⟨B_p3_6_7_11.out, N_p3_6_7_11.out, LE_N_p3_6_7_11.out⟩)
        · skip
          refine value_ (w1 := ?_) (v := ?_) (by rfl) rfl ?_ ?_
          rotate_left 2
          · go_simp
            constructor
            · rfl
            · rfl
          have B_p3_6_11 := Lib.hid (below_alloc (B_p3_6.out) (.cells #[.int .i64 0, .int .i64 0] 27))
          have N_p3_6_11 : Hid ((w_p3_6.alloc (.cells #[.int .i64 0, .int .i64 0] 27)).heap[w_p3_6.heap.size]? = some (.cells #[.int .i64 0, .int .i64 0] 27 (0, 0))) := Lib.hid (heap_alloc_new w_p3_6 _)
          have LE_N_p3_6_11 : Hid (a2.heap.size ≤ w_p3_6.heap.size) := Lib.hid ((B_p3_6.out).size)
          refine hK.out _ _ ⟨pw_cell_below B_p3_6_11.out CA2.out, pw_cell_below B_p3_6_11.out CA3.out, pw_cell_below B_p3_6_11.out CA4.out, pw_cell_below B_p3_6_11.out CA5.out⟩ (fun hHeld => ?_)
          clear hK K
          refine norm_ (a' := ?_) ?_ ?_
          rotate_left
          · show Act.put _ (some 15) _ = _
            simp only [Act.put, List.setIfInBounds_toArray, List.set_cons_zero, List.set_cons_succ, i64_w, i32_w]
            rfl
          refine one_ (i := 7) (N := some 71) #[true, true, true, true, true, true, true, true, false, false, false, true, false, false] rfl rfl (by kernel_rfl) (by decide) (fun K hK => ?_)
          refine goes_ Try.func41 (by kernel_rfl) rfl #[.pointer (some ⟨Bm, 0, none⟩), .agg #[.int .i64 a, .int .i64 an], .agg #[.int .i64 i, .int .i64 ii]] (by rfl) rfl rfl (by simp only [List.map_toArray, List.map_cons, List.map_nil]; rfl) ?_
          with_reducible refine (run_getM (R.out.below (B_p3_6_11.out)) a an i ii HY.out).mono ?_
          rintro e w_p3_6_11_7 ⟨rfl, hb_⟩
          refine ⟨_, rfl, ?_⟩
          have B_p3_6_11_7 := Lib.hid (below_step (B_p3_6_11.out) hb_)
          have N_p3_6_11_7 := Lib.hid (blk_below N_p3_6_11.out hb_)
          have LE_N_p3_6_11_7 := Lib.hid LE_N_p3_6_11.out
          clear hb_
          refine hK.out _ _ ⟨pw_cell_below B_p3_6_11_7.out CA2.out, pw_cell_below B_p3_6_11_7.out CA3.out, pw_cell_below B_p3_6_11_7.out CA4.out, pw_cell_below B_p3_6_11_7.out CA5.out⟩ (fun hHeld => ?_)
          clear hK K
          refine norm_ (a' := ?_) ?_ ?_
          rotate_left
          · show Act.put _ (some 71) _ = _
            simp only [Act.put, List.setIfInBounds_toArray, List.set_cons_zero, List.set_cons_succ, i64_w, i32_w]
            rfl
          refine pure_ (i := 8) (N := some 63) (v := ?_) (a' := ?_) #[true, true, true, true, true, true, true, true, true, false, false, true, false, false] rfl rfl (by kernel_rfl) (fun _ _ _ h => h) (Or.inl ⟨by rfl, ?_⟩) ?_ ?_
          rotate_left
          · intro w'
            go_simp
            with_reducible rfl
          rotate_left
          · simp only [Act.put, List.setIfInBounds_toArray, List.set_cons_zero, List.set_cons_succ, i64_w, i32_w]
            rfl
          refine pure_ (i := 9) (N := some 72) (v := ?_) (a' := ?_) #[true, true, true, true, true, true, true, true, true, true, false, true, false, false] rfl rfl (by kernel_rfl) (fun _ _ _ h => h) (Or.inl ⟨by rfl, ?_⟩) ?_ ?_
          rotate_left
          · intro w'
            go_simp
            with_reducible rfl
          rotate_left
          · simp only [Act.put, List.setIfInBounds_toArray, List.set_cons_zero, List.set_cons_succ, i64_w, i32_w]
            rfl
          refine pure_ (i := 10) (N := some 73) (v := ?_) (a' := ?_) #[true, true, true, true, true, true, true, true, true, true, true, true, false, false] rfl rfl (by kernel_rfl) (fun _ _ _ h => h) (Or.inl ⟨by rfl, ?_⟩) ?_ ?_
          rotate_left
          · intro w'
            go_simp
            with_reducible rfl
          rotate_left
          · simp only [Act.put, List.setIfInBounds_toArray, List.set_cons_zero, List.set_cons_succ, i64_w, i32_w]
            rfl
          exact norm_ (by simp only [putAll, Act.put, List.setIfInBounds_toArray, List.set_cons_zero, List.set_cons_succ]) (hCont w_p3_6.heap.size _ ⟨B_p3_6_11_7.out, N_p3_6_11_7.out, LE_N_p3_6_11_7.out⟩)
      · skip
        refine value_ (w1 := ?_) (v := ?_) (by rfl) rfl ?_ ?_
        rotate_left 2
        · go_simp
          constructor
          · rfl
          · rfl
        have B_p3_11 := Lib.hid (below_alloc (B_p3.out) (.cells #[.int .i64 0, .int .i64 0] 27))
        have N_p3_11 : Hid ((w_p3.alloc (.cells #[.int .i64 0, .int .i64 0] 27)).heap[w_p3.heap.size]? = some (.cells #[.int .i64 0, .int .i64 0] 27 (0, 0))) := Lib.hid (heap_alloc_new w_p3 _)
        have LE_N_p3_11 : Hid (a2.heap.size ≤ w_p3.heap.size) := Lib.hid ((B_p3.out).size)
        refine hK.out _ _ ⟨pw_cell_below B_p3_11.out CA2.out, pw_cell_below B_p3_11.out CA3.out, pw_cell_below B_p3_11.out CA4.out, pw_cell_below B_p3_11.out CA5.out⟩ (fun hHeld => ?_)
        clear hK K
        refine norm_ (a' := ?_) ?_ ?_
        rotate_left
        · show Act.put _ (some 15) _ = _
          simp only [Act.put, List.setIfInBounds_toArray, List.set_cons_zero, List.set_cons_succ, i64_w, i32_w]
          rfl
        refine one_ (i := 6) (N := some 70) #[true, true, true, true, true, true, true, false, false, false, false, true, false, false] rfl rfl (by kernel_rfl) (by decide) (fun K hK => ?_)
        refine goes_ Try.func12 (by kernel_rfl) rfl #[.agg #[.int .i64 i, .int .i64 ii]] (by rfl) rfl rfl (by simp only [List.map_toArray, List.map_cons, List.map_nil]; rfl) ?_
        with_reducible refine (runnellaw9_as.calls i ii i ii _ rfl).mono ?_
        rintro e w_p3_11_6 ⟨rfl, hb_⟩
        refine ⟨_, rfl, ?_⟩
        have B_p3_11_6 := Lib.hid (below_step (B_p3_11.out) hb_)
        have N_p3_11_6 := Lib.hid (blk_below N_p3_11.out hb_)
        have LE_N_p3_11_6 := Lib.hid LE_N_p3_11.out
        clear hb_
        refine hK.out _ _ ⟨pw_cell_below B_p3_11_6.out CA2.out, pw_cell_below B_p3_11_6.out CA3.out, pw_cell_below B_p3_11_6.out CA4.out, pw_cell_below B_p3_11_6.out CA5.out⟩ (fun hHeld => ?_)
        clear hK K
        refine norm_ (a' := ?_) ?_ ?_
        rotate_left
        · show Act.put _ (some 70) _ = _
          simp only [Act.put, List.setIfInBounds_toArray, List.set_cons_zero, List.set_cons_succ, i64_w, i32_w]
          rfl
        refine one_ (i := 7) (N := some 71) #[true, true, true, true, true, true, true, true, false, false, false, true, false, false] rfl rfl (by kernel_rfl) (by decide) (fun K hK => ?_)
        refine goes_ Try.func41 (by kernel_rfl) rfl #[.pointer (some ⟨Bm, 0, none⟩), .agg #[.int .i64 a, .int .i64 an], .agg #[.int .i64 i, .int .i64 ii]] (by rfl) rfl rfl (by simp only [List.map_toArray, List.map_cons, List.map_nil]; rfl) ?_
        with_reducible refine (run_getM (R.out.below (B_p3_11_6.out)) a an i ii HY.out).mono ?_
        rintro e w_p3_11_6_7 ⟨rfl, hb_⟩
        refine ⟨_, rfl, ?_⟩
        have B_p3_11_6_7 := Lib.hid (below_step (B_p3_11_6.out) hb_)
        have N_p3_11_6_7 := Lib.hid (blk_below N_p3_11_6.out hb_)
        have LE_N_p3_11_6_7 := Lib.hid LE_N_p3_11_6.out
        clear hb_
        refine hK.out _ _ ⟨pw_cell_below B_p3_11_6_7.out CA2.out, pw_cell_below B_p3_11_6_7.out CA3.out, pw_cell_below B_p3_11_6_7.out CA4.out, pw_cell_below B_p3_11_6_7.out CA5.out⟩ (fun hHeld => ?_)
        clear hK K
        refine norm_ (a' := ?_) ?_ ?_
        rotate_left
        · show Act.put _ (some 71) _ = _
          simp only [Act.put, List.setIfInBounds_toArray, List.set_cons_zero, List.set_cons_succ, i64_w, i32_w]
          rfl
        refine pure_ (i := 8) (N := some 63) (v := ?_) (a' := ?_) #[true, true, true, true, true, true, true, true, true, false, false, true, false, false] rfl rfl (by kernel_rfl) (fun _ _ _ h => h) (Or.inl ⟨by rfl, ?_⟩) ?_ ?_
        rotate_left
        · intro w'
          go_simp
          with_reducible rfl
        rotate_left
        · simp only [Act.put, List.setIfInBounds_toArray, List.set_cons_zero, List.set_cons_succ, i64_w, i32_w]
          rfl
        refine pure_ (i := 9) (N := some 72) (v := ?_) (a' := ?_) #[true, true, true, true, true, true, true, true, true, true, false, true, false, false] rfl rfl (by kernel_rfl) (fun _ _ _ h => h) (Or.inl ⟨by rfl, ?_⟩) ?_ ?_
        rotate_left
        · intro w'
          go_simp
          with_reducible rfl
        rotate_left
        · simp only [Act.put, List.setIfInBounds_toArray, List.set_cons_zero, List.set_cons_succ, i64_w, i32_w]
          rfl
        refine pure_ (i := 10) (N := some 73) (v := ?_) (a' := ?_) #[true, true, true, true, true, true, true, true, true, true, true, true, false, false] rfl rfl (by kernel_rfl) (fun _ _ _ h => h) (Or.inl ⟨by rfl, ?_⟩) ?_ ?_
        rotate_left
        · intro w'
          go_simp
          with_reducible rfl
        rotate_left
        · simp only [Act.put, List.setIfInBounds_toArray, List.set_cons_zero, List.set_cons_succ, i64_w, i32_w]
          rfl
        exact norm_ (by simp only [putAll, Act.put, List.setIfInBounds_toArray, List.set_cons_zero, List.set_cons_succ]) (hCont w_p3.heap.size _ ⟨B_p3_11_6_7.out, N_p3_11_6_7.out, LE_N_p3_11_6_7.out⟩)
    · skip
      refine value_ (w1 := ?_) (v := ?_) (by rfl) rfl ?_ ?_
      rotate_left 2
      · go_simp
        constructor
        · rfl
        · rfl
      have B_p11 := Lib.hid (below_alloc ((below_drew (Below.refl a2.heap.size a2))) (.cells #[.int .i64 0, .int .i64 0] 27))
      have N_p11 : Hid ((a2.drew.alloc (.cells #[.int .i64 0, .int .i64 0] 27)).heap[a2.heap.size]? = some (.cells #[.int .i64 0, .int .i64 0] 27 (0, 0))) := Lib.hid (heap_alloc_new a2.drew _)
      have LE_N_p11 : Hid (a2.heap.size ≤ a2.heap.size) := Lib.hid (Nat.le_refl _)
      refine hK.out _ _ ⟨pw_cell_below B_p11.out CA2.out, pw_cell_below B_p11.out CA3.out, pw_cell_below B_p11.out CA4.out, pw_cell_below B_p11.out CA5.out⟩ (fun hHeld => ?_)
      clear hK K
      refine norm_ (a' := ?_) ?_ ?_
      rotate_left
      · show Act.put _ (some 15) _ = _
        simp only [Act.put, List.setIfInBounds_toArray, List.set_cons_zero, List.set_cons_succ, i64_w, i32_w]
        rfl
      refine one_ (i := 3) (N := some 67) #[true, true, true, true, true, true, false, false, false, false, false, true, false, false] rfl rfl (by kernel_rfl) (by decide) (fun K hK => ?_)
      refine goes_ Try.func12 (by kernel_rfl) rfl #[.agg #[.int .i64 a, .int .i64 an]] (by rfl) rfl rfl (by simp only [List.map_toArray, List.map_cons, List.map_nil]; rfl) ?_
      with_reducible refine (runnellaw9_as.calls a an a an _ rfl).mono ?_
      rintro e w_p11_3 ⟨rfl, hb_⟩
      refine ⟨_, rfl, ?_⟩
      have B_p11_3 := Lib.hid (below_step (B_p11.out) hb_)
      have N_p11_3 := Lib.hid (blk_below N_p11.out hb_)
      have LE_N_p11_3 := Lib.hid LE_N_p11.out
      clear hb_
      refine hK.out _ _ ⟨pw_cell_below B_p11_3.out CA2.out, pw_cell_below B_p11_3.out CA3.out, pw_cell_below B_p11_3.out CA4.out, pw_cell_below B_p11_3.out CA5.out⟩ (fun hHeld => ?_)
      clear hK K
      refine norm_ (a' := ?_) ?_ ?_
      rotate_left
      · show Act.put _ (some 67) _ = _
        simp only [Act.put, List.setIfInBounds_toArray, List.set_cons_zero, List.set_cons_succ, i64_w, i32_w]
        rfl
      refine one_ (i := 6) (N := some 70) #[true, true, true, true, true, true, true, false, false, false, false, true, false, false] rfl rfl (by kernel_rfl) (by decide) (fun K hK => ?_)
      refine goes_ Try.func12 (by kernel_rfl) rfl #[.agg #[.int .i64 i, .int .i64 ii]] (by rfl) rfl rfl (by simp only [List.map_toArray, List.map_cons, List.map_nil]; rfl) ?_
      with_reducible refine (runnellaw9_as.calls i ii i ii _ rfl).mono ?_
      rintro e w_p11_3_6 ⟨rfl, hb_⟩
      refine ⟨_, rfl, ?_⟩
      have B_p11_3_6 := Lib.hid (below_step (B_p11_3.out) hb_)
      have N_p11_3_6 := Lib.hid (blk_below N_p11_3.out hb_)
      have LE_N_p11_3_6 := Lib.hid LE_N_p11_3.out
      clear hb_
      refine hK.out _ _ ⟨pw_cell_below B_p11_3_6.out CA2.out, pw_cell_below B_p11_3_6.out CA3.out, pw_cell_below B_p11_3_6.out CA4.out, pw_cell_below B_p11_3_6.out CA5.out⟩ (fun hHeld => ?_)
      clear hK K
      refine norm_ (a' := ?_) ?_ ?_
      rotate_left
      · show Act.put _ (some 70) _ = _
        simp only [Act.put, List.setIfInBounds_toArray, List.set_cons_zero, List.set_cons_succ, i64_w, i32_w]
        rfl
      refine one_ (i := 7) (N := some 71) #[true, true, true, true, true, true, true, true, false, false, false, true, false, false] rfl rfl (by kernel_rfl) (by decide) (fun K hK => ?_)
      refine goes_ Try.func41 (by kernel_rfl) rfl #[.pointer (some ⟨Bm, 0, none⟩), .agg #[.int .i64 a, .int .i64 an], .agg #[.int .i64 i, .int .i64 ii]] (by rfl) rfl rfl (by simp only [List.map_toArray, List.map_cons, List.map_nil]; rfl) ?_
      with_reducible refine (run_getM (R.out.below (B_p11_3_6.out)) a an i ii HY.out).mono ?_
      rintro e w_p11_3_6_7 ⟨rfl, hb_⟩
      refine ⟨_, rfl, ?_⟩
      have B_p11_3_6_7 := Lib.hid (below_step (B_p11_3_6.out) hb_)
      have N_p11_3_6_7 := Lib.hid (blk_below N_p11_3_6.out hb_)
      have LE_N_p11_3_6_7 := Lib.hid LE_N_p11_3_6.out
      clear hb_
      refine hK.out _ _ ⟨pw_cell_below B_p11_3_6_7.out CA2.out, pw_cell_below B_p11_3_6_7.out CA3.out, pw_cell_below B_p11_3_6_7.out CA4.out, pw_cell_below B_p11_3_6_7.out CA5.out⟩ (fun hHeld => ?_)
      clear hK K
      refine norm_ (a' := ?_) ?_ ?_
      rotate_left
      · show Act.put _ (some 71) _ = _
        simp only [Act.put, List.setIfInBounds_toArray, List.set_cons_zero, List.set_cons_succ, i64_w, i32_w]
        rfl
      refine pure_ (i := 8) (N := some 63) (v := ?_) (a' := ?_) #[true, true, true, true, true, true, true, true, true, false, false, true, false, false] rfl rfl (by kernel_rfl) (fun _ _ _ h => h) (Or.inl ⟨by rfl, ?_⟩) ?_ ?_
      rotate_left
      · intro w'
        go_simp
        with_reducible rfl
      rotate_left
      · simp only [Act.put, List.setIfInBounds_toArray, List.set_cons_zero, List.set_cons_succ, i64_w, i32_w]
        rfl
      refine pure_ (i := 9) (N := some 72) (v := ?_) (a' := ?_) #[true, true, true, true, true, true, true, true, true, true, false, true, false, false] rfl rfl (by kernel_rfl) (fun _ _ _ h => h) (Or.inl ⟨by rfl, ?_⟩) ?_ ?_
      rotate_left
      · intro w'
        go_simp
        with_reducible rfl
      rotate_left
      · simp only [Act.put, List.setIfInBounds_toArray, List.set_cons_zero, List.set_cons_succ, i64_w, i32_w]
        rfl
      refine pure_ (i := 10) (N := some 73) (v := ?_) (a' := ?_) #[true, true, true, true, true, true, true, true, true, true, true, true, false, false] rfl rfl (by kernel_rfl) (fun _ _ _ h => h) (Or.inl ⟨by rfl, ?_⟩) ?_ ?_
      rotate_left
      · intro w'
        go_simp
        with_reducible rfl
      rotate_left
      · simp only [Act.put, List.setIfInBounds_toArray, List.set_cons_zero, List.set_cons_succ, i64_w, i32_w]
        rfl
      exact norm_ (by simp only [putAll, Act.put, List.setIfInBounds_toArray, List.set_cons_zero, List.set_cons_succ]) (hCont a2.heap.size _ ⟨B_p11_3_6_7.out, N_p11_3_6_7.out, LE_N_p11_3_6_7.out⟩)
  rintro sp wFp ⟨hF1p, hF2p, hF3p⟩
  have hHeld := True.intro
  refine norm_ (a' := ?_) ?_ ?_
  rotate_left
  · simp only [putAll, Act.put, List.setIfInBounds_toArray, List.set_cons_zero, List.set_cons_succ]
    rfl
  refine last_ (i := 12) (N := none) #[true, true, true, true, true, true, true, true, true, true, true, true, true, false] rfl rfl (by kernel_rfl) (by decide) (fun K hK => ?_)
  have cv0 := (blk_cell hF2p 0).trans rfl
  have cv1 := (blk_cell hF2p 1).trans rfl
  have fv0 := blk_frozen hF2p 0
  have fv1 := blk_frozen hF2p 1
  refine skip_ (w1 := ?_) (by rfl) rfl ?_ ?_
  rotate_left
  · go_simp
    rfl
  refine hK.out _ _ ?_
  clear hK K
  refine pure_ (i := 13) (N := some 16) (v := ?_) (a' := ?_) #[true, true, true, true, true, true, true, true, true, true, true, true, true, true] rfl rfl (by kernel_rfl) (fun _ _ _ h => h) (Or.inl ⟨by rfl, ?_⟩) ?_ ?_
  rotate_left
  · intro w'
    go_simp
    with_reducible rfl
  rotate_left
  · simp only [Act.put, List.setIfInBounds_toArray, List.set_cons_zero, List.set_cons_succ, i64_w, i32_w]
    rfl
  refine done_ (by kernel_rfl) ?_
  clear cv0 cv1 fv0 fv1 CA2 CA3 CA4 CA5
  obtain ⟨a3, hw_⟩ : ∃ W_, W_ = (wFp.setCell ⟨sp, 0, none⟩ (.int .i64 x0)).setCell ⟨sp, 1, none⟩ (.int .i64 x1) := ⟨_, rfl⟩
  rw [← hw_]
  have hb_ : Below a2.heap.size a2 a3 := by rw [hw_]; exact Below.setCell (Below.setCell (hF1p) (p := ⟨sp, _, none⟩) hF3p _) (p := ⟨sp, _, none⟩) hF3p _
  have n_A : Hid (Var a3 okh okm w.heap.size #[.int .i64 o, .int .i64 n, .int .i64 a, .int .i64 an, .int .i64 i, .int .i64 ii, .int .i64 v, .int .i64 vn] 53) := Lib.hid (V_A.out.below hb_)
  have n_x : Hid (Var a3 okh okm w_2.heap.size #[.int .i64 x0, .int .i64 x1] 23) := Lib.hid (V_x.out.below hb_)
  have n_y : Hid (Var a3 okh okm sp #[.int .i64 x0, .int .i64 x1] 27) := Lib.hid (Var.fresh R.out.two (by rw [hw_]; exact blk_put (blk_put (hF2p) 0 _ rfl) 1 _ rfl) hF3p)
  clear V_A lt_A c_A_0 f_A_0 c_A_1 f_A_1 c_A_2 f_A_2 c_A_3 f_A_3 c_A_4 f_A_4 c_A_5 f_A_5 c_A_6 f_A_6 c_A_7 f_A_7 V_x lt_x c_x_0 f_x_0 c_x_1 f_x_1
  have V_A := n_A
  clear n_A
  have lt_A : w.heap.size < a3.heap.size := blk_lt V_A.out.blk
  have c_A_0 : a3.cell? ⟨w.heap.size, 0, none⟩ = some (.int .i64 o) := (blk_cell V_A.out.blk 0).trans rfl
  have f_A_0 : a3.frozen? ⟨w.heap.size, 0, none⟩ = false := blk_frozen V_A.out.blk 0
  have c_A_1 : a3.cell? ⟨w.heap.size, 1, none⟩ = some (.int .i64 n) := (blk_cell V_A.out.blk 1).trans rfl
  have f_A_1 : a3.frozen? ⟨w.heap.size, 1, none⟩ = false := blk_frozen V_A.out.blk 1
  have c_A_2 : a3.cell? ⟨w.heap.size, 2, none⟩ = some (.int .i64 a) := (blk_cell V_A.out.blk 2).trans rfl
  have f_A_2 : a3.frozen? ⟨w.heap.size, 2, none⟩ = false := blk_frozen V_A.out.blk 2
  have c_A_3 : a3.cell? ⟨w.heap.size, 3, none⟩ = some (.int .i64 an) := (blk_cell V_A.out.blk 3).trans rfl
  have f_A_3 : a3.frozen? ⟨w.heap.size, 3, none⟩ = false := blk_frozen V_A.out.blk 3
  have c_A_4 : a3.cell? ⟨w.heap.size, 4, none⟩ = some (.int .i64 i) := (blk_cell V_A.out.blk 4).trans rfl
  have f_A_4 : a3.frozen? ⟨w.heap.size, 4, none⟩ = false := blk_frozen V_A.out.blk 4
  have c_A_5 : a3.cell? ⟨w.heap.size, 5, none⟩ = some (.int .i64 ii) := (blk_cell V_A.out.blk 5).trans rfl
  have f_A_5 : a3.frozen? ⟨w.heap.size, 5, none⟩ = false := blk_frozen V_A.out.blk 5
  have c_A_6 : a3.cell? ⟨w.heap.size, 6, none⟩ = some (.int .i64 v) := (blk_cell V_A.out.blk 6).trans rfl
  have f_A_6 : a3.frozen? ⟨w.heap.size, 6, none⟩ = false := blk_frozen V_A.out.blk 6
  have c_A_7 : a3.cell? ⟨w.heap.size, 7, none⟩ = some (.int .i64 vn) := (blk_cell V_A.out.blk 7).trans rfl
  have f_A_7 : a3.frozen? ⟨w.heap.size, 7, none⟩ = false := blk_frozen V_A.out.blk 7
  have V_x := n_x
  clear n_x
  have lt_x : w_2.heap.size < a3.heap.size := blk_lt V_x.out.blk
  have c_x_0 : a3.cell? ⟨w_2.heap.size, 0, none⟩ = some (.int .i64 x0) := (blk_cell V_x.out.blk 0).trans rfl
  have f_x_0 : a3.frozen? ⟨w_2.heap.size, 0, none⟩ = false := blk_frozen V_x.out.blk 0
  have c_x_1 : a3.cell? ⟨w_2.heap.size, 1, none⟩ = some (.int .i64 x1) := (blk_cell V_x.out.blk 1).trans rfl
  have f_x_1 : a3.frozen? ⟨w_2.heap.size, 1, none⟩ = false := blk_frozen V_x.out.blk 1
  have V_y := n_y
  clear n_y
  have lt_y : sp < a3.heap.size := blk_lt V_y.out.blk
  have c_y_0 : a3.cell? ⟨sp, 0, none⟩ = some (.int .i64 x0) := (blk_cell V_y.out.blk 0).trans rfl
  have f_y_0 : a3.frozen? ⟨sp, 0, none⟩ = false := blk_frozen V_y.out.blk 0
  have c_y_1 : a3.cell? ⟨sp, 1, none⟩ = some (.int .i64 x1) := (blk_cell V_y.out.blk 1).trans rfl
  have f_y_1 : a3.frozen? ⟨sp, 1, none⟩ = false := blk_frozen V_y.out.blk 1
  have nR := Lib.hid (R.out.below hb_)
  clear R
  have R := nR
  clear nR
  clear hb_ hw_
  clear V_A lt_A c_A_0 f_A_0 c_A_1 f_A_1 c_A_2 f_A_2 c_A_3 f_A_3 c_A_4 f_A_4 c_A_5 f_A_5 c_A_6 f_A_6 c_A_7 f_A_7
  go_wp2_with fail
  refine start_ (n := 10) (S := fun w' => w'.cell? ⟨w_2.heap.size, 0, none⟩ = some (.int .i64 x0) ∧ w'.cell? ⟨w_2.heap.size, 1, none⟩ = some (.int .i64 x1) ∧ w'.cell? ⟨sp, 0, none⟩ = some (.int .i64 x0) ∧ w'.cell? ⟨sp, 1, none⟩ = some (.int .i64 x1)) (ds := []) #[false, false, false, false, false, false, false, false, false, false] (by kernel_rfl) rfl rfl ⟨cell_drew c_x_0, cell_drew c_x_1, cell_drew c_y_0, cell_drew c_y_1⟩ (fun hHeld => ?_)
  refine take_ (i := 0) (N := some 74) (v := ?_) (a' := ?_) #[true, false, false, false, false, false, false, false, false, false] rfl rfl (by kernel_rfl) (fun _ _ _ h => h) (Or.inl ⟨by rfl, ?_⟩) hHeld ?_ ?_
  rotate_left
  · rintro w' ⟨s0, s1, s2, s3⟩
    go_simp
    with_reducible rfl
  rotate_left
  · simp only [Act.put, List.setIfInBounds_toArray, List.set_cons_zero, List.set_cons_succ, i64_w, i32_w]
    rfl
  refine take_ (i := 2) (N := some 76) (v := ?_) (a' := ?_) #[true, false, true, false, false, false, false, false, false, false] rfl rfl (by kernel_rfl) (fun _ _ _ h => h) (Or.inl ⟨by rfl, ?_⟩) hHeld ?_ ?_
  rotate_left
  · rintro w' ⟨s0, s1, s2, s3⟩
    go_simp
    with_reducible rfl
  rotate_left
  · simp only [Act.put, List.setIfInBounds_toArray, List.set_cons_zero, List.set_cons_succ, i64_w, i32_w]
    rfl
  refine one_ (i := 1) (N := some 75) #[true, true, true, false, false, false, false, false, false, false] rfl rfl (by kernel_rfl) (by decide) (fun K hK => ?_)
  refine goes_ Try.func12 (by kernel_rfl) rfl #[.agg #[.int .i64 x0, .int .i64 x1]] (by rfl) rfl rfl (by simp only [List.map_toArray, List.map_cons, List.map_nil]; rfl) ?_
  with_reducible refine (runnellaw9_as.calls x0 x1 x0 x1 _ rfl).mono ?_
  rintro e_ z1 ⟨rfl, hb_⟩
  refine ⟨_, rfl, ?_⟩
  have Q_z1 := Lib.hid (below_step (below_drew (Below.refl a3.heap.size a3)) hb_)
  have P_z1 := Lib.hid hb_
  clear hb_
  refine hK.out _ _ ⟨pw_cell_below P_z1.out hHeld.1, pw_cell_below P_z1.out hHeld.2.1, pw_cell_below P_z1.out hHeld.2.2.1, pw_cell_below P_z1.out hHeld.2.2.2⟩ (fun hHeld => ?_)
  clear hK K
  refine norm_ (a' := ?_) ?_ ?_
  rotate_left
  · show Act.put _ (some 75) _ = _
    simp only [Act.put, List.setIfInBounds_toArray, List.set_cons_zero, List.set_cons_succ, i64_w, i32_w]
    rfl
  refine pure_ (i := 3) (N := some 77) (v := ?_) (a' := ?_) #[true, true, true, true, false, false, false, false, false, false] rfl rfl (by kernel_rfl) (fun _ _ _ h => h) (Or.inl ⟨by rfl, ?_⟩) ?_ ?_
  rotate_left
  · intro w'
    go_simp
    with_reducible rfl
  rotate_left
  · simp only [Act.put, List.setIfInBounds_toArray, List.set_cons_zero, List.set_cons_succ, i64_w, i32_w]
    rfl
  refine pure_ (i := 4) (N := some 78) (v := ?_) (a' := ?_) #[true, true, true, true, true, false, false, false, false, false] rfl rfl (by kernel_rfl) (fun _ _ _ h => h) (Or.inl ⟨by rfl, ?_⟩) ?_ ?_
  rotate_left
  · intro w'
    go_simp
    with_reducible rfl
  rotate_left
  · simp only [Act.put, List.setIfInBounds_toArray, List.set_cons_zero, List.set_cons_succ, i64_w, i32_w]
    rfl
  refine pure_ (i := 5) (N := some 79) (v := ?_) (a' := ?_) #[true, true, true, true, true, true, false, false, false, false] rfl rfl (by kernel_rfl) (fun _ _ _ h => h) (Or.inl ⟨by rfl, ?_⟩) ?_ ?_
  rotate_left
  · intro w'
    go_simp
    with_reducible rfl
  rotate_left
  · simp only [Act.put, List.setIfInBounds_toArray, List.set_cons_zero, List.set_cons_succ, i64_w, i32_w]
    rfl
  refine pure_ (i := 6) (N := some 80) (v := ?_) (a' := ?_) #[true, true, true, true, true, true, true, false, false, false] rfl rfl (by kernel_rfl) (fun _ _ _ h => h) (Or.inl ⟨by rfl, ?_⟩) ?_ ?_
  rotate_left
  · intro w'
    go_simp
    with_reducible rfl
  rotate_left
  · simp only [Act.put, List.setIfInBounds_toArray, List.set_cons_zero, List.set_cons_succ, i64_w, i32_w]
    rfl
  refine pure_ (i := 7) (N := some 81) (v := ?_) (a' := ?_) #[true, true, true, true, true, true, true, true, false, false] rfl rfl (by kernel_rfl) (fun _ _ _ h => h) (Or.inl ⟨by rfl, ?_⟩) ?_ ?_
  rotate_left
  · intro w'
    go_simp
    with_reducible rfl
  rotate_left
  · simp only [Act.put, List.setIfInBounds_toArray, List.set_cons_zero, List.set_cons_succ, i64_w, i32_w]
    rfl
  refine pure_ (i := 8) (N := some 82) (v := ?_) (a' := ?_) #[true, true, true, true, true, true, true, true, true, false] rfl rfl (by kernel_rfl) (fun _ _ _ h => h) (Or.inl ⟨by rfl, ?_⟩) ?_ ?_
  rotate_left
  · intro w'
    go_simp
    with_reducible rfl
  rotate_left
  · simp only [Act.put, List.setIfInBounds_toArray, List.set_cons_zero, List.set_cons_succ, i64_w, i32_w]
    rfl
  refine pure_ (i := 9) (N := some 6) (v := ?_) (a' := ?_) #[true, true, true, true, true, true, true, true, true, true] rfl rfl (by kernel_rfl) (fun _ _ _ h => h) (Or.inl ⟨by rfl, ?_⟩) ?_ ?_
  rotate_left
  · intro w'
    go_simp
    with_reducible rfl
  rotate_left
  · simp only [Act.put, List.setIfInBounds_toArray, List.set_cons_zero, List.set_cons_succ, i64_w, i32_w]
    rfl
  refine done_ (by kernel_rfl) ?_
  have n_x : Hid (Var z1 okh okm w_2.heap.size #[.int .i64 x0, .int .i64 x1] 23) := Lib.hid (V_x.out.below Q_z1.out)
  have n_y : Hid (Var z1 okh okm sp #[.int .i64 x0, .int .i64 x1] 27) := Lib.hid (V_y.out.below Q_z1.out)
  clear V_x lt_x c_x_0 f_x_0 c_x_1 f_x_1 V_y lt_y c_y_0 f_y_0 c_y_1 f_y_1
  have V_x := n_x
  clear n_x
  have lt_x : w_2.heap.size < z1.heap.size := blk_lt V_x.out.blk
  have c_x_0 : z1.cell? ⟨w_2.heap.size, 0, none⟩ = some (.int .i64 x0) := (blk_cell V_x.out.blk 0).trans rfl
  have f_x_0 : z1.frozen? ⟨w_2.heap.size, 0, none⟩ = false := blk_frozen V_x.out.blk 0
  have c_x_1 : z1.cell? ⟨w_2.heap.size, 1, none⟩ = some (.int .i64 x1) := (blk_cell V_x.out.blk 1).trans rfl
  have f_x_1 : z1.frozen? ⟨w_2.heap.size, 1, none⟩ = false := blk_frozen V_x.out.blk 1
  have V_y := n_y
  clear n_y
  have lt_y : sp < z1.heap.size := blk_lt V_y.out.blk
  have c_y_0 : z1.cell? ⟨sp, 0, none⟩ = some (.int .i64 x0) := (blk_cell V_y.out.blk 0).trans rfl
  have f_y_0 : z1.frozen? ⟨sp, 0, none⟩ = false := blk_frozen V_y.out.blk 0
  have c_y_1 : z1.cell? ⟨sp, 1, none⟩ = some (.int .i64 x1) := (blk_cell V_y.out.blk 1).trans rfl
  have f_y_1 : z1.frozen? ⟨sp, 1, none⟩ = false := blk_frozen V_y.out.blk 1
  have nR := Lib.hid (R.out.below Q_z1.out)
  clear R
  have R := nR
  clear nR
  go_wp2_with fail
  go_ret
  exact ⟨rfl, R.out.after⟩
set_option maxRecDepth 100000 in
set_option maxHeartbeats 8000000 in
theorem does_getA1 {w : World} {Bh Bm : Nat} {okh okm : Nat → Prop} {L M : List (List Int)} (o n a an i ii v vn : Int) {x0 x1 y0 y1 r0 r1 : Int} (hx : getK L a an i ii = x0 ∧ getN L a an i ii = x1 ∧ wrongF L a an i ii = r0) (hy : getK M a an i ii = y0 ∧ getN M a an i ii = y1 ∧ wrongF M a an i ii = r1) (hq : (x0 == y0) = false) (T : Two w Bh Bm okh okm L M) (hp : runnellaw9_pick.f o 4 = some 1) :
    Calls Try.prog 17 #[.pointer (some ⟨Bh, 0, none⟩), .pointer (some ⟨Bm, 0, none⟩), .agg #[.int .i64 o, .int .i64 n, .int .i64 a, .int .i64 an, .int .i64 i, .int .i64 ii, .int .i64 v, .int .i64 vn]] w fun e w' => e = .returned (.bool false) ∧ After w Bh Bm okh okm L M w' := by
  have HX := Lib.hid hx
  have HY := Lib.hid hy
  clear hx hy
  have HP := Lib.hid hp
  have R := Lib.hid (Run.start T)
  clear hp T
  go_enter Try.func17, Try.ntmps17
  go_wp2_with fail
  obtain ⟨a1, hw_⟩ : ∃ W_, W_ = w.alloc (.cells #[.int .i64 o, .int .i64 n, .int .i64 a, .int .i64 an, .int .i64 i, .int .i64 ii, .int .i64 v, .int .i64 vn] 53) := ⟨_, rfl⟩
  rw [← hw_]
  have hb_ : Below w.heap.size w a1 := by rw [hw_]; exact below_alloc (Below.refl _ _) _
  have n_A : Hid (Var a1 okh okm w.heap.size #[.int .i64 o, .int .i64 n, .int .i64 a, .int .i64 an, .int .i64 i, .int .i64 ii, .int .i64 v, .int .i64 vn] 53) := Lib.hid (Var.fresh R.out.two (by rw [hw_]; exact heap_alloc_new _ _) (Nat.le_refl _))
  have V_A := n_A
  clear n_A
  have lt_A : w.heap.size < a1.heap.size := blk_lt V_A.out.blk
  have c_A_0 : a1.cell? ⟨w.heap.size, 0, none⟩ = some (.int .i64 o) := (blk_cell V_A.out.blk 0).trans rfl
  have f_A_0 : a1.frozen? ⟨w.heap.size, 0, none⟩ = false := blk_frozen V_A.out.blk 0
  have c_A_1 : a1.cell? ⟨w.heap.size, 1, none⟩ = some (.int .i64 n) := (blk_cell V_A.out.blk 1).trans rfl
  have f_A_1 : a1.frozen? ⟨w.heap.size, 1, none⟩ = false := blk_frozen V_A.out.blk 1
  have c_A_2 : a1.cell? ⟨w.heap.size, 2, none⟩ = some (.int .i64 a) := (blk_cell V_A.out.blk 2).trans rfl
  have f_A_2 : a1.frozen? ⟨w.heap.size, 2, none⟩ = false := blk_frozen V_A.out.blk 2
  have c_A_3 : a1.cell? ⟨w.heap.size, 3, none⟩ = some (.int .i64 an) := (blk_cell V_A.out.blk 3).trans rfl
  have f_A_3 : a1.frozen? ⟨w.heap.size, 3, none⟩ = false := blk_frozen V_A.out.blk 3
  have c_A_4 : a1.cell? ⟨w.heap.size, 4, none⟩ = some (.int .i64 i) := (blk_cell V_A.out.blk 4).trans rfl
  have f_A_4 : a1.frozen? ⟨w.heap.size, 4, none⟩ = false := blk_frozen V_A.out.blk 4
  have c_A_5 : a1.cell? ⟨w.heap.size, 5, none⟩ = some (.int .i64 ii) := (blk_cell V_A.out.blk 5).trans rfl
  have f_A_5 : a1.frozen? ⟨w.heap.size, 5, none⟩ = false := blk_frozen V_A.out.blk 5
  have c_A_6 : a1.cell? ⟨w.heap.size, 6, none⟩ = some (.int .i64 v) := (blk_cell V_A.out.blk 6).trans rfl
  have f_A_6 : a1.frozen? ⟨w.heap.size, 6, none⟩ = false := blk_frozen V_A.out.blk 6
  have c_A_7 : a1.cell? ⟨w.heap.size, 7, none⟩ = some (.int .i64 vn) := (blk_cell V_A.out.blk 7).trans rfl
  have f_A_7 : a1.frozen? ⟨w.heap.size, 7, none⟩ = false := blk_frozen V_A.out.blk 7
  have nR := Lib.hid (R.out.below hb_)
  clear R
  have R := nR
  clear nR
  clear hb_ hw_
  refine (pick_below o 1 _ HP.out).mono ?_
  rintro e_ w_1 ⟨rfl, hb_⟩
  have n_A : Hid (Var w_1 okh okm w.heap.size #[.int .i64 o, .int .i64 n, .int .i64 a, .int .i64 an, .int .i64 i, .int .i64 ii, .int .i64 v, .int .i64 vn] 53) := Lib.hid (V_A.out.below hb_)
  clear V_A lt_A c_A_0 f_A_0 c_A_1 f_A_1 c_A_2 f_A_2 c_A_3 f_A_3 c_A_4 f_A_4 c_A_5 f_A_5 c_A_6 f_A_6 c_A_7 f_A_7
  have V_A := n_A
  clear n_A
  have lt_A : w.heap.size < w_1.heap.size := blk_lt V_A.out.blk
  have c_A_0 : w_1.cell? ⟨w.heap.size, 0, none⟩ = some (.int .i64 o) := (blk_cell V_A.out.blk 0).trans rfl
  have f_A_0 : w_1.frozen? ⟨w.heap.size, 0, none⟩ = false := blk_frozen V_A.out.blk 0
  have c_A_1 : w_1.cell? ⟨w.heap.size, 1, none⟩ = some (.int .i64 n) := (blk_cell V_A.out.blk 1).trans rfl
  have f_A_1 : w_1.frozen? ⟨w.heap.size, 1, none⟩ = false := blk_frozen V_A.out.blk 1
  have c_A_2 : w_1.cell? ⟨w.heap.size, 2, none⟩ = some (.int .i64 a) := (blk_cell V_A.out.blk 2).trans rfl
  have f_A_2 : w_1.frozen? ⟨w.heap.size, 2, none⟩ = false := blk_frozen V_A.out.blk 2
  have c_A_3 : w_1.cell? ⟨w.heap.size, 3, none⟩ = some (.int .i64 an) := (blk_cell V_A.out.blk 3).trans rfl
  have f_A_3 : w_1.frozen? ⟨w.heap.size, 3, none⟩ = false := blk_frozen V_A.out.blk 3
  have c_A_4 : w_1.cell? ⟨w.heap.size, 4, none⟩ = some (.int .i64 i) := (blk_cell V_A.out.blk 4).trans rfl
  have f_A_4 : w_1.frozen? ⟨w.heap.size, 4, none⟩ = false := blk_frozen V_A.out.blk 4
  have c_A_5 : w_1.cell? ⟨w.heap.size, 5, none⟩ = some (.int .i64 ii) := (blk_cell V_A.out.blk 5).trans rfl
  have f_A_5 : w_1.frozen? ⟨w.heap.size, 5, none⟩ = false := blk_frozen V_A.out.blk 5
  have c_A_6 : w_1.cell? ⟨w.heap.size, 6, none⟩ = some (.int .i64 v) := (blk_cell V_A.out.blk 6).trans rfl
  have f_A_6 : w_1.frozen? ⟨w.heap.size, 6, none⟩ = false := blk_frozen V_A.out.blk 6
  have c_A_7 : w_1.cell? ⟨w.heap.size, 7, none⟩ = some (.int .i64 vn) := (blk_cell V_A.out.blk 7).trans rfl
  have f_A_7 : w_1.frozen? ⟨w.heap.size, 7, none⟩ = false := blk_frozen V_A.out.blk 7
  have nR := Lib.hid (R.out.below hb_)
  clear R
  have R := nR
  clear nR
  clear hb_
  go_wp2_with fail
  refine (run_getH R.out a an i ii HX.out).mono ?_
  rintro e_ w_2 ⟨rfl, hb_⟩
  have n_A : Hid (Var w_2 okh okm w.heap.size #[.int .i64 o, .int .i64 n, .int .i64 a, .int .i64 an, .int .i64 i, .int .i64 ii, .int .i64 v, .int .i64 vn] 53) := Lib.hid (V_A.out.below hb_)
  clear V_A lt_A c_A_0 f_A_0 c_A_1 f_A_1 c_A_2 f_A_2 c_A_3 f_A_3 c_A_4 f_A_4 c_A_5 f_A_5 c_A_6 f_A_6 c_A_7 f_A_7
  have V_A := n_A
  clear n_A
  have lt_A : w.heap.size < w_2.heap.size := blk_lt V_A.out.blk
  have c_A_0 : w_2.cell? ⟨w.heap.size, 0, none⟩ = some (.int .i64 o) := (blk_cell V_A.out.blk 0).trans rfl
  have f_A_0 : w_2.frozen? ⟨w.heap.size, 0, none⟩ = false := blk_frozen V_A.out.blk 0
  have c_A_1 : w_2.cell? ⟨w.heap.size, 1, none⟩ = some (.int .i64 n) := (blk_cell V_A.out.blk 1).trans rfl
  have f_A_1 : w_2.frozen? ⟨w.heap.size, 1, none⟩ = false := blk_frozen V_A.out.blk 1
  have c_A_2 : w_2.cell? ⟨w.heap.size, 2, none⟩ = some (.int .i64 a) := (blk_cell V_A.out.blk 2).trans rfl
  have f_A_2 : w_2.frozen? ⟨w.heap.size, 2, none⟩ = false := blk_frozen V_A.out.blk 2
  have c_A_3 : w_2.cell? ⟨w.heap.size, 3, none⟩ = some (.int .i64 an) := (blk_cell V_A.out.blk 3).trans rfl
  have f_A_3 : w_2.frozen? ⟨w.heap.size, 3, none⟩ = false := blk_frozen V_A.out.blk 3
  have c_A_4 : w_2.cell? ⟨w.heap.size, 4, none⟩ = some (.int .i64 i) := (blk_cell V_A.out.blk 4).trans rfl
  have f_A_4 : w_2.frozen? ⟨w.heap.size, 4, none⟩ = false := blk_frozen V_A.out.blk 4
  have c_A_5 : w_2.cell? ⟨w.heap.size, 5, none⟩ = some (.int .i64 ii) := (blk_cell V_A.out.blk 5).trans rfl
  have f_A_5 : w_2.frozen? ⟨w.heap.size, 5, none⟩ = false := blk_frozen V_A.out.blk 5
  have c_A_6 : w_2.cell? ⟨w.heap.size, 6, none⟩ = some (.int .i64 v) := (blk_cell V_A.out.blk 6).trans rfl
  have f_A_6 : w_2.frozen? ⟨w.heap.size, 6, none⟩ = false := blk_frozen V_A.out.blk 6
  have c_A_7 : w_2.cell? ⟨w.heap.size, 7, none⟩ = some (.int .i64 vn) := (blk_cell V_A.out.blk 7).trans rfl
  have f_A_7 : w_2.frozen? ⟨w.heap.size, 7, none⟩ = false := blk_frozen V_A.out.blk 7
  have nR := Lib.hid (R.out.below hb_)
  clear R
  have R := nR
  clear nR
  clear hb_
  go_wp2_with fail
  obtain ⟨a2, hw_⟩ : ∃ W_, W_ = w_2.alloc (.cells #[.int .i64 x0, .int .i64 x1] 23) := ⟨_, rfl⟩
  rw [← hw_]
  have hb_ : Below w_2.heap.size w_2 a2 := by rw [hw_]; exact below_alloc (Below.refl _ _) _
  have n_A : Hid (Var a2 okh okm w.heap.size #[.int .i64 o, .int .i64 n, .int .i64 a, .int .i64 an, .int .i64 i, .int .i64 ii, .int .i64 v, .int .i64 vn] 53) := Lib.hid (V_A.out.below hb_)
  have n_x : Hid (Var a2 okh okm w_2.heap.size #[.int .i64 x0, .int .i64 x1] 23) := Lib.hid (Var.fresh R.out.two (by rw [hw_]; exact heap_alloc_new _ _) (Nat.le_refl _))
  clear V_A lt_A c_A_0 f_A_0 c_A_1 f_A_1 c_A_2 f_A_2 c_A_3 f_A_3 c_A_4 f_A_4 c_A_5 f_A_5 c_A_6 f_A_6 c_A_7 f_A_7
  have V_A := n_A
  clear n_A
  have lt_A : w.heap.size < a2.heap.size := blk_lt V_A.out.blk
  have c_A_0 : a2.cell? ⟨w.heap.size, 0, none⟩ = some (.int .i64 o) := (blk_cell V_A.out.blk 0).trans rfl
  have f_A_0 : a2.frozen? ⟨w.heap.size, 0, none⟩ = false := blk_frozen V_A.out.blk 0
  have c_A_1 : a2.cell? ⟨w.heap.size, 1, none⟩ = some (.int .i64 n) := (blk_cell V_A.out.blk 1).trans rfl
  have f_A_1 : a2.frozen? ⟨w.heap.size, 1, none⟩ = false := blk_frozen V_A.out.blk 1
  have c_A_2 : a2.cell? ⟨w.heap.size, 2, none⟩ = some (.int .i64 a) := (blk_cell V_A.out.blk 2).trans rfl
  have f_A_2 : a2.frozen? ⟨w.heap.size, 2, none⟩ = false := blk_frozen V_A.out.blk 2
  have c_A_3 : a2.cell? ⟨w.heap.size, 3, none⟩ = some (.int .i64 an) := (blk_cell V_A.out.blk 3).trans rfl
  have f_A_3 : a2.frozen? ⟨w.heap.size, 3, none⟩ = false := blk_frozen V_A.out.blk 3
  have c_A_4 : a2.cell? ⟨w.heap.size, 4, none⟩ = some (.int .i64 i) := (blk_cell V_A.out.blk 4).trans rfl
  have f_A_4 : a2.frozen? ⟨w.heap.size, 4, none⟩ = false := blk_frozen V_A.out.blk 4
  have c_A_5 : a2.cell? ⟨w.heap.size, 5, none⟩ = some (.int .i64 ii) := (blk_cell V_A.out.blk 5).trans rfl
  have f_A_5 : a2.frozen? ⟨w.heap.size, 5, none⟩ = false := blk_frozen V_A.out.blk 5
  have c_A_6 : a2.cell? ⟨w.heap.size, 6, none⟩ = some (.int .i64 v) := (blk_cell V_A.out.blk 6).trans rfl
  have f_A_6 : a2.frozen? ⟨w.heap.size, 6, none⟩ = false := blk_frozen V_A.out.blk 6
  have c_A_7 : a2.cell? ⟨w.heap.size, 7, none⟩ = some (.int .i64 vn) := (blk_cell V_A.out.blk 7).trans rfl
  have f_A_7 : a2.frozen? ⟨w.heap.size, 7, none⟩ = false := blk_frozen V_A.out.blk 7
  have V_x := n_x
  clear n_x
  have lt_x : w_2.heap.size < a2.heap.size := blk_lt V_x.out.blk
  have c_x_0 : a2.cell? ⟨w_2.heap.size, 0, none⟩ = some (.int .i64 x0) := (blk_cell V_x.out.blk 0).trans rfl
  have f_x_0 : a2.frozen? ⟨w_2.heap.size, 0, none⟩ = false := blk_frozen V_x.out.blk 0
  have c_x_1 : a2.cell? ⟨w_2.heap.size, 1, none⟩ = some (.int .i64 x1) := (blk_cell V_x.out.blk 1).trans rfl
  have f_x_1 : a2.frozen? ⟨w_2.heap.size, 1, none⟩ = false := blk_frozen V_x.out.blk 1
  have nR := Lib.hid (R.out.below hb_)
  clear R
  have R := nR
  clear nR
  clear hb_ hw_
  have CA2 := Lib.hid c_A_2
  have CA3 := Lib.hid c_A_3
  have CA4 := Lib.hid c_A_4
  have CA5 := Lib.hid c_A_5
  refine start_ (n := 14) (S := fun w' => w'.cell? ⟨w.heap.size, 2, none⟩ = some (.int .i64 a) ∧ w'.cell? ⟨w.heap.size, 3, none⟩ = some (.int .i64 an) ∧ w'.cell? ⟨w.heap.size, 4, none⟩ = some (.int .i64 i) ∧ w'.cell? ⟨w.heap.size, 5, none⟩ = some (.int .i64 ii)) (ds := [12]) #[false, false, false, false, false, false, false, false, false, false, false, false, false, false] (by kernel_rfl) rfl rfl ⟨cell_drew (CA2.out), cell_drew (CA3.out), cell_drew (CA4.out), cell_drew (CA5.out)⟩ (fun hHeld => ?_)
  refine pure_ (i := 0) (N := some 64) (v := ?_) (a' := ?_) #[true, false, false, false, false, false, false, false, false, false, false, false, false, false] rfl rfl (by kernel_rfl) (fun _ _ _ h => h) (Or.inl ⟨by rfl, ?_⟩) ?_ ?_
  rotate_left
  · intro w'
    go_simp
    with_reducible rfl
  rotate_left
  · simp only [Act.put, List.setIfInBounds_toArray, List.set_cons_zero, List.set_cons_succ, i64_w, i32_w]
    rfl
  refine pure_ (i := 1) (N := some 65) (v := ?_) (a' := ?_) #[true, true, false, false, false, false, false, false, false, false, false, false, false, false] rfl rfl (by kernel_rfl) (fun _ _ _ h => h) (Or.inl ⟨by rfl, ?_⟩) ?_ ?_
  rotate_left
  · intro w'
    go_simp
    with_reducible rfl
  rotate_left
  · simp only [Act.put, List.setIfInBounds_toArray, List.set_cons_zero, List.set_cons_succ, i64_w, i32_w]
    rfl
  refine pure_ (i := 4) (N := some 68) (v := ?_) (a' := ?_) #[true, true, false, false, true, false, false, false, false, false, false, false, false, false] rfl rfl (by kernel_rfl) (fun _ _ _ h => h) (Or.inl ⟨by rfl, ?_⟩) ?_ ?_
  rotate_left
  · intro w'
    go_simp
    with_reducible rfl
  rotate_left
  · simp only [Act.put, List.setIfInBounds_toArray, List.set_cons_zero, List.set_cons_succ, i64_w, i32_w]
    rfl
  refine take_ (i := 2) (N := some 66) (v := ?_) (a' := ?_) #[true, true, true, false, true, false, false, false, false, false, false, false, false, false] rfl rfl (by kernel_rfl) (fun _ _ _ h => h) (Or.inl ⟨by rfl, ?_⟩) hHeld ?_ ?_
  rotate_left
  · rintro w' ⟨s0, s1, s2, s3⟩
    go_simp
    with_reducible rfl
  rotate_left
  · simp only [Act.put, List.setIfInBounds_toArray, List.set_cons_zero, List.set_cons_succ, i64_w, i32_w]
    rfl
  refine take_ (i := 5) (N := some 69) (v := ?_) (a' := ?_) #[true, true, true, false, true, true, false, false, false, false, false, false, false, false] rfl rfl (by kernel_rfl) (fun _ _ _ h => h) (Or.inl ⟨by rfl, ?_⟩) hHeld ?_ ?_
  rotate_left
  · rintro w' ⟨s0, s1, s2, s3⟩
    go_simp
    with_reducible rfl
  rotate_left
  · simp only [Act.put, List.setIfInBounds_toArray, List.set_cons_zero, List.set_cons_succ, i64_w, i32_w]
    rfl
  refine join_ (σ := Nat) 2 #[true, true, true, true, true, true, true, true, true, true, true, true, false, false] (fun s => [(67, .agg #[.int .i64 a, .int .i64 an]), (70, .agg #[.int .i64 i, .int .i64 ii]), (71, .tuple #[.agg #[.int .i64 y0, .int .i64 y1], .int .i64 r1]), (63, .tuple #[.agg #[.int .i64 y0, .int .i64 y1], .int .i64 r1]), (72, .agg #[.int .i64 y0, .int .i64 y1]), (73, .int .i64 r1), (15, .pointer (some ⟨s, 0, none⟩))]) (fun s w' => Below a2.heap.size a2 w' ∧ w'.heap[s]? = some (.cells #[.int .i64 0, .int .i64 0] 27 (0, 0)) ∧ a2.heap.size ≤ s) ?_ ?_
  rotate_left
  · intro hCont
    refine two_ (i := 3) (j := 11) (Ni := some 67) (Nj := some 15) #[true, true, true, true, true, true, false, false, false, false, false, false, false, false] #[true, true, true, false, true, true, false, false, false, false, false, true, false, false] rfl rfl rfl rfl (by kernel_rfl) (by decide) (by decide) (fun K hK => ?_) (fun K hK => ?_)
    · skip
      refine goes_ Try.func12 (by kernel_rfl) rfl #[.agg #[.int .i64 a, .int .i64 an]] (by rfl) rfl rfl (by simp only [List.map_toArray, List.map_cons, List.map_nil]; rfl) ?_
      with_reducible refine (runnellaw9_as.calls a an a an _ rfl).mono ?_
      rintro e w_p3 ⟨rfl, hb_⟩
      refine ⟨_, rfl, ?_⟩
      have B_p3 := Lib.hid (below_step ((below_drew (Below.refl a2.heap.size a2))) hb_)
      clear hb_
      refine hK.out _ _ ⟨pw_cell_below B_p3.out CA2.out, pw_cell_below B_p3.out CA3.out, pw_cell_below B_p3.out CA4.out, pw_cell_below B_p3.out CA5.out⟩ (fun hHeld => ?_)
      clear hK K
      refine norm_ (a' := ?_) ?_ ?_
      rotate_left
      · show Act.put _ (some 67) _ = _
        simp only [Act.put, List.setIfInBounds_toArray, List.set_cons_zero, List.set_cons_succ, i64_w, i32_w]
        rfl
      refine two_ (i := 6) (j := 11) (Ni := some 70) (Nj := some 15) #[true, true, true, true, true, true, true, false, false, false, false, false, false, false] #[true, true, true, true, true, true, false, false, false, false, false, true, false, false] rfl rfl rfl rfl (by kernel_rfl) (by decide) (by decide) (fun K hK => ?_) (fun K hK => ?_)
      · skip
        refine goes_ Try.func12 (by kernel_rfl) rfl #[.agg #[.int .i64 i, .int .i64 ii]] (by rfl) rfl rfl (by simp only [List.map_toArray, List.map_cons, List.map_nil]; rfl) ?_
        with_reducible refine (runnellaw9_as.calls i ii i ii _ rfl).mono ?_
        rintro e w_p3_6 ⟨rfl, hb_⟩
        refine ⟨_, rfl, ?_⟩
        have B_p3_6 := Lib.hid (below_step (B_p3.out) hb_)
        clear hb_
        refine hK.out _ _ ⟨pw_cell_below B_p3_6.out CA2.out, pw_cell_below B_p3_6.out CA3.out, pw_cell_below B_p3_6.out CA4.out, pw_cell_below B_p3_6.out CA5.out⟩ (fun hHeld => ?_)
        clear hK K
        refine norm_ (a' := ?_) ?_ ?_
        rotate_left
        · show Act.put _ (some 70) _ = _
          simp only [Act.put, List.setIfInBounds_toArray, List.set_cons_zero, List.set_cons_succ, i64_w, i32_w]
          rfl
        refine two_ (i := 7) (j := 11) (Ni := some 71) (Nj := some 15) #[true, true, true, true, true, true, true, true, false, false, false, false, false, false] #[true, true, true, true, true, true, true, false, false, false, false, true, false, false] rfl rfl rfl rfl (by kernel_rfl) (by decide) (by decide) (fun K hK => ?_) (fun K hK => ?_)
        · skip
          refine goes_ Try.func41 (by kernel_rfl) rfl #[.pointer (some ⟨Bm, 0, none⟩), .agg #[.int .i64 a, .int .i64 an], .agg #[.int .i64 i, .int .i64 ii]] (by rfl) rfl rfl (by simp only [List.map_toArray, List.map_cons, List.map_nil]; rfl) ?_
          with_reducible refine (run_getM (R.out.below (B_p3_6.out)) a an i ii HY.out).mono ?_
          rintro e w_p3_6_7 ⟨rfl, hb_⟩
          refine ⟨_, rfl, ?_⟩
          have B_p3_6_7 := Lib.hid (below_step (B_p3_6.out) hb_)
          clear hb_
          refine hK.out _ _ ⟨pw_cell_below B_p3_6_7.out CA2.out, pw_cell_below B_p3_6_7.out CA3.out, pw_cell_below B_p3_6_7.out CA4.out, pw_cell_below B_p3_6_7.out CA5.out⟩ (fun hHeld => ?_)
          clear hK K
          refine norm_ (a' := ?_) ?_ ?_
          rotate_left
          · show Act.put _ (some 71) _ = _
            simp only [Act.put, List.setIfInBounds_toArray, List.set_cons_zero, List.set_cons_succ, i64_w, i32_w]
            rfl
          refine pure_ (i := 8) (N := some 63) (v := ?_) (a' := ?_) #[true, true, true, true, true, true, true, true, true, false, false, false, false, false] rfl rfl (by kernel_rfl) (fun _ _ _ h => h) (Or.inl ⟨by rfl, ?_⟩) ?_ ?_
          rotate_left
          · intro w'
            go_simp
            with_reducible rfl
          rotate_left
          · simp only [Act.put, List.setIfInBounds_toArray, List.set_cons_zero, List.set_cons_succ, i64_w, i32_w]
            rfl
          refine pure_ (i := 9) (N := some 72) (v := ?_) (a' := ?_) #[true, true, true, true, true, true, true, true, true, true, false, false, false, false] rfl rfl (by kernel_rfl) (fun _ _ _ h => h) (Or.inl ⟨by rfl, ?_⟩) ?_ ?_
          rotate_left
          · intro w'
            go_simp
            with_reducible rfl
          rotate_left
          · simp only [Act.put, List.setIfInBounds_toArray, List.set_cons_zero, List.set_cons_succ, i64_w, i32_w]
            rfl
          refine pure_ (i := 10) (N := some 73) (v := ?_) (a' := ?_) #[true, true, true, true, true, true, true, true, true, true, true, false, false, false] rfl rfl (by kernel_rfl) (fun _ _ _ h => h) (Or.inl ⟨by rfl, ?_⟩) ?_ ?_
          rotate_left
          · intro w'
            go_simp
            with_reducible rfl
          rotate_left
          · simp only [Act.put, List.setIfInBounds_toArray, List.set_cons_zero, List.set_cons_succ, i64_w, i32_w]
            rfl
          refine one_ (i := 11) (N := some 15) #[true, true, true, true, true, true, true, true, true, true, true, true, false, false] rfl rfl (by kernel_rfl) (by decide) (fun K hK => ?_)
          refine value_ (w1 := ?_) (v := ?_) (by rfl) rfl ?_ ?_
          rotate_left 2
          · go_simp
            constructor
            · rfl
            · rfl
          have B_p3_6_7_11 := Lib.hid (below_alloc (B_p3_6_7.out) (.cells #[.int .i64 0, .int .i64 0] 27))
          have N_p3_6_7_11 : Hid ((w_p3_6_7.alloc (.cells #[.int .i64 0, .int .i64 0] 27)).heap[w_p3_6_7.heap.size]? = some (.cells #[.int .i64 0, .int .i64 0] 27 (0, 0))) := Lib.hid (heap_alloc_new w_p3_6_7 _)
          have LE_N_p3_6_7_11 : Hid (a2.heap.size ≤ w_p3_6_7.heap.size) := Lib.hid ((B_p3_6_7.out).size)
          refine hK.out _ _ ⟨pw_cell_below B_p3_6_7_11.out CA2.out, pw_cell_below B_p3_6_7_11.out CA3.out, pw_cell_below B_p3_6_7_11.out CA4.out, pw_cell_below B_p3_6_7_11.out CA5.out⟩ (fun hHeld => ?_)
          clear hK K
          refine norm_ (a' := ?_) ?_ ?_
          rotate_left
          · show Act.put _ (some 15) _ = _
            simp only [Act.put, List.setIfInBounds_toArray, List.set_cons_zero, List.set_cons_succ, i64_w, i32_w]
            rfl
          exact norm_ (by simp only [putAll, Act.put, List.setIfInBounds_toArray, List.set_cons_zero, List.set_cons_succ]) (hCont w_p3_6_7.heap.size _ ⟨B_p3_6_7_11.out, N_p3_6_7_11.out, LE_N_p3_6_7_11.out⟩)
        · skip
          refine value_ (w1 := ?_) (v := ?_) (by rfl) rfl ?_ ?_
          rotate_left 2
          · go_simp
            constructor
            · rfl
            · rfl
          have B_p3_6_11 := Lib.hid (below_alloc (B_p3_6.out) (.cells #[.int .i64 0, .int .i64 0] 27))
          have N_p3_6_11 : Hid ((w_p3_6.alloc (.cells #[.int .i64 0, .int .i64 0] 27)).heap[w_p3_6.heap.size]? = some (.cells #[.int .i64 0, .int .i64 0] 27 (0, 0))) := Lib.hid (heap_alloc_new w_p3_6 _)
          have LE_N_p3_6_11 : Hid (a2.heap.size ≤ w_p3_6.heap.size) := Lib.hid ((B_p3_6.out).size)
          refine hK.out _ _ ⟨pw_cell_below B_p3_6_11.out CA2.out, pw_cell_below B_p3_6_11.out CA3.out, pw_cell_below B_p3_6_11.out CA4.out, pw_cell_below B_p3_6_11.out CA5.out⟩ (fun hHeld => ?_)
          clear hK K
          refine norm_ (a' := ?_) ?_ ?_
          rotate_left
          · show Act.put _ (some 15) _ = _
            simp only [Act.put, List.setIfInBounds_toArray, List.set_cons_zero, List.set_cons_succ, i64_w, i32_w]
            rfl
          refine one_ (i := 7) (N := some 71) #[true, true, true, true, true, true, true, true, false, false, false, true, false, false] rfl rfl (by kernel_rfl) (by decide) (fun K hK => ?_)
          refine goes_ Try.func41 (by kernel_rfl) rfl #[.pointer (some ⟨Bm, 0, none⟩), .agg #[.int .i64 a, .int .i64 an], .agg #[.int .i64 i, .int .i64 ii]] (by rfl) rfl rfl (by simp only [List.map_toArray, List.map_cons, List.map_nil]; rfl) ?_
          with_reducible refine (run_getM (R.out.below (B_p3_6_11.out)) a an i ii HY.out).mono ?_
          rintro e w_p3_6_11_7 ⟨rfl, hb_⟩
          refine ⟨_, rfl, ?_⟩
          have B_p3_6_11_7 := Lib.hid (below_step (B_p3_6_11.out) hb_)
          have N_p3_6_11_7 := Lib.hid (blk_below N_p3_6_11.out hb_)
          have LE_N_p3_6_11_7 := Lib.hid LE_N_p3_6_11.out
          clear hb_
          refine hK.out _ _ ⟨pw_cell_below B_p3_6_11_7.out CA2.out, pw_cell_below B_p3_6_11_7.out CA3.out, pw_cell_below B_p3_6_11_7.out CA4.out, pw_cell_below B_p3_6_11_7.out CA5.out⟩ (fun hHeld => ?_)
          clear hK K
          refine norm_ (a' := ?_) ?_ ?_
          rotate_left
          · show Act.put _ (some 71) _ = _
            simp only [Act.put, List.setIfInBounds_toArray, List.set_cons_zero, List.set_cons_succ, i64_w, i32_w]
            rfl
          refine pure_ (i := 8) (N := some 63) (v := ?_) (a' := ?_) #[true, true, true, true, true, true, true, true, true, false, false, true, false, false] rfl rfl (by kernel_rfl) (fun _ _ _ h => h) (Or.inl ⟨by rfl, ?_⟩) ?_ ?_
          rotate_left
          · intro w'
            go_simp
            with_reducible rfl
          rotate_left
          · simp only [Act.put, List.setIfInBounds_toArray, List.set_cons_zero, List.set_cons_succ, i64_w, i32_w]
            rfl
          refine pure_ (i := 9) (N := some 72) (v := ?_) (a' := ?_) #[true, true, true, true, true, true, true, true, true, true, false, true, false, false] rfl rfl (by kernel_rfl) (fun _ _ _ h => h) (Or.inl ⟨by rfl, ?_⟩) ?_ ?_
          rotate_left
          · intro w'
            go_simp
            with_reducible rfl
          rotate_left
          · simp only [Act.put, List.setIfInBounds_toArray, List.set_cons_zero, List.set_cons_succ, i64_w, i32_w]
            rfl
          refine pure_ (i := 10) (N := some 73) (v := ?_) (a' := ?_) #[true, true, true, true, true, true, true, true, true, true, true, true, false, false] rfl rfl (by kernel_rfl) (fun _ _ _ h => h) (Or.inl ⟨by rfl, ?_⟩) ?_ ?_
          rotate_left
          · intro w'
            go_simp
            with_reducible rfl
          rotate_left
          · simp only [Act.put, List.setIfInBounds_toArray, List.set_cons_zero, List.set_cons_succ, i64_w, i32_w]
            rfl
          exact norm_ (by simp only [putAll, Act.put, List.setIfInBounds_toArray, List.set_cons_zero, List.set_cons_succ]) (hCont w_p3_6.heap.size _ ⟨B_p3_6_11_7.out, N_p3_6_11_7.out, LE_N_p3_6_11_7.out⟩)
      · skip
        refine value_ (w1 := ?_) (v := ?_) (by rfl) rfl ?_ ?_
        rotate_left 2
        · go_simp
          constructor
          · rfl
          · rfl
        have B_p3_11 := Lib.hid (below_alloc (B_p3.out) (.cells #[.int .i64 0, .int .i64 0] 27))
        have N_p3_11 : Hid ((w_p3.alloc (.cells #[.int .i64 0, .int .i64 0] 27)).heap[w_p3.heap.size]? = some (.cells #[.int .i64 0, .int .i64 0] 27 (0, 0))) := Lib.hid (heap_alloc_new w_p3 _)
        have LE_N_p3_11 : Hid (a2.heap.size ≤ w_p3.heap.size) := Lib.hid ((B_p3.out).size)
        refine hK.out _ _ ⟨pw_cell_below B_p3_11.out CA2.out, pw_cell_below B_p3_11.out CA3.out, pw_cell_below B_p3_11.out CA4.out, pw_cell_below B_p3_11.out CA5.out⟩ (fun hHeld => ?_)
        clear hK K
        refine norm_ (a' := ?_) ?_ ?_
        rotate_left
        · show Act.put _ (some 15) _ = _
          simp only [Act.put, List.setIfInBounds_toArray, List.set_cons_zero, List.set_cons_succ, i64_w, i32_w]
          rfl
        refine one_ (i := 6) (N := some 70) #[true, true, true, true, true, true, true, false, false, false, false, true, false, false] rfl rfl (by kernel_rfl) (by decide) (fun K hK => ?_)
        refine goes_ Try.func12 (by kernel_rfl) rfl #[.agg #[.int .i64 i, .int .i64 ii]] (by rfl) rfl rfl (by simp only [List.map_toArray, List.map_cons, List.map_nil]; rfl) ?_
        with_reducible refine (runnellaw9_as.calls i ii i ii _ rfl).mono ?_
        rintro e w_p3_11_6 ⟨rfl, hb_⟩
        refine ⟨_, rfl, ?_⟩
        have B_p3_11_6 := Lib.hid (below_step (B_p3_11.out) hb_)
        have N_p3_11_6 := Lib.hid (blk_below N_p3_11.out hb_)
        have LE_N_p3_11_6 := Lib.hid LE_N_p3_11.out
        clear hb_
        refine hK.out _ _ ⟨pw_cell_below B_p3_11_6.out CA2.out, pw_cell_below B_p3_11_6.out CA3.out, pw_cell_below B_p3_11_6.out CA4.out, pw_cell_below B_p3_11_6.out CA5.out⟩ (fun hHeld => ?_)
        clear hK K
        refine norm_ (a' := ?_) ?_ ?_
        rotate_left
        · show Act.put _ (some 70) _ = _
          simp only [Act.put, List.setIfInBounds_toArray, List.set_cons_zero, List.set_cons_succ, i64_w, i32_w]
          rfl
        refine one_ (i := 7) (N := some 71) #[true, true, true, true, true, true, true, true, false, false, false, true, false, false] rfl rfl (by kernel_rfl) (by decide) (fun K hK => ?_)
        refine goes_ Try.func41 (by kernel_rfl) rfl #[.pointer (some ⟨Bm, 0, none⟩), .agg #[.int .i64 a, .int .i64 an], .agg #[.int .i64 i, .int .i64 ii]] (by rfl) rfl rfl (by simp only [List.map_toArray, List.map_cons, List.map_nil]; rfl) ?_
        with_reducible refine (run_getM (R.out.below (B_p3_11_6.out)) a an i ii HY.out).mono ?_
        rintro e w_p3_11_6_7 ⟨rfl, hb_⟩
        refine ⟨_, rfl, ?_⟩
        have B_p3_11_6_7 := Lib.hid (below_step (B_p3_11_6.out) hb_)
        have N_p3_11_6_7 := Lib.hid (blk_below N_p3_11_6.out hb_)
        have LE_N_p3_11_6_7 := Lib.hid LE_N_p3_11_6.out
        clear hb_
        refine hK.out _ _ ⟨pw_cell_below B_p3_11_6_7.out CA2.out, pw_cell_below B_p3_11_6_7.out CA3.out, pw_cell_below B_p3_11_6_7.out CA4.out, pw_cell_below B_p3_11_6_7.out CA5.out⟩ (fun hHeld => ?_)
        clear hK K
        refine norm_ (a' := ?_) ?_ ?_
        rotate_left
        · show Act.put _ (some 71) _ = _
          simp only [Act.put, List.setIfInBounds_toArray, List.set_cons_zero, List.set_cons_succ, i64_w, i32_w]
          rfl
        refine pure_ (i := 8) (N := some 63) (v := ?_) (a' := ?_) #[true, true, true, true, true, true, true, true, true, false, false, true, false, false] rfl rfl (by kernel_rfl) (fun _ _ _ h => h) (Or.inl ⟨by rfl, ?_⟩) ?_ ?_
        rotate_left
        · intro w'
          go_simp
          with_reducible rfl
        rotate_left
        · simp only [Act.put, List.setIfInBounds_toArray, List.set_cons_zero, List.set_cons_succ, i64_w, i32_w]
          rfl
        refine pure_ (i := 9) (N := some 72) (v := ?_) (a' := ?_) #[true, true, true, true, true, true, true, true, true, true, false, true, false, false] rfl rfl (by kernel_rfl) (fun _ _ _ h => h) (Or.inl ⟨by rfl, ?_⟩) ?_ ?_
        rotate_left
        · intro w'
          go_simp
          with_reducible rfl
        rotate_left
        · simp only [Act.put, List.setIfInBounds_toArray, List.set_cons_zero, List.set_cons_succ, i64_w, i32_w]
          rfl
        refine pure_ (i := 10) (N := some 73) (v := ?_) (a' := ?_) #[true, true, true, true, true, true, true, true, true, true, true, true, false, false] rfl rfl (by kernel_rfl) (fun _ _ _ h => h) (Or.inl ⟨by rfl, ?_⟩) ?_ ?_
        rotate_left
        · intro w'
          go_simp
          with_reducible rfl
        rotate_left
        · simp only [Act.put, List.setIfInBounds_toArray, List.set_cons_zero, List.set_cons_succ, i64_w, i32_w]
          rfl
        exact norm_ (by simp only [putAll, Act.put, List.setIfInBounds_toArray, List.set_cons_zero, List.set_cons_succ]) (hCont w_p3.heap.size _ ⟨B_p3_11_6_7.out, N_p3_11_6_7.out, LE_N_p3_11_6_7.out⟩)
    · skip
      refine value_ (w1 := ?_) (v := ?_) (by rfl) rfl ?_ ?_
      rotate_left 2
      · go_simp
        constructor
        · rfl
        · rfl
      have B_p11 := Lib.hid (below_alloc ((below_drew (Below.refl a2.heap.size a2))) (.cells #[.int .i64 0, .int .i64 0] 27))
      have N_p11 : Hid ((a2.drew.alloc (.cells #[.int .i64 0, .int .i64 0] 27)).heap[a2.heap.size]? = some (.cells #[.int .i64 0, .int .i64 0] 27 (0, 0))) := Lib.hid (heap_alloc_new a2.drew _)
      have LE_N_p11 : Hid (a2.heap.size ≤ a2.heap.size) := Lib.hid (Nat.le_refl _)
      refine hK.out _ _ ⟨pw_cell_below B_p11.out CA2.out, pw_cell_below B_p11.out CA3.out, pw_cell_below B_p11.out CA4.out, pw_cell_below B_p11.out CA5.out⟩ (fun hHeld => ?_)
      clear hK K
      refine norm_ (a' := ?_) ?_ ?_
      rotate_left
      · show Act.put _ (some 15) _ = _
        simp only [Act.put, List.setIfInBounds_toArray, List.set_cons_zero, List.set_cons_succ, i64_w, i32_w]
        rfl
      refine one_ (i := 3) (N := some 67) #[true, true, true, true, true, true, false, false, false, false, false, true, false, false] rfl rfl (by kernel_rfl) (by decide) (fun K hK => ?_)
      refine goes_ Try.func12 (by kernel_rfl) rfl #[.agg #[.int .i64 a, .int .i64 an]] (by rfl) rfl rfl (by simp only [List.map_toArray, List.map_cons, List.map_nil]; rfl) ?_
      with_reducible refine (runnellaw9_as.calls a an a an _ rfl).mono ?_
      rintro e w_p11_3 ⟨rfl, hb_⟩
      refine ⟨_, rfl, ?_⟩
      have B_p11_3 := Lib.hid (below_step (B_p11.out) hb_)
      have N_p11_3 := Lib.hid (blk_below N_p11.out hb_)
      have LE_N_p11_3 := Lib.hid LE_N_p11.out
      clear hb_
      refine hK.out _ _ ⟨pw_cell_below B_p11_3.out CA2.out, pw_cell_below B_p11_3.out CA3.out, pw_cell_below B_p11_3.out CA4.out, pw_cell_below B_p11_3.out CA5.out⟩ (fun hHeld => ?_)
      clear hK K
      refine norm_ (a' := ?_) ?_ ?_
      rotate_left
      · show Act.put _ (some 67) _ = _
        simp only [Act.put, List.setIfInBounds_toArray, List.set_cons_zero, List.set_cons_succ, i64_w, i32_w]
        rfl
      refine one_ (i := 6) (N := some 70) #[true, true, true, true, true, true, true, false, false, false, false, true, false, false] rfl rfl (by kernel_rfl) (by decide) (fun K hK => ?_)
      refine goes_ Try.func12 (by kernel_rfl) rfl #[.agg #[.int .i64 i, .int .i64 ii]] (by rfl) rfl rfl (by simp only [List.map_toArray, List.map_cons, List.map_nil]; rfl) ?_
      with_reducible refine (runnellaw9_as.calls i ii i ii _ rfl).mono ?_
      rintro e w_p11_3_6 ⟨rfl, hb_⟩
      refine ⟨_, rfl, ?_⟩
      have B_p11_3_6 := Lib.hid (below_step (B_p11_3.out) hb_)
      have N_p11_3_6 := Lib.hid (blk_below N_p11_3.out hb_)
      have LE_N_p11_3_6 := Lib.hid LE_N_p11_3.out
      clear hb_
      refine hK.out _ _ ⟨pw_cell_below B_p11_3_6.out CA2.out, pw_cell_below B_p11_3_6.out CA3.out, pw_cell_below B_p11_3_6.out CA4.out, pw_cell_below B_p11_3_6.out CA5.out⟩ (fun hHeld => ?_)
      clear hK K
      refine norm_ (a' := ?_) ?_ ?_
      rotate_left
      · show Act.put _ (some 70) _ = _
        simp only [Act.put, List.setIfInBounds_toArray, List.set_cons_zero, List.set_cons_succ, i64_w, i32_w]
        rfl
      refine one_ (i := 7) (N := some 71) #[true, true, true, true, true, true, true, true, false, false, false, true, false, false] rfl rfl (by kernel_rfl) (by decide) (fun K hK => ?_)
      refine goes_ Try.func41 (by kernel_rfl) rfl #[.pointer (some ⟨Bm, 0, none⟩), .agg #[.int .i64 a, .int .i64 an], .agg #[.int .i64 i, .int .i64 ii]] (by rfl) rfl rfl (by simp only [List.map_toArray, List.map_cons, List.map_nil]; rfl) ?_
      with_reducible refine (run_getM (R.out.below (B_p11_3_6.out)) a an i ii HY.out).mono ?_
      rintro e w_p11_3_6_7 ⟨rfl, hb_⟩
      refine ⟨_, rfl, ?_⟩
      have B_p11_3_6_7 := Lib.hid (below_step (B_p11_3_6.out) hb_)
      have N_p11_3_6_7 := Lib.hid (blk_below N_p11_3_6.out hb_)
      have LE_N_p11_3_6_7 := Lib.hid LE_N_p11_3_6.out
      clear hb_
      refine hK.out _ _ ⟨pw_cell_below B_p11_3_6_7.out CA2.out, pw_cell_below B_p11_3_6_7.out CA3.out, pw_cell_below B_p11_3_6_7.out CA4.out, pw_cell_below B_p11_3_6_7.out CA5.out⟩ (fun hHeld => ?_)
      clear hK K
      refine norm_ (a' := ?_) ?_ ?_
      rotate_left
      · show Act.put _ (some 71) _ = _
        simp only [Act.put, List.setIfInBounds_toArray, List.set_cons_zero, List.set_cons_succ, i64_w, i32_w]
        rfl
      refine pure_ (i := 8) (N := some 63) (v := ?_) (a' := ?_) #[true, true, true, true, true, true, true, true, true, false, false, true, false, false] rfl rfl (by kernel_rfl) (fun _ _ _ h => h) (Or.inl ⟨by rfl, ?_⟩) ?_ ?_
      rotate_left
      · intro w'
        go_simp
        with_reducible rfl
      rotate_left
      · simp only [Act.put, List.setIfInBounds_toArray, List.set_cons_zero, List.set_cons_succ, i64_w, i32_w]
        rfl
      refine pure_ (i := 9) (N := some 72) (v := ?_) (a' := ?_) #[true, true, true, true, true, true, true, true, true, true, false, true, false, false] rfl rfl (by kernel_rfl) (fun _ _ _ h => h) (Or.inl ⟨by rfl, ?_⟩) ?_ ?_
      rotate_left
      · intro w'
        go_simp
        with_reducible rfl
      rotate_left
      · simp only [Act.put, List.setIfInBounds_toArray, List.set_cons_zero, List.set_cons_succ, i64_w, i32_w]
        rfl
      refine pure_ (i := 10) (N := some 73) (v := ?_) (a' := ?_) #[true, true, true, true, true, true, true, true, true, true, true, true, false, false] rfl rfl (by kernel_rfl) (fun _ _ _ h => h) (Or.inl ⟨by rfl, ?_⟩) ?_ ?_
      rotate_left
      · intro w'
        go_simp
        with_reducible rfl
      rotate_left
      · simp only [Act.put, List.setIfInBounds_toArray, List.set_cons_zero, List.set_cons_succ, i64_w, i32_w]
        rfl
      exact norm_ (by simp only [putAll, Act.put, List.setIfInBounds_toArray, List.set_cons_zero, List.set_cons_succ]) (hCont a2.heap.size _ ⟨B_p11_3_6_7.out, N_p11_3_6_7.out, LE_N_p11_3_6_7.out⟩)
  rintro sp wFp ⟨hF1p, hF2p, hF3p⟩
  have hHeld := True.intro
  refine norm_ (a' := ?_) ?_ ?_
  rotate_left
  · simp only [putAll, Act.put, List.setIfInBounds_toArray, List.set_cons_zero, List.set_cons_succ]
    rfl
  refine last_ (i := 12) (N := none) #[true, true, true, true, true, true, true, true, true, true, true, true, true, false] rfl rfl (by kernel_rfl) (by decide) (fun K hK => ?_)
  have cv0 := (blk_cell hF2p 0).trans rfl
  have cv1 := (blk_cell hF2p 1).trans rfl
  have fv0 := blk_frozen hF2p 0
  have fv1 := blk_frozen hF2p 1
  refine skip_ (w1 := ?_) (by rfl) rfl ?_ ?_
  rotate_left
  · go_simp
    rfl
  refine hK.out _ _ ?_
  clear hK K
  refine pure_ (i := 13) (N := some 16) (v := ?_) (a' := ?_) #[true, true, true, true, true, true, true, true, true, true, true, true, true, true] rfl rfl (by kernel_rfl) (fun _ _ _ h => h) (Or.inl ⟨by rfl, ?_⟩) ?_ ?_
  rotate_left
  · intro w'
    go_simp
    with_reducible rfl
  rotate_left
  · simp only [Act.put, List.setIfInBounds_toArray, List.set_cons_zero, List.set_cons_succ, i64_w, i32_w]
    rfl
  refine done_ (by kernel_rfl) ?_
  clear cv0 cv1 fv0 fv1 CA2 CA3 CA4 CA5
  obtain ⟨a3, hw_⟩ : ∃ W_, W_ = (wFp.setCell ⟨sp, 0, none⟩ (.int .i64 y0)).setCell ⟨sp, 1, none⟩ (.int .i64 y1) := ⟨_, rfl⟩
  rw [← hw_]
  have hb_ : Below a2.heap.size a2 a3 := by rw [hw_]; exact Below.setCell (Below.setCell (hF1p) (p := ⟨sp, _, none⟩) hF3p _) (p := ⟨sp, _, none⟩) hF3p _
  have n_A : Hid (Var a3 okh okm w.heap.size #[.int .i64 o, .int .i64 n, .int .i64 a, .int .i64 an, .int .i64 i, .int .i64 ii, .int .i64 v, .int .i64 vn] 53) := Lib.hid (V_A.out.below hb_)
  have n_x : Hid (Var a3 okh okm w_2.heap.size #[.int .i64 x0, .int .i64 x1] 23) := Lib.hid (V_x.out.below hb_)
  have n_y : Hid (Var a3 okh okm sp #[.int .i64 y0, .int .i64 y1] 27) := Lib.hid (Var.fresh R.out.two (by rw [hw_]; exact blk_put (blk_put (hF2p) 0 _ rfl) 1 _ rfl) hF3p)
  clear V_A lt_A c_A_0 f_A_0 c_A_1 f_A_1 c_A_2 f_A_2 c_A_3 f_A_3 c_A_4 f_A_4 c_A_5 f_A_5 c_A_6 f_A_6 c_A_7 f_A_7 V_x lt_x c_x_0 f_x_0 c_x_1 f_x_1
  have V_A := n_A
  clear n_A
  have lt_A : w.heap.size < a3.heap.size := blk_lt V_A.out.blk
  have c_A_0 : a3.cell? ⟨w.heap.size, 0, none⟩ = some (.int .i64 o) := (blk_cell V_A.out.blk 0).trans rfl
  have f_A_0 : a3.frozen? ⟨w.heap.size, 0, none⟩ = false := blk_frozen V_A.out.blk 0
  have c_A_1 : a3.cell? ⟨w.heap.size, 1, none⟩ = some (.int .i64 n) := (blk_cell V_A.out.blk 1).trans rfl
  have f_A_1 : a3.frozen? ⟨w.heap.size, 1, none⟩ = false := blk_frozen V_A.out.blk 1
  have c_A_2 : a3.cell? ⟨w.heap.size, 2, none⟩ = some (.int .i64 a) := (blk_cell V_A.out.blk 2).trans rfl
  have f_A_2 : a3.frozen? ⟨w.heap.size, 2, none⟩ = false := blk_frozen V_A.out.blk 2
  have c_A_3 : a3.cell? ⟨w.heap.size, 3, none⟩ = some (.int .i64 an) := (blk_cell V_A.out.blk 3).trans rfl
  have f_A_3 : a3.frozen? ⟨w.heap.size, 3, none⟩ = false := blk_frozen V_A.out.blk 3
  have c_A_4 : a3.cell? ⟨w.heap.size, 4, none⟩ = some (.int .i64 i) := (blk_cell V_A.out.blk 4).trans rfl
  have f_A_4 : a3.frozen? ⟨w.heap.size, 4, none⟩ = false := blk_frozen V_A.out.blk 4
  have c_A_5 : a3.cell? ⟨w.heap.size, 5, none⟩ = some (.int .i64 ii) := (blk_cell V_A.out.blk 5).trans rfl
  have f_A_5 : a3.frozen? ⟨w.heap.size, 5, none⟩ = false := blk_frozen V_A.out.blk 5
  have c_A_6 : a3.cell? ⟨w.heap.size, 6, none⟩ = some (.int .i64 v) := (blk_cell V_A.out.blk 6).trans rfl
  have f_A_6 : a3.frozen? ⟨w.heap.size, 6, none⟩ = false := blk_frozen V_A.out.blk 6
  have c_A_7 : a3.cell? ⟨w.heap.size, 7, none⟩ = some (.int .i64 vn) := (blk_cell V_A.out.blk 7).trans rfl
  have f_A_7 : a3.frozen? ⟨w.heap.size, 7, none⟩ = false := blk_frozen V_A.out.blk 7
  have V_x := n_x
  clear n_x
  have lt_x : w_2.heap.size < a3.heap.size := blk_lt V_x.out.blk
  have c_x_0 : a3.cell? ⟨w_2.heap.size, 0, none⟩ = some (.int .i64 x0) := (blk_cell V_x.out.blk 0).trans rfl
  have f_x_0 : a3.frozen? ⟨w_2.heap.size, 0, none⟩ = false := blk_frozen V_x.out.blk 0
  have c_x_1 : a3.cell? ⟨w_2.heap.size, 1, none⟩ = some (.int .i64 x1) := (blk_cell V_x.out.blk 1).trans rfl
  have f_x_1 : a3.frozen? ⟨w_2.heap.size, 1, none⟩ = false := blk_frozen V_x.out.blk 1
  have V_y := n_y
  clear n_y
  have lt_y : sp < a3.heap.size := blk_lt V_y.out.blk
  have c_y_0 : a3.cell? ⟨sp, 0, none⟩ = some (.int .i64 y0) := (blk_cell V_y.out.blk 0).trans rfl
  have f_y_0 : a3.frozen? ⟨sp, 0, none⟩ = false := blk_frozen V_y.out.blk 0
  have c_y_1 : a3.cell? ⟨sp, 1, none⟩ = some (.int .i64 y1) := (blk_cell V_y.out.blk 1).trans rfl
  have f_y_1 : a3.frozen? ⟨sp, 1, none⟩ = false := blk_frozen V_y.out.blk 1
  have nR := Lib.hid (R.out.below hb_)
  clear R
  have R := nR
  clear nR
  clear hb_ hw_
  clear V_A lt_A c_A_0 f_A_0 c_A_1 f_A_1 c_A_2 f_A_2 c_A_3 f_A_3 c_A_4 f_A_4 c_A_5 f_A_5 c_A_6 f_A_6 c_A_7 f_A_7
  go_wp2_with fail
  refine start_ (n := 10) (S := fun w' => w'.cell? ⟨w_2.heap.size, 0, none⟩ = some (.int .i64 x0) ∧ w'.cell? ⟨w_2.heap.size, 1, none⟩ = some (.int .i64 x1) ∧ w'.cell? ⟨sp, 0, none⟩ = some (.int .i64 y0) ∧ w'.cell? ⟨sp, 1, none⟩ = some (.int .i64 y1)) (ds := []) #[false, false, false, false, false, false, false, false, false, false] (by kernel_rfl) rfl rfl ⟨cell_drew c_x_0, cell_drew c_x_1, cell_drew c_y_0, cell_drew c_y_1⟩ (fun hHeld => ?_)
  refine take_ (i := 0) (N := some 74) (v := ?_) (a' := ?_) #[true, false, false, false, false, false, false, false, false, false] rfl rfl (by kernel_rfl) (fun _ _ _ h => h) (Or.inl ⟨by rfl, ?_⟩) hHeld ?_ ?_
  rotate_left
  · rintro w' ⟨s0, s1, s2, s3⟩
    go_simp
    with_reducible rfl
  rotate_left
  · simp only [Act.put, List.setIfInBounds_toArray, List.set_cons_zero, List.set_cons_succ, i64_w, i32_w]
    rfl
  refine take_ (i := 2) (N := some 76) (v := ?_) (a' := ?_) #[true, false, true, false, false, false, false, false, false, false] rfl rfl (by kernel_rfl) (fun _ _ _ h => h) (Or.inl ⟨by rfl, ?_⟩) hHeld ?_ ?_
  rotate_left
  · rintro w' ⟨s0, s1, s2, s3⟩
    go_simp
    with_reducible rfl
  rotate_left
  · simp only [Act.put, List.setIfInBounds_toArray, List.set_cons_zero, List.set_cons_succ, i64_w, i32_w]
    rfl
  refine one_ (i := 1) (N := some 75) #[true, true, true, false, false, false, false, false, false, false] rfl rfl (by kernel_rfl) (by decide) (fun K hK => ?_)
  refine goes_ Try.func12 (by kernel_rfl) rfl #[.agg #[.int .i64 x0, .int .i64 x1]] (by rfl) rfl rfl (by simp only [List.map_toArray, List.map_cons, List.map_nil]; rfl) ?_
  with_reducible refine (runnellaw9_as.calls x0 x1 x0 x1 _ rfl).mono ?_
  rintro e_ z1 ⟨rfl, hb_⟩
  refine ⟨_, rfl, ?_⟩
  have Q_z1 := Lib.hid (below_step (below_drew (Below.refl a3.heap.size a3)) hb_)
  have P_z1 := Lib.hid hb_
  clear hb_
  refine hK.out _ _ ⟨pw_cell_below P_z1.out hHeld.1, pw_cell_below P_z1.out hHeld.2.1, pw_cell_below P_z1.out hHeld.2.2.1, pw_cell_below P_z1.out hHeld.2.2.2⟩ (fun hHeld => ?_)
  clear hK K
  refine norm_ (a' := ?_) ?_ ?_
  rotate_left
  · show Act.put _ (some 75) _ = _
    simp only [Act.put, List.setIfInBounds_toArray, List.set_cons_zero, List.set_cons_succ, i64_w, i32_w]
    rfl
  refine pure_ (i := 3) (N := some 77) (v := ?_) (a' := ?_) #[true, true, true, true, false, false, false, false, false, false] rfl rfl (by kernel_rfl) (fun _ _ _ h => h) (Or.inl ⟨by rfl, ?_⟩) ?_ ?_
  rotate_left
  · intro w'
    go_simp
    with_reducible rfl
  rotate_left
  · simp only [Act.put, List.setIfInBounds_toArray, List.set_cons_zero, List.set_cons_succ, i64_w, i32_w]
    rfl
  refine pure_ (i := 4) (N := some 78) (v := ?_) (a' := ?_) #[true, true, true, true, true, false, false, false, false, false] rfl rfl (by kernel_rfl) (fun _ _ _ h => h) (Or.inl ⟨by rfl, ?_⟩) ?_ ?_
  rotate_left
  · intro w'
    go_simp
    with_reducible rfl
  rotate_left
  · simp only [Act.put, List.setIfInBounds_toArray, List.set_cons_zero, List.set_cons_succ, i64_w, i32_w]
    rfl
  refine pure_ (i := 5) (N := some 79) (v := undef) (a' := ?_) #[true, true, true, true, true, true, false, false, false, false] rfl rfl (by kernel_rfl) (fun _ _ _ h => h) (Or.inr ⟨by rfl, rfl⟩) ?_ ?_
  rotate_left
  · simp only [Act.put, List.setIfInBounds_toArray, List.set_cons_zero, List.set_cons_succ, i64_w, i32_w]
    rfl
  refine pure_ (i := 6) (N := some 80) (v := undef) (a' := ?_) #[true, true, true, true, true, true, true, false, false, false] rfl rfl (by kernel_rfl) (fun _ _ _ h => h) (Or.inr ⟨by rfl, rfl⟩) ?_ ?_
  rotate_left
  · simp only [Act.put, List.setIfInBounds_toArray, List.set_cons_zero, List.set_cons_succ, i64_w, i32_w]
    rfl
  refine pure_ (i := 7) (N := some 81) (v := undef) (a' := ?_) #[true, true, true, true, true, true, true, true, false, false] rfl rfl (by kernel_rfl) (fun _ _ _ h => h) (Or.inr ⟨by rfl, rfl⟩) ?_ ?_
  rotate_left
  · simp only [Act.put, List.setIfInBounds_toArray, List.set_cons_zero, List.set_cons_succ, i64_w, i32_w]
    rfl
  refine pure_ (i := 8) (N := some 82) (v := ?_) (a' := ?_) #[true, true, true, true, true, true, true, true, true, false] rfl rfl (by kernel_rfl) (fun _ _ _ h => h) (Or.inl ⟨by rfl, ?_⟩) ?_ ?_
  rotate_left
  · intro w'
    go_simp
    with_reducible rfl
  rotate_left
  · simp only [Act.put, List.setIfInBounds_toArray, List.set_cons_zero, List.set_cons_succ, i64_w, i32_w]
    rfl
  refine pure_ (i := 9) (N := some 6) (v := ?_) (a' := ?_) #[true, true, true, true, true, true, true, true, true, true] rfl rfl (by kernel_rfl) (fun _ _ _ h => h) (Or.inl ⟨by rfl, ?_⟩) ?_ ?_
  rotate_left
  · intro w'
    go_simp
    with_reducible rfl
  rotate_left
  · simp only [Act.put, List.setIfInBounds_toArray, List.set_cons_zero, List.set_cons_succ, i64_w, i32_w]
    rfl
  refine done_ (by kernel_rfl) ?_
  have n_x : Hid (Var z1 okh okm w_2.heap.size #[.int .i64 x0, .int .i64 x1] 23) := Lib.hid (V_x.out.below Q_z1.out)
  have n_y : Hid (Var z1 okh okm sp #[.int .i64 y0, .int .i64 y1] 27) := Lib.hid (V_y.out.below Q_z1.out)
  clear V_x lt_x c_x_0 f_x_0 c_x_1 f_x_1 V_y lt_y c_y_0 f_y_0 c_y_1 f_y_1
  have V_x := n_x
  clear n_x
  have lt_x : w_2.heap.size < z1.heap.size := blk_lt V_x.out.blk
  have c_x_0 : z1.cell? ⟨w_2.heap.size, 0, none⟩ = some (.int .i64 x0) := (blk_cell V_x.out.blk 0).trans rfl
  have f_x_0 : z1.frozen? ⟨w_2.heap.size, 0, none⟩ = false := blk_frozen V_x.out.blk 0
  have c_x_1 : z1.cell? ⟨w_2.heap.size, 1, none⟩ = some (.int .i64 x1) := (blk_cell V_x.out.blk 1).trans rfl
  have f_x_1 : z1.frozen? ⟨w_2.heap.size, 1, none⟩ = false := blk_frozen V_x.out.blk 1
  have V_y := n_y
  clear n_y
  have lt_y : sp < z1.heap.size := blk_lt V_y.out.blk
  have c_y_0 : z1.cell? ⟨sp, 0, none⟩ = some (.int .i64 y0) := (blk_cell V_y.out.blk 0).trans rfl
  have f_y_0 : z1.frozen? ⟨sp, 0, none⟩ = false := blk_frozen V_y.out.blk 0
  have c_y_1 : z1.cell? ⟨sp, 1, none⟩ = some (.int .i64 y1) := (blk_cell V_y.out.blk 1).trans rfl
  have f_y_1 : z1.frozen? ⟨sp, 1, none⟩ = false := blk_frozen V_y.out.blk 1
  have nR := Lib.hid (R.out.below Q_z1.out)
  clear R
  have R := nR
  clear nR
  go_wp2_with fail
  go_ret
  exact ⟨rfl, R.out.after⟩
set_option maxRecDepth 100000 in
set_option maxHeartbeats 8000000 in
theorem does_getA2 {w : World} {Bh Bm : Nat} {okh okm : Nat → Prop} {L M : List (List Int)} (o n a an i ii v vn : Int) {x0 x1 y1 r0 r1 : Int} (hx : getK L a an i ii = x0 ∧ getN L a an i ii = x1 ∧ wrongF L a an i ii = r0) (hy : getK M a an i ii = x0 ∧ getN M a an i ii = y1 ∧ wrongF M a an i ii = r1) (hq : (x1 == y1) = false) (T : Two w Bh Bm okh okm L M) (hp : runnellaw9_pick.f o 4 = some 1) :
    Calls Try.prog 17 #[.pointer (some ⟨Bh, 0, none⟩), .pointer (some ⟨Bm, 0, none⟩), .agg #[.int .i64 o, .int .i64 n, .int .i64 a, .int .i64 an, .int .i64 i, .int .i64 ii, .int .i64 v, .int .i64 vn]] w fun e w' => e = .returned (.bool false) ∧ After w Bh Bm okh okm L M w' := by
  have HX := Lib.hid hx
  have HY := Lib.hid hy
  clear hx hy
  have HP := Lib.hid hp
  have R := Lib.hid (Run.start T)
  clear hp T
  go_enter Try.func17, Try.ntmps17
  go_wp2_with fail
  obtain ⟨a1, hw_⟩ : ∃ W_, W_ = w.alloc (.cells #[.int .i64 o, .int .i64 n, .int .i64 a, .int .i64 an, .int .i64 i, .int .i64 ii, .int .i64 v, .int .i64 vn] 53) := ⟨_, rfl⟩
  rw [← hw_]
  have hb_ : Below w.heap.size w a1 := by rw [hw_]; exact below_alloc (Below.refl _ _) _
  have n_A : Hid (Var a1 okh okm w.heap.size #[.int .i64 o, .int .i64 n, .int .i64 a, .int .i64 an, .int .i64 i, .int .i64 ii, .int .i64 v, .int .i64 vn] 53) := Lib.hid (Var.fresh R.out.two (by rw [hw_]; exact heap_alloc_new _ _) (Nat.le_refl _))
  have V_A := n_A
  clear n_A
  have lt_A : w.heap.size < a1.heap.size := blk_lt V_A.out.blk
  have c_A_0 : a1.cell? ⟨w.heap.size, 0, none⟩ = some (.int .i64 o) := (blk_cell V_A.out.blk 0).trans rfl
  have f_A_0 : a1.frozen? ⟨w.heap.size, 0, none⟩ = false := blk_frozen V_A.out.blk 0
  have c_A_1 : a1.cell? ⟨w.heap.size, 1, none⟩ = some (.int .i64 n) := (blk_cell V_A.out.blk 1).trans rfl
  have f_A_1 : a1.frozen? ⟨w.heap.size, 1, none⟩ = false := blk_frozen V_A.out.blk 1
  have c_A_2 : a1.cell? ⟨w.heap.size, 2, none⟩ = some (.int .i64 a) := (blk_cell V_A.out.blk 2).trans rfl
  have f_A_2 : a1.frozen? ⟨w.heap.size, 2, none⟩ = false := blk_frozen V_A.out.blk 2
  have c_A_3 : a1.cell? ⟨w.heap.size, 3, none⟩ = some (.int .i64 an) := (blk_cell V_A.out.blk 3).trans rfl
  have f_A_3 : a1.frozen? ⟨w.heap.size, 3, none⟩ = false := blk_frozen V_A.out.blk 3
  have c_A_4 : a1.cell? ⟨w.heap.size, 4, none⟩ = some (.int .i64 i) := (blk_cell V_A.out.blk 4).trans rfl
  have f_A_4 : a1.frozen? ⟨w.heap.size, 4, none⟩ = false := blk_frozen V_A.out.blk 4
  have c_A_5 : a1.cell? ⟨w.heap.size, 5, none⟩ = some (.int .i64 ii) := (blk_cell V_A.out.blk 5).trans rfl
  have f_A_5 : a1.frozen? ⟨w.heap.size, 5, none⟩ = false := blk_frozen V_A.out.blk 5
  have c_A_6 : a1.cell? ⟨w.heap.size, 6, none⟩ = some (.int .i64 v) := (blk_cell V_A.out.blk 6).trans rfl
  have f_A_6 : a1.frozen? ⟨w.heap.size, 6, none⟩ = false := blk_frozen V_A.out.blk 6
  have c_A_7 : a1.cell? ⟨w.heap.size, 7, none⟩ = some (.int .i64 vn) := (blk_cell V_A.out.blk 7).trans rfl
  have f_A_7 : a1.frozen? ⟨w.heap.size, 7, none⟩ = false := blk_frozen V_A.out.blk 7
  have nR := Lib.hid (R.out.below hb_)
  clear R
  have R := nR
  clear nR
  clear hb_ hw_
  refine (pick_below o 1 _ HP.out).mono ?_
  rintro e_ w_1 ⟨rfl, hb_⟩
  have n_A : Hid (Var w_1 okh okm w.heap.size #[.int .i64 o, .int .i64 n, .int .i64 a, .int .i64 an, .int .i64 i, .int .i64 ii, .int .i64 v, .int .i64 vn] 53) := Lib.hid (V_A.out.below hb_)
  clear V_A lt_A c_A_0 f_A_0 c_A_1 f_A_1 c_A_2 f_A_2 c_A_3 f_A_3 c_A_4 f_A_4 c_A_5 f_A_5 c_A_6 f_A_6 c_A_7 f_A_7
  have V_A := n_A
  clear n_A
  have lt_A : w.heap.size < w_1.heap.size := blk_lt V_A.out.blk
  have c_A_0 : w_1.cell? ⟨w.heap.size, 0, none⟩ = some (.int .i64 o) := (blk_cell V_A.out.blk 0).trans rfl
  have f_A_0 : w_1.frozen? ⟨w.heap.size, 0, none⟩ = false := blk_frozen V_A.out.blk 0
  have c_A_1 : w_1.cell? ⟨w.heap.size, 1, none⟩ = some (.int .i64 n) := (blk_cell V_A.out.blk 1).trans rfl
  have f_A_1 : w_1.frozen? ⟨w.heap.size, 1, none⟩ = false := blk_frozen V_A.out.blk 1
  have c_A_2 : w_1.cell? ⟨w.heap.size, 2, none⟩ = some (.int .i64 a) := (blk_cell V_A.out.blk 2).trans rfl
  have f_A_2 : w_1.frozen? ⟨w.heap.size, 2, none⟩ = false := blk_frozen V_A.out.blk 2
  have c_A_3 : w_1.cell? ⟨w.heap.size, 3, none⟩ = some (.int .i64 an) := (blk_cell V_A.out.blk 3).trans rfl
  have f_A_3 : w_1.frozen? ⟨w.heap.size, 3, none⟩ = false := blk_frozen V_A.out.blk 3
  have c_A_4 : w_1.cell? ⟨w.heap.size, 4, none⟩ = some (.int .i64 i) := (blk_cell V_A.out.blk 4).trans rfl
  have f_A_4 : w_1.frozen? ⟨w.heap.size, 4, none⟩ = false := blk_frozen V_A.out.blk 4
  have c_A_5 : w_1.cell? ⟨w.heap.size, 5, none⟩ = some (.int .i64 ii) := (blk_cell V_A.out.blk 5).trans rfl
  have f_A_5 : w_1.frozen? ⟨w.heap.size, 5, none⟩ = false := blk_frozen V_A.out.blk 5
  have c_A_6 : w_1.cell? ⟨w.heap.size, 6, none⟩ = some (.int .i64 v) := (blk_cell V_A.out.blk 6).trans rfl
  have f_A_6 : w_1.frozen? ⟨w.heap.size, 6, none⟩ = false := blk_frozen V_A.out.blk 6
  have c_A_7 : w_1.cell? ⟨w.heap.size, 7, none⟩ = some (.int .i64 vn) := (blk_cell V_A.out.blk 7).trans rfl
  have f_A_7 : w_1.frozen? ⟨w.heap.size, 7, none⟩ = false := blk_frozen V_A.out.blk 7
  have nR := Lib.hid (R.out.below hb_)
  clear R
  have R := nR
  clear nR
  clear hb_
  go_wp2_with fail
  refine (run_getH R.out a an i ii HX.out).mono ?_
  rintro e_ w_2 ⟨rfl, hb_⟩
  have n_A : Hid (Var w_2 okh okm w.heap.size #[.int .i64 o, .int .i64 n, .int .i64 a, .int .i64 an, .int .i64 i, .int .i64 ii, .int .i64 v, .int .i64 vn] 53) := Lib.hid (V_A.out.below hb_)
  clear V_A lt_A c_A_0 f_A_0 c_A_1 f_A_1 c_A_2 f_A_2 c_A_3 f_A_3 c_A_4 f_A_4 c_A_5 f_A_5 c_A_6 f_A_6 c_A_7 f_A_7
  have V_A := n_A
  clear n_A
  have lt_A : w.heap.size < w_2.heap.size := blk_lt V_A.out.blk
  have c_A_0 : w_2.cell? ⟨w.heap.size, 0, none⟩ = some (.int .i64 o) := (blk_cell V_A.out.blk 0).trans rfl
  have f_A_0 : w_2.frozen? ⟨w.heap.size, 0, none⟩ = false := blk_frozen V_A.out.blk 0
  have c_A_1 : w_2.cell? ⟨w.heap.size, 1, none⟩ = some (.int .i64 n) := (blk_cell V_A.out.blk 1).trans rfl
  have f_A_1 : w_2.frozen? ⟨w.heap.size, 1, none⟩ = false := blk_frozen V_A.out.blk 1
  have c_A_2 : w_2.cell? ⟨w.heap.size, 2, none⟩ = some (.int .i64 a) := (blk_cell V_A.out.blk 2).trans rfl
  have f_A_2 : w_2.frozen? ⟨w.heap.size, 2, none⟩ = false := blk_frozen V_A.out.blk 2
  have c_A_3 : w_2.cell? ⟨w.heap.size, 3, none⟩ = some (.int .i64 an) := (blk_cell V_A.out.blk 3).trans rfl
  have f_A_3 : w_2.frozen? ⟨w.heap.size, 3, none⟩ = false := blk_frozen V_A.out.blk 3
  have c_A_4 : w_2.cell? ⟨w.heap.size, 4, none⟩ = some (.int .i64 i) := (blk_cell V_A.out.blk 4).trans rfl
  have f_A_4 : w_2.frozen? ⟨w.heap.size, 4, none⟩ = false := blk_frozen V_A.out.blk 4
  have c_A_5 : w_2.cell? ⟨w.heap.size, 5, none⟩ = some (.int .i64 ii) := (blk_cell V_A.out.blk 5).trans rfl
  have f_A_5 : w_2.frozen? ⟨w.heap.size, 5, none⟩ = false := blk_frozen V_A.out.blk 5
  have c_A_6 : w_2.cell? ⟨w.heap.size, 6, none⟩ = some (.int .i64 v) := (blk_cell V_A.out.blk 6).trans rfl
  have f_A_6 : w_2.frozen? ⟨w.heap.size, 6, none⟩ = false := blk_frozen V_A.out.blk 6
  have c_A_7 : w_2.cell? ⟨w.heap.size, 7, none⟩ = some (.int .i64 vn) := (blk_cell V_A.out.blk 7).trans rfl
  have f_A_7 : w_2.frozen? ⟨w.heap.size, 7, none⟩ = false := blk_frozen V_A.out.blk 7
  have nR := Lib.hid (R.out.below hb_)
  clear R
  have R := nR
  clear nR
  clear hb_
  go_wp2_with fail
  obtain ⟨a2, hw_⟩ : ∃ W_, W_ = w_2.alloc (.cells #[.int .i64 x0, .int .i64 x1] 23) := ⟨_, rfl⟩
  rw [← hw_]
  have hb_ : Below w_2.heap.size w_2 a2 := by rw [hw_]; exact below_alloc (Below.refl _ _) _
  have n_A : Hid (Var a2 okh okm w.heap.size #[.int .i64 o, .int .i64 n, .int .i64 a, .int .i64 an, .int .i64 i, .int .i64 ii, .int .i64 v, .int .i64 vn] 53) := Lib.hid (V_A.out.below hb_)
  have n_x : Hid (Var a2 okh okm w_2.heap.size #[.int .i64 x0, .int .i64 x1] 23) := Lib.hid (Var.fresh R.out.two (by rw [hw_]; exact heap_alloc_new _ _) (Nat.le_refl _))
  clear V_A lt_A c_A_0 f_A_0 c_A_1 f_A_1 c_A_2 f_A_2 c_A_3 f_A_3 c_A_4 f_A_4 c_A_5 f_A_5 c_A_6 f_A_6 c_A_7 f_A_7
  have V_A := n_A
  clear n_A
  have lt_A : w.heap.size < a2.heap.size := blk_lt V_A.out.blk
  have c_A_0 : a2.cell? ⟨w.heap.size, 0, none⟩ = some (.int .i64 o) := (blk_cell V_A.out.blk 0).trans rfl
  have f_A_0 : a2.frozen? ⟨w.heap.size, 0, none⟩ = false := blk_frozen V_A.out.blk 0
  have c_A_1 : a2.cell? ⟨w.heap.size, 1, none⟩ = some (.int .i64 n) := (blk_cell V_A.out.blk 1).trans rfl
  have f_A_1 : a2.frozen? ⟨w.heap.size, 1, none⟩ = false := blk_frozen V_A.out.blk 1
  have c_A_2 : a2.cell? ⟨w.heap.size, 2, none⟩ = some (.int .i64 a) := (blk_cell V_A.out.blk 2).trans rfl
  have f_A_2 : a2.frozen? ⟨w.heap.size, 2, none⟩ = false := blk_frozen V_A.out.blk 2
  have c_A_3 : a2.cell? ⟨w.heap.size, 3, none⟩ = some (.int .i64 an) := (blk_cell V_A.out.blk 3).trans rfl
  have f_A_3 : a2.frozen? ⟨w.heap.size, 3, none⟩ = false := blk_frozen V_A.out.blk 3
  have c_A_4 : a2.cell? ⟨w.heap.size, 4, none⟩ = some (.int .i64 i) := (blk_cell V_A.out.blk 4).trans rfl
  have f_A_4 : a2.frozen? ⟨w.heap.size, 4, none⟩ = false := blk_frozen V_A.out.blk 4
  have c_A_5 : a2.cell? ⟨w.heap.size, 5, none⟩ = some (.int .i64 ii) := (blk_cell V_A.out.blk 5).trans rfl
  have f_A_5 : a2.frozen? ⟨w.heap.size, 5, none⟩ = false := blk_frozen V_A.out.blk 5
  have c_A_6 : a2.cell? ⟨w.heap.size, 6, none⟩ = some (.int .i64 v) := (blk_cell V_A.out.blk 6).trans rfl
  have f_A_6 : a2.frozen? ⟨w.heap.size, 6, none⟩ = false := blk_frozen V_A.out.blk 6
  have c_A_7 : a2.cell? ⟨w.heap.size, 7, none⟩ = some (.int .i64 vn) := (blk_cell V_A.out.blk 7).trans rfl
  have f_A_7 : a2.frozen? ⟨w.heap.size, 7, none⟩ = false := blk_frozen V_A.out.blk 7
  have V_x := n_x
  clear n_x
  have lt_x : w_2.heap.size < a2.heap.size := blk_lt V_x.out.blk
  have c_x_0 : a2.cell? ⟨w_2.heap.size, 0, none⟩ = some (.int .i64 x0) := (blk_cell V_x.out.blk 0).trans rfl
  have f_x_0 : a2.frozen? ⟨w_2.heap.size, 0, none⟩ = false := blk_frozen V_x.out.blk 0
  have c_x_1 : a2.cell? ⟨w_2.heap.size, 1, none⟩ = some (.int .i64 x1) := (blk_cell V_x.out.blk 1).trans rfl
  have f_x_1 : a2.frozen? ⟨w_2.heap.size, 1, none⟩ = false := blk_frozen V_x.out.blk 1
  have nR := Lib.hid (R.out.below hb_)
  clear R
  have R := nR
  clear nR
  clear hb_ hw_
  have CA2 := Lib.hid c_A_2
  have CA3 := Lib.hid c_A_3
  have CA4 := Lib.hid c_A_4
  have CA5 := Lib.hid c_A_5
  refine start_ (n := 14) (S := fun w' => w'.cell? ⟨w.heap.size, 2, none⟩ = some (.int .i64 a) ∧ w'.cell? ⟨w.heap.size, 3, none⟩ = some (.int .i64 an) ∧ w'.cell? ⟨w.heap.size, 4, none⟩ = some (.int .i64 i) ∧ w'.cell? ⟨w.heap.size, 5, none⟩ = some (.int .i64 ii)) (ds := [12]) #[false, false, false, false, false, false, false, false, false, false, false, false, false, false] (by kernel_rfl) rfl rfl ⟨cell_drew (CA2.out), cell_drew (CA3.out), cell_drew (CA4.out), cell_drew (CA5.out)⟩ (fun hHeld => ?_)
  refine pure_ (i := 0) (N := some 64) (v := ?_) (a' := ?_) #[true, false, false, false, false, false, false, false, false, false, false, false, false, false] rfl rfl (by kernel_rfl) (fun _ _ _ h => h) (Or.inl ⟨by rfl, ?_⟩) ?_ ?_
  rotate_left
  · intro w'
    go_simp
    with_reducible rfl
  rotate_left
  · simp only [Act.put, List.setIfInBounds_toArray, List.set_cons_zero, List.set_cons_succ, i64_w, i32_w]
    rfl
  refine pure_ (i := 1) (N := some 65) (v := ?_) (a' := ?_) #[true, true, false, false, false, false, false, false, false, false, false, false, false, false] rfl rfl (by kernel_rfl) (fun _ _ _ h => h) (Or.inl ⟨by rfl, ?_⟩) ?_ ?_
  rotate_left
  · intro w'
    go_simp
    with_reducible rfl
  rotate_left
  · simp only [Act.put, List.setIfInBounds_toArray, List.set_cons_zero, List.set_cons_succ, i64_w, i32_w]
    rfl
  refine pure_ (i := 4) (N := some 68) (v := ?_) (a' := ?_) #[true, true, false, false, true, false, false, false, false, false, false, false, false, false] rfl rfl (by kernel_rfl) (fun _ _ _ h => h) (Or.inl ⟨by rfl, ?_⟩) ?_ ?_
  rotate_left
  · intro w'
    go_simp
    with_reducible rfl
  rotate_left
  · simp only [Act.put, List.setIfInBounds_toArray, List.set_cons_zero, List.set_cons_succ, i64_w, i32_w]
    rfl
  refine take_ (i := 2) (N := some 66) (v := ?_) (a' := ?_) #[true, true, true, false, true, false, false, false, false, false, false, false, false, false] rfl rfl (by kernel_rfl) (fun _ _ _ h => h) (Or.inl ⟨by rfl, ?_⟩) hHeld ?_ ?_
  rotate_left
  · rintro w' ⟨s0, s1, s2, s3⟩
    go_simp
    with_reducible rfl
  rotate_left
  · simp only [Act.put, List.setIfInBounds_toArray, List.set_cons_zero, List.set_cons_succ, i64_w, i32_w]
    rfl
  refine take_ (i := 5) (N := some 69) (v := ?_) (a' := ?_) #[true, true, true, false, true, true, false, false, false, false, false, false, false, false] rfl rfl (by kernel_rfl) (fun _ _ _ h => h) (Or.inl ⟨by rfl, ?_⟩) hHeld ?_ ?_
  rotate_left
  · rintro w' ⟨s0, s1, s2, s3⟩
    go_simp
    with_reducible rfl
  rotate_left
  · simp only [Act.put, List.setIfInBounds_toArray, List.set_cons_zero, List.set_cons_succ, i64_w, i32_w]
    rfl
  refine join_ (σ := Nat) 2 #[true, true, true, true, true, true, true, true, true, true, true, true, false, false] (fun s => [(67, .agg #[.int .i64 a, .int .i64 an]), (70, .agg #[.int .i64 i, .int .i64 ii]), (71, .tuple #[.agg #[.int .i64 x0, .int .i64 y1], .int .i64 r1]), (63, .tuple #[.agg #[.int .i64 x0, .int .i64 y1], .int .i64 r1]), (72, .agg #[.int .i64 x0, .int .i64 y1]), (73, .int .i64 r1), (15, .pointer (some ⟨s, 0, none⟩))]) (fun s w' => Below a2.heap.size a2 w' ∧ w'.heap[s]? = some (.cells #[.int .i64 0, .int .i64 0] 27 (0, 0)) ∧ a2.heap.size ≤ s) ?_ ?_
  rotate_left
  · intro hCont
    refine two_ (i := 3) (j := 11) (Ni := some 67) (Nj := some 15) #[true, true, true, true, true, true, false, false, false, false, false, false, false, false] #[true, true, true, false, true, true, false, false, false, false, false, true, false, false] rfl rfl rfl rfl (by kernel_rfl) (by decide) (by decide) (fun K hK => ?_) (fun K hK => ?_)
    · skip
      refine goes_ Try.func12 (by kernel_rfl) rfl #[.agg #[.int .i64 a, .int .i64 an]] (by rfl) rfl rfl (by simp only [List.map_toArray, List.map_cons, List.map_nil]; rfl) ?_
      with_reducible refine (runnellaw9_as.calls a an a an _ rfl).mono ?_
      rintro e w_p3 ⟨rfl, hb_⟩
      refine ⟨_, rfl, ?_⟩
      have B_p3 := Lib.hid (below_step ((below_drew (Below.refl a2.heap.size a2))) hb_)
      clear hb_
      refine hK.out _ _ ⟨pw_cell_below B_p3.out CA2.out, pw_cell_below B_p3.out CA3.out, pw_cell_below B_p3.out CA4.out, pw_cell_below B_p3.out CA5.out⟩ (fun hHeld => ?_)
      clear hK K
      refine norm_ (a' := ?_) ?_ ?_
      rotate_left
      · show Act.put _ (some 67) _ = _
        simp only [Act.put, List.setIfInBounds_toArray, List.set_cons_zero, List.set_cons_succ, i64_w, i32_w]
        rfl
      refine two_ (i := 6) (j := 11) (Ni := some 70) (Nj := some 15) #[true, true, true, true, true, true, true, false, false, false, false, false, false, false] #[true, true, true, true, true, true, false, false, false, false, false, true, false, false] rfl rfl rfl rfl (by kernel_rfl) (by decide) (by decide) (fun K hK => ?_) (fun K hK => ?_)
      · skip
        refine goes_ Try.func12 (by kernel_rfl) rfl #[.agg #[.int .i64 i, .int .i64 ii]] (by rfl) rfl rfl (by simp only [List.map_toArray, List.map_cons, List.map_nil]; rfl) ?_
        with_reducible refine (runnellaw9_as.calls i ii i ii _ rfl).mono ?_
        rintro e w_p3_6 ⟨rfl, hb_⟩
        refine ⟨_, rfl, ?_⟩
        have B_p3_6 := Lib.hid (below_step (B_p3.out) hb_)
        clear hb_
        refine hK.out _ _ ⟨pw_cell_below B_p3_6.out CA2.out, pw_cell_below B_p3_6.out CA3.out, pw_cell_below B_p3_6.out CA4.out, pw_cell_below B_p3_6.out CA5.out⟩ (fun hHeld => ?_)
        clear hK K
        refine norm_ (a' := ?_) ?_ ?_
        rotate_left
        · show Act.put _ (some 70) _ = _
          simp only [Act.put, List.setIfInBounds_toArray, List.set_cons_zero, List.set_cons_succ, i64_w, i32_w]
          rfl
        refine two_ (i := 7) (j := 11) (Ni := some 71) (Nj := some 15) #[true, true, true, true, true, true, true, true, false, false, false, false, false, false] #[true, true, true, true, true, true, true, false, false, false, false, true, false, false] rfl rfl rfl rfl (by kernel_rfl) (by decide) (by decide) (fun K hK => ?_) (fun K hK => ?_)
        · skip
          refine goes_ Try.func41 (by kernel_rfl) rfl #[.pointer (some ⟨Bm, 0, none⟩), .agg #[.int .i64 a, .int .i64 an], .agg #[.int .i64 i, .int .i64 ii]] (by rfl) rfl rfl (by simp only [List.map_toArray, List.map_cons, List.map_nil]; rfl) ?_
          with_reducible refine (run_getM (R.out.below (B_p3_6.out)) a an i ii HY.out).mono ?_
          rintro e w_p3_6_7 ⟨rfl, hb_⟩
          refine ⟨_, rfl, ?_⟩
          have B_p3_6_7 := Lib.hid (below_step (B_p3_6.out) hb_)
          clear hb_
          refine hK.out _ _ ⟨pw_cell_below B_p3_6_7.out CA2.out, pw_cell_below B_p3_6_7.out CA3.out, pw_cell_below B_p3_6_7.out CA4.out, pw_cell_below B_p3_6_7.out CA5.out⟩ (fun hHeld => ?_)
          clear hK K
          refine norm_ (a' := ?_) ?_ ?_
          rotate_left
          · show Act.put _ (some 71) _ = _
            simp only [Act.put, List.setIfInBounds_toArray, List.set_cons_zero, List.set_cons_succ, i64_w, i32_w]
            rfl
          refine pure_ (i := 8) (N := some 63) (v := ?_) (a' := ?_) #[true, true, true, true, true, true, true, true, true, false, false, false, false, false] rfl rfl (by kernel_rfl) (fun _ _ _ h => h) (Or.inl ⟨by rfl, ?_⟩) ?_ ?_
          rotate_left
          · intro w'
            go_simp
            with_reducible rfl
          rotate_left
          · simp only [Act.put, List.setIfInBounds_toArray, List.set_cons_zero, List.set_cons_succ, i64_w, i32_w]
            rfl
          refine pure_ (i := 9) (N := some 72) (v := ?_) (a' := ?_) #[true, true, true, true, true, true, true, true, true, true, false, false, false, false] rfl rfl (by kernel_rfl) (fun _ _ _ h => h) (Or.inl ⟨by rfl, ?_⟩) ?_ ?_
          rotate_left
          · intro w'
            go_simp
            with_reducible rfl
          rotate_left
          · simp only [Act.put, List.setIfInBounds_toArray, List.set_cons_zero, List.set_cons_succ, i64_w, i32_w]
            rfl
          refine pure_ (i := 10) (N := some 73) (v := ?_) (a' := ?_) #[true, true, true, true, true, true, true, true, true, true, true, false, false, false] rfl rfl (by kernel_rfl) (fun _ _ _ h => h) (Or.inl ⟨by rfl, ?_⟩) ?_ ?_
          rotate_left
          · intro w'
            go_simp
            with_reducible rfl
          rotate_left
          · simp only [Act.put, List.setIfInBounds_toArray, List.set_cons_zero, List.set_cons_succ, i64_w, i32_w]
            rfl
          refine one_ (i := 11) (N := some 15) #[true, true, true, true, true, true, true, true, true, true, true, true, false, false] rfl rfl (by kernel_rfl) (by decide) (fun K hK => ?_)
          refine value_ (w1 := ?_) (v := ?_) (by rfl) rfl ?_ ?_
          rotate_left 2
          · go_simp
            constructor
            · rfl
            · rfl
          have B_p3_6_7_11 := Lib.hid (below_alloc (B_p3_6_7.out) (.cells #[.int .i64 0, .int .i64 0] 27))
          have N_p3_6_7_11 : Hid ((w_p3_6_7.alloc (.cells #[.int .i64 0, .int .i64 0] 27)).heap[w_p3_6_7.heap.size]? = some (.cells #[.int .i64 0, .int .i64 0] 27 (0, 0))) := Lib.hid (heap_alloc_new w_p3_6_7 _)
          have LE_N_p3_6_7_11 : Hid (a2.heap.size ≤ w_p3_6_7.heap.size) := Lib.hid ((B_p3_6_7.out).size)
          refine hK.out _ _ ⟨pw_cell_below B_p3_6_7_11.out CA2.out, pw_cell_below B_p3_6_7_11.out CA3.out, pw_cell_below B_p3_6_7_11.out CA4.out, pw_cell_below B_p3_6_7_11.out CA5.out⟩ (fun hHeld => ?_)
          clear hK K
          refine norm_ (a' := ?_) ?_ ?_
          rotate_left
          · show Act.put _ (some 15) _ = _
            simp only [Act.put, List.setIfInBounds_toArray, List.set_cons_zero, List.set_cons_succ, i64_w, i32_w]
            rfl
          exact norm_ (by simp only [putAll, Act.put, List.setIfInBounds_toArray, List.set_cons_zero, List.set_cons_succ]) (hCont w_p3_6_7.heap.size _ ⟨B_p3_6_7_11.out, N_p3_6_7_11.out, LE_N_p3_6_7_11.out⟩)
        · skip
          refine value_ (w1 := ?_) (v := ?_) (by rfl) rfl ?_ ?_
          rotate_left 2
          · go_simp
            constructor
            · rfl
            · rfl
          have B_p3_6_11 := Lib.hid (below_alloc (B_p3_6.out) (.cells #[.int .i64 0, .int .i64 0] 27))
          have N_p3_6_11 : Hid ((w_p3_6.alloc (.cells #[.int .i64 0, .int .i64 0] 27)).heap[w_p3_6.heap.size]? = some (.cells #[.int .i64 0, .int .i64 0] 27 (0, 0))) := Lib.hid (heap_alloc_new w_p3_6 _)
          have LE_N_p3_6_11 : Hid (a2.heap.size ≤ w_p3_6.heap.size) := Lib.hid ((B_p3_6.out).size)
          refine hK.out _ _ ⟨pw_cell_below B_p3_6_11.out CA2.out, pw_cell_below B_p3_6_11.out CA3.out, pw_cell_below B_p3_6_11.out CA4.out, pw_cell_below B_p3_6_11.out CA5.out⟩ (fun hHeld => ?_)
          clear hK K
          refine norm_ (a' := ?_) ?_ ?_
          rotate_left
          · show Act.put _ (some 15) _ = _
            simp only [Act.put, List.setIfInBounds_toArray, List.set_cons_zero, List.set_cons_succ, i64_w, i32_w]
            rfl
          refine one_ (i := 7) (N := some 71) #[true, true, true, true, true, true, true, true, false, false, false, true, false, false] rfl rfl (by kernel_rfl) (by decide) (fun K hK => ?_)
          refine goes_ Try.func41 (by kernel_rfl) rfl #[.pointer (some ⟨Bm, 0, none⟩), .agg #[.int .i64 a, .int .i64 an], .agg #[.int .i64 i, .int .i64 ii]] (by rfl) rfl rfl (by simp only [List.map_toArray, List.map_cons, List.map_nil]; rfl) ?_
          with_reducible refine (run_getM (R.out.below (B_p3_6_11.out)) a an i ii HY.out).mono ?_
          rintro e w_p3_6_11_7 ⟨rfl, hb_⟩
          refine ⟨_, rfl, ?_⟩
          have B_p3_6_11_7 := Lib.hid (below_step (B_p3_6_11.out) hb_)
          have N_p3_6_11_7 := Lib.hid (blk_below N_p3_6_11.out hb_)
          have LE_N_p3_6_11_7 := Lib.hid LE_N_p3_6_11.out
          clear hb_
          refine hK.out _ _ ⟨pw_cell_below B_p3_6_11_7.out CA2.out, pw_cell_below B_p3_6_11_7.out CA3.out, pw_cell_below B_p3_6_11_7.out CA4.out, pw_cell_below B_p3_6_11_7.out CA5.out⟩ (fun hHeld => ?_)
          clear hK K
          refine norm_ (a' := ?_) ?_ ?_
          rotate_left
          · show Act.put _ (some 71) _ = _
            simp only [Act.put, List.setIfInBounds_toArray, List.set_cons_zero, List.set_cons_succ, i64_w, i32_w]
            rfl
          refine pure_ (i := 8) (N := some 63) (v := ?_) (a' := ?_) #[true, true, true, true, true, true, true, true, true, false, false, true, false, false] rfl rfl (by kernel_rfl) (fun _ _ _ h => h) (Or.inl ⟨by rfl, ?_⟩) ?_ ?_
          rotate_left
          · intro w'
            go_simp
            with_reducible rfl
          rotate_left
          · simp only [Act.put, List.setIfInBounds_toArray, List.set_cons_zero, List.set_cons_succ, i64_w, i32_w]
            rfl
          refine pure_ (i := 9) (N := some 72) (v := ?_) (a' := ?_) #[true, true, true, true, true, true, true, true, true, true, false, true, false, false] rfl rfl (by kernel_rfl) (fun _ _ _ h => h) (Or.inl ⟨by rfl, ?_⟩) ?_ ?_
          rotate_left
          · intro w'
            go_simp
            with_reducible rfl
          rotate_left
          · simp only [Act.put, List.setIfInBounds_toArray, List.set_cons_zero, List.set_cons_succ, i64_w, i32_w]
            rfl
          refine pure_ (i := 10) (N := some 73) (v := ?_) (a' := ?_) #[true, true, true, true, true, true, true, true, true, true, true, true, false, false] rfl rfl (by kernel_rfl) (fun _ _ _ h => h) (Or.inl ⟨by rfl, ?_⟩) ?_ ?_
          rotate_left
          · intro w'
            go_simp
            with_reducible rfl
          rotate_left
          · simp only [Act.put, List.setIfInBounds_toArray, List.set_cons_zero, List.set_cons_succ, i64_w, i32_w]
            rfl
          exact norm_ (by simp only [putAll, Act.put, List.setIfInBounds_toArray, List.set_cons_zero, List.set_cons_succ]) (hCont w_p3_6.heap.size _ ⟨B_p3_6_11_7.out, N_p3_6_11_7.out, LE_N_p3_6_11_7.out⟩)
      · skip
        refine value_ (w1 := ?_) (v := ?_) (by rfl) rfl ?_ ?_
        rotate_left 2
        · go_simp
          constructor
          · rfl
          · rfl
        have B_p3_11 := Lib.hid (below_alloc (B_p3.out) (.cells #[.int .i64 0, .int .i64 0] 27))
        have N_p3_11 : Hid ((w_p3.alloc (.cells #[.int .i64 0, .int .i64 0] 27)).heap[w_p3.heap.size]? = some (.cells #[.int .i64 0, .int .i64 0] 27 (0, 0))) := Lib.hid (heap_alloc_new w_p3 _)
        have LE_N_p3_11 : Hid (a2.heap.size ≤ w_p3.heap.size) := Lib.hid ((B_p3.out).size)
        refine hK.out _ _ ⟨pw_cell_below B_p3_11.out CA2.out, pw_cell_below B_p3_11.out CA3.out, pw_cell_below B_p3_11.out CA4.out, pw_cell_below B_p3_11.out CA5.out⟩ (fun hHeld => ?_)
        clear hK K
        refine norm_ (a' := ?_) ?_ ?_
        rotate_left
        · show Act.put _ (some 15) _ = _
          simp only [Act.put, List.setIfInBounds_toArray, List.set_cons_zero, List.set_cons_succ, i64_w, i32_w]
          rfl
        refine one_ (i := 6) (N := some 70) #[true, true, true, true, true, true, true, false, false, false, false, true, false, false] rfl rfl (by kernel_rfl) (by decide) (fun K hK => ?_)
        refine goes_ Try.func12 (by kernel_rfl) rfl #[.agg #[.int .i64 i, .int .i64 ii]] (by rfl) rfl rfl (by simp only [List.map_toArray, List.map_cons, List.map_nil]; rfl) ?_
        with_reducible refine (runnellaw9_as.calls i ii i ii _ rfl).mono ?_
        rintro e w_p3_11_6 ⟨rfl, hb_⟩
        refine ⟨_, rfl, ?_⟩
        have B_p3_11_6 := Lib.hid (below_step (B_p3_11.out) hb_)
        have N_p3_11_6 := Lib.hid (blk_below N_p3_11.out hb_)
        have LE_N_p3_11_6 := Lib.hid LE_N_p3_11.out
        clear hb_
        refine hK.out _ _ ⟨pw_cell_below B_p3_11_6.out CA2.out, pw_cell_below B_p3_11_6.out CA3.out, pw_cell_below B_p3_11_6.out CA4.out, pw_cell_below B_p3_11_6.out CA5.out⟩ (fun hHeld => ?_)
        clear hK K
        refine norm_ (a' := ?_) ?_ ?_
        rotate_left
        · show Act.put _ (some 70) _ = _
          simp only [Act.put, List.setIfInBounds_toArray, List.set_cons_zero, List.set_cons_succ, i64_w, i32_w]
          rfl
        refine one_ (i := 7) (N := some 71) #[true, true, true, true, true, true, true, true, false, false, false, true, false, false] rfl rfl (by kernel_rfl) (by decide) (fun K hK => ?_)
        refine goes_ Try.func41 (by kernel_rfl) rfl #[.pointer (some ⟨Bm, 0, none⟩), .agg #[.int .i64 a, .int .i64 an], .agg #[.int .i64 i, .int .i64 ii]] (by rfl) rfl rfl (by simp only [List.map_toArray, List.map_cons, List.map_nil]; rfl) ?_
        with_reducible refine (run_getM (R.out.below (B_p3_11_6.out)) a an i ii HY.out).mono ?_
        rintro e w_p3_11_6_7 ⟨rfl, hb_⟩
        refine ⟨_, rfl, ?_⟩
        have B_p3_11_6_7 := Lib.hid (below_step (B_p3_11_6.out) hb_)
        have N_p3_11_6_7 := Lib.hid (blk_below N_p3_11_6.out hb_)
        have LE_N_p3_11_6_7 := Lib.hid LE_N_p3_11_6.out
        clear hb_
        refine hK.out _ _ ⟨pw_cell_below B_p3_11_6_7.out CA2.out, pw_cell_below B_p3_11_6_7.out CA3.out, pw_cell_below B_p3_11_6_7.out CA4.out, pw_cell_below B_p3_11_6_7.out CA5.out⟩ (fun hHeld => ?_)
        clear hK K
        refine norm_ (a' := ?_) ?_ ?_
        rotate_left
        · show Act.put _ (some 71) _ = _
          simp only [Act.put, List.setIfInBounds_toArray, List.set_cons_zero, List.set_cons_succ, i64_w, i32_w]
          rfl
        refine pure_ (i := 8) (N := some 63) (v := ?_) (a' := ?_) #[true, true, true, true, true, true, true, true, true, false, false, true, false, false] rfl rfl (by kernel_rfl) (fun _ _ _ h => h) (Or.inl ⟨by rfl, ?_⟩) ?_ ?_
        rotate_left
        · intro w'
          go_simp
          with_reducible rfl
        rotate_left
        · simp only [Act.put, List.setIfInBounds_toArray, List.set_cons_zero, List.set_cons_succ, i64_w, i32_w]
          rfl
        refine pure_ (i := 9) (N := some 72) (v := ?_) (a' := ?_) #[true, true, true, true, true, true, true, true, true, true, false, true, false, false] rfl rfl (by kernel_rfl) (fun _ _ _ h => h) (Or.inl ⟨by rfl, ?_⟩) ?_ ?_
        rotate_left
        · intro w'
          go_simp
          with_reducible rfl
        rotate_left
        · simp only [Act.put, List.setIfInBounds_toArray, List.set_cons_zero, List.set_cons_succ, i64_w, i32_w]
          rfl
        refine pure_ (i := 10) (N := some 73) (v := ?_) (a' := ?_) #[true, true, true, true, true, true, true, true, true, true, true, true, false, false] rfl rfl (by kernel_rfl) (fun _ _ _ h => h) (Or.inl ⟨by rfl, ?_⟩) ?_ ?_
        rotate_left
        · intro w'
          go_simp
          with_reducible rfl
        rotate_left
        · simp only [Act.put, List.setIfInBounds_toArray, List.set_cons_zero, List.set_cons_succ, i64_w, i32_w]
          rfl
        exact norm_ (by simp only [putAll, Act.put, List.setIfInBounds_toArray, List.set_cons_zero, List.set_cons_succ]) (hCont w_p3.heap.size _ ⟨B_p3_11_6_7.out, N_p3_11_6_7.out, LE_N_p3_11_6_7.out⟩)
    · skip
      refine value_ (w1 := ?_) (v := ?_) (by rfl) rfl ?_ ?_
      rotate_left 2
      · go_simp
        constructor
        · rfl
        · rfl
      have B_p11 := Lib.hid (below_alloc ((below_drew (Below.refl a2.heap.size a2))) (.cells #[.int .i64 0, .int .i64 0] 27))
      have N_p11 : Hid ((a2.drew.alloc (.cells #[.int .i64 0, .int .i64 0] 27)).heap[a2.heap.size]? = some (.cells #[.int .i64 0, .int .i64 0] 27 (0, 0))) := Lib.hid (heap_alloc_new a2.drew _)
      have LE_N_p11 : Hid (a2.heap.size ≤ a2.heap.size) := Lib.hid (Nat.le_refl _)
      refine hK.out _ _ ⟨pw_cell_below B_p11.out CA2.out, pw_cell_below B_p11.out CA3.out, pw_cell_below B_p11.out CA4.out, pw_cell_below B_p11.out CA5.out⟩ (fun hHeld => ?_)
      clear hK K
      refine norm_ (a' := ?_) ?_ ?_
      rotate_left
      · show Act.put _ (some 15) _ = _
        simp only [Act.put, List.setIfInBounds_toArray, List.set_cons_zero, List.set_cons_succ, i64_w, i32_w]
        rfl
      refine one_ (i := 3) (N := some 67) #[true, true, true, true, true, true, false, false, false, false, false, true, false, false] rfl rfl (by kernel_rfl) (by decide) (fun K hK => ?_)
      refine goes_ Try.func12 (by kernel_rfl) rfl #[.agg #[.int .i64 a, .int .i64 an]] (by rfl) rfl rfl (by simp only [List.map_toArray, List.map_cons, List.map_nil]; rfl) ?_
      with_reducible refine (runnellaw9_as.calls a an a an _ rfl).mono ?_
      rintro e w_p11_3 ⟨rfl, hb_⟩
      refine ⟨_, rfl, ?_⟩
      have B_p11_3 := Lib.hid (below_step (B_p11.out) hb_)
      have N_p11_3 := Lib.hid (blk_below N_p11.out hb_)
      have LE_N_p11_3 := Lib.hid LE_N_p11.out
      clear hb_
      refine hK.out _ _ ⟨pw_cell_below B_p11_3.out CA2.out, pw_cell_below B_p11_3.out CA3.out, pw_cell_below B_p11_3.out CA4.out, pw_cell_below B_p11_3.out CA5.out⟩ (fun hHeld => ?_)
      clear hK K
      refine norm_ (a' := ?_) ?_ ?_
      rotate_left
      · show Act.put _ (some 67) _ = _
        simp only [Act.put, List.setIfInBounds_toArray, List.set_cons_zero, List.set_cons_succ, i64_w, i32_w]
        rfl
      refine one_ (i := 6) (N := some 70) #[true, true, true, true, true, true, true, false, false, false, false, true, false, false] rfl rfl (by kernel_rfl) (by decide) (fun K hK => ?_)
      refine goes_ Try.func12 (by kernel_rfl) rfl #[.agg #[.int .i64 i, .int .i64 ii]] (by rfl) rfl rfl (by simp only [List.map_toArray, List.map_cons, List.map_nil]; rfl) ?_
      with_reducible refine (runnellaw9_as.calls i ii i ii _ rfl).mono ?_
      rintro e w_p11_3_6 ⟨rfl, hb_⟩
      refine ⟨_, rfl, ?_⟩
      have B_p11_3_6 := Lib.hid (below_step (B_p11_3.out) hb_)
      have N_p11_3_6 := Lib.hid (blk_below N_p11_3.out hb_)
      have LE_N_p11_3_6 := Lib.hid LE_N_p11_3.out
      clear hb_
      refine hK.out _ _ ⟨pw_cell_below B_p11_3_6.out CA2.out, pw_cell_below B_p11_3_6.out CA3.out, pw_cell_below B_p11_3_6.out CA4.out, pw_cell_below B_p11_3_6.out CA5.out⟩ (fun hHeld => ?_)
      clear hK K
      refine norm_ (a' := ?_) ?_ ?_
      rotate_left
      · show Act.put _ (some 70) _ = _
        simp only [Act.put, List.setIfInBounds_toArray, List.set_cons_zero, List.set_cons_succ, i64_w, i32_w]
        rfl
      refine one_ (i := 7) (N := some 71) #[true, true, true, true, true, true, true, true, false, false, false, true, false, false] rfl rfl (by kernel_rfl) (by decide) (fun K hK => ?_)
      refine goes_ Try.func41 (by kernel_rfl) rfl #[.pointer (some ⟨Bm, 0, none⟩), .agg #[.int .i64 a, .int .i64 an], .agg #[.int .i64 i, .int .i64 ii]] (by rfl) rfl rfl (by simp only [List.map_toArray, List.map_cons, List.map_nil]; rfl) ?_
      with_reducible refine (run_getM (R.out.below (B_p11_3_6.out)) a an i ii HY.out).mono ?_
      rintro e w_p11_3_6_7 ⟨rfl, hb_⟩
      refine ⟨_, rfl, ?_⟩
      have B_p11_3_6_7 := Lib.hid (below_step (B_p11_3_6.out) hb_)
      have N_p11_3_6_7 := Lib.hid (blk_below N_p11_3_6.out hb_)
      have LE_N_p11_3_6_7 := Lib.hid LE_N_p11_3_6.out
      clear hb_
      refine hK.out _ _ ⟨pw_cell_below B_p11_3_6_7.out CA2.out, pw_cell_below B_p11_3_6_7.out CA3.out, pw_cell_below B_p11_3_6_7.out CA4.out, pw_cell_below B_p11_3_6_7.out CA5.out⟩ (fun hHeld => ?_)
      clear hK K
      refine norm_ (a' := ?_) ?_ ?_
      rotate_left
      · show Act.put _ (some 71) _ = _
        simp only [Act.put, List.setIfInBounds_toArray, List.set_cons_zero, List.set_cons_succ, i64_w, i32_w]
        rfl
      refine pure_ (i := 8) (N := some 63) (v := ?_) (a' := ?_) #[true, true, true, true, true, true, true, true, true, false, false, true, false, false] rfl rfl (by kernel_rfl) (fun _ _ _ h => h) (Or.inl ⟨by rfl, ?_⟩) ?_ ?_
      rotate_left
      · intro w'
        go_simp
        with_reducible rfl
      rotate_left
      · simp only [Act.put, List.setIfInBounds_toArray, List.set_cons_zero, List.set_cons_succ, i64_w, i32_w]
        rfl
      refine pure_ (i := 9) (N := some 72) (v := ?_) (a' := ?_) #[true, true, true, true, true, true, true, true, true, true, false, true, false, false] rfl rfl (by kernel_rfl) (fun _ _ _ h => h) (Or.inl ⟨by rfl, ?_⟩) ?_ ?_
      rotate_left
      · intro w'
        go_simp
        with_reducible rfl
      rotate_left
      · simp only [Act.put, List.setIfInBounds_toArray, List.set_cons_zero, List.set_cons_succ, i64_w, i32_w]
        rfl
      refine pure_ (i := 10) (N := some 73) (v := ?_) (a' := ?_) #[true, true, true, true, true, true, true, true, true, true, true, true, false, false] rfl rfl (by kernel_rfl) (fun _ _ _ h => h) (Or.inl ⟨by rfl, ?_⟩) ?_ ?_
      rotate_left
      · intro w'
        go_simp
        with_reducible rfl
      rotate_left
      · simp only [Act.put, List.setIfInBounds_toArray, List.set_cons_zero, List.set_cons_succ, i64_w, i32_w]
        rfl
      exact norm_ (by simp only [putAll, Act.put, List.setIfInBounds_toArray, List.set_cons_zero, List.set_cons_succ]) (hCont a2.heap.size _ ⟨B_p11_3_6_7.out, N_p11_3_6_7.out, LE_N_p11_3_6_7.out⟩)
  rintro sp wFp ⟨hF1p, hF2p, hF3p⟩
  have hHeld := True.intro
  refine norm_ (a' := ?_) ?_ ?_
  rotate_left
  · simp only [putAll, Act.put, List.setIfInBounds_toArray, List.set_cons_zero, List.set_cons_succ]
    rfl
  refine last_ (i := 12) (N := none) #[true, true, true, true, true, true, true, true, true, true, true, true, true, false] rfl rfl (by kernel_rfl) (by decide) (fun K hK => ?_)
  have cv0 := (blk_cell hF2p 0).trans rfl
  have cv1 := (blk_cell hF2p 1).trans rfl
  have fv0 := blk_frozen hF2p 0
  have fv1 := blk_frozen hF2p 1
  refine skip_ (w1 := ?_) (by rfl) rfl ?_ ?_
  rotate_left
  · go_simp
    rfl
  refine hK.out _ _ ?_
  clear hK K
  refine pure_ (i := 13) (N := some 16) (v := ?_) (a' := ?_) #[true, true, true, true, true, true, true, true, true, true, true, true, true, true] rfl rfl (by kernel_rfl) (fun _ _ _ h => h) (Or.inl ⟨by rfl, ?_⟩) ?_ ?_
  rotate_left
  · intro w'
    go_simp
    with_reducible rfl
  rotate_left
  · simp only [Act.put, List.setIfInBounds_toArray, List.set_cons_zero, List.set_cons_succ, i64_w, i32_w]
    rfl
  refine done_ (by kernel_rfl) ?_
  clear cv0 cv1 fv0 fv1 CA2 CA3 CA4 CA5
  obtain ⟨a3, hw_⟩ : ∃ W_, W_ = (wFp.setCell ⟨sp, 0, none⟩ (.int .i64 x0)).setCell ⟨sp, 1, none⟩ (.int .i64 y1) := ⟨_, rfl⟩
  rw [← hw_]
  have hb_ : Below a2.heap.size a2 a3 := by rw [hw_]; exact Below.setCell (Below.setCell (hF1p) (p := ⟨sp, _, none⟩) hF3p _) (p := ⟨sp, _, none⟩) hF3p _
  have n_A : Hid (Var a3 okh okm w.heap.size #[.int .i64 o, .int .i64 n, .int .i64 a, .int .i64 an, .int .i64 i, .int .i64 ii, .int .i64 v, .int .i64 vn] 53) := Lib.hid (V_A.out.below hb_)
  have n_x : Hid (Var a3 okh okm w_2.heap.size #[.int .i64 x0, .int .i64 x1] 23) := Lib.hid (V_x.out.below hb_)
  have n_y : Hid (Var a3 okh okm sp #[.int .i64 x0, .int .i64 y1] 27) := Lib.hid (Var.fresh R.out.two (by rw [hw_]; exact blk_put (blk_put (hF2p) 0 _ rfl) 1 _ rfl) hF3p)
  clear V_A lt_A c_A_0 f_A_0 c_A_1 f_A_1 c_A_2 f_A_2 c_A_3 f_A_3 c_A_4 f_A_4 c_A_5 f_A_5 c_A_6 f_A_6 c_A_7 f_A_7 V_x lt_x c_x_0 f_x_0 c_x_1 f_x_1
  have V_A := n_A
  clear n_A
  have lt_A : w.heap.size < a3.heap.size := blk_lt V_A.out.blk
  have c_A_0 : a3.cell? ⟨w.heap.size, 0, none⟩ = some (.int .i64 o) := (blk_cell V_A.out.blk 0).trans rfl
  have f_A_0 : a3.frozen? ⟨w.heap.size, 0, none⟩ = false := blk_frozen V_A.out.blk 0
  have c_A_1 : a3.cell? ⟨w.heap.size, 1, none⟩ = some (.int .i64 n) := (blk_cell V_A.out.blk 1).trans rfl
  have f_A_1 : a3.frozen? ⟨w.heap.size, 1, none⟩ = false := blk_frozen V_A.out.blk 1
  have c_A_2 : a3.cell? ⟨w.heap.size, 2, none⟩ = some (.int .i64 a) := (blk_cell V_A.out.blk 2).trans rfl
  have f_A_2 : a3.frozen? ⟨w.heap.size, 2, none⟩ = false := blk_frozen V_A.out.blk 2
  have c_A_3 : a3.cell? ⟨w.heap.size, 3, none⟩ = some (.int .i64 an) := (blk_cell V_A.out.blk 3).trans rfl
  have f_A_3 : a3.frozen? ⟨w.heap.size, 3, none⟩ = false := blk_frozen V_A.out.blk 3
  have c_A_4 : a3.cell? ⟨w.heap.size, 4, none⟩ = some (.int .i64 i) := (blk_cell V_A.out.blk 4).trans rfl
  have f_A_4 : a3.frozen? ⟨w.heap.size, 4, none⟩ = false := blk_frozen V_A.out.blk 4
  have c_A_5 : a3.cell? ⟨w.heap.size, 5, none⟩ = some (.int .i64 ii) := (blk_cell V_A.out.blk 5).trans rfl
  have f_A_5 : a3.frozen? ⟨w.heap.size, 5, none⟩ = false := blk_frozen V_A.out.blk 5
  have c_A_6 : a3.cell? ⟨w.heap.size, 6, none⟩ = some (.int .i64 v) := (blk_cell V_A.out.blk 6).trans rfl
  have f_A_6 : a3.frozen? ⟨w.heap.size, 6, none⟩ = false := blk_frozen V_A.out.blk 6
  have c_A_7 : a3.cell? ⟨w.heap.size, 7, none⟩ = some (.int .i64 vn) := (blk_cell V_A.out.blk 7).trans rfl
  have f_A_7 : a3.frozen? ⟨w.heap.size, 7, none⟩ = false := blk_frozen V_A.out.blk 7
  have V_x := n_x
  clear n_x
  have lt_x : w_2.heap.size < a3.heap.size := blk_lt V_x.out.blk
  have c_x_0 : a3.cell? ⟨w_2.heap.size, 0, none⟩ = some (.int .i64 x0) := (blk_cell V_x.out.blk 0).trans rfl
  have f_x_0 : a3.frozen? ⟨w_2.heap.size, 0, none⟩ = false := blk_frozen V_x.out.blk 0
  have c_x_1 : a3.cell? ⟨w_2.heap.size, 1, none⟩ = some (.int .i64 x1) := (blk_cell V_x.out.blk 1).trans rfl
  have f_x_1 : a3.frozen? ⟨w_2.heap.size, 1, none⟩ = false := blk_frozen V_x.out.blk 1
  have V_y := n_y
  clear n_y
  have lt_y : sp < a3.heap.size := blk_lt V_y.out.blk
  have c_y_0 : a3.cell? ⟨sp, 0, none⟩ = some (.int .i64 x0) := (blk_cell V_y.out.blk 0).trans rfl
  have f_y_0 : a3.frozen? ⟨sp, 0, none⟩ = false := blk_frozen V_y.out.blk 0
  have c_y_1 : a3.cell? ⟨sp, 1, none⟩ = some (.int .i64 y1) := (blk_cell V_y.out.blk 1).trans rfl
  have f_y_1 : a3.frozen? ⟨sp, 1, none⟩ = false := blk_frozen V_y.out.blk 1
  have nR := Lib.hid (R.out.below hb_)
  clear R
  have R := nR
  clear nR
  clear hb_ hw_
  clear V_A lt_A c_A_0 f_A_0 c_A_1 f_A_1 c_A_2 f_A_2 c_A_3 f_A_3 c_A_4 f_A_4 c_A_5 f_A_5 c_A_6 f_A_6 c_A_7 f_A_7
  go_wp2_with fail
  refine start_ (n := 10) (S := fun w' => w'.cell? ⟨w_2.heap.size, 0, none⟩ = some (.int .i64 x0) ∧ w'.cell? ⟨w_2.heap.size, 1, none⟩ = some (.int .i64 x1) ∧ w'.cell? ⟨sp, 0, none⟩ = some (.int .i64 x0) ∧ w'.cell? ⟨sp, 1, none⟩ = some (.int .i64 y1)) (ds := []) #[false, false, false, false, false, false, false, false, false, false] (by kernel_rfl) rfl rfl ⟨cell_drew c_x_0, cell_drew c_x_1, cell_drew c_y_0, cell_drew c_y_1⟩ (fun hHeld => ?_)
  refine take_ (i := 0) (N := some 74) (v := ?_) (a' := ?_) #[true, false, false, false, false, false, false, false, false, false] rfl rfl (by kernel_rfl) (fun _ _ _ h => h) (Or.inl ⟨by rfl, ?_⟩) hHeld ?_ ?_
  rotate_left
  · rintro w' ⟨s0, s1, s2, s3⟩
    go_simp
    with_reducible rfl
  rotate_left
  · simp only [Act.put, List.setIfInBounds_toArray, List.set_cons_zero, List.set_cons_succ, i64_w, i32_w]
    rfl
  refine take_ (i := 2) (N := some 76) (v := ?_) (a' := ?_) #[true, false, true, false, false, false, false, false, false, false] rfl rfl (by kernel_rfl) (fun _ _ _ h => h) (Or.inl ⟨by rfl, ?_⟩) hHeld ?_ ?_
  rotate_left
  · rintro w' ⟨s0, s1, s2, s3⟩
    go_simp
    with_reducible rfl
  rotate_left
  · simp only [Act.put, List.setIfInBounds_toArray, List.set_cons_zero, List.set_cons_succ, i64_w, i32_w]
    rfl
  refine one_ (i := 1) (N := some 75) #[true, true, true, false, false, false, false, false, false, false] rfl rfl (by kernel_rfl) (by decide) (fun K hK => ?_)
  refine goes_ Try.func12 (by kernel_rfl) rfl #[.agg #[.int .i64 x0, .int .i64 x1]] (by rfl) rfl rfl (by simp only [List.map_toArray, List.map_cons, List.map_nil]; rfl) ?_
  with_reducible refine (runnellaw9_as.calls x0 x1 x0 x1 _ rfl).mono ?_
  rintro e_ z1 ⟨rfl, hb_⟩
  refine ⟨_, rfl, ?_⟩
  have Q_z1 := Lib.hid (below_step (below_drew (Below.refl a3.heap.size a3)) hb_)
  have P_z1 := Lib.hid hb_
  clear hb_
  refine hK.out _ _ ⟨pw_cell_below P_z1.out hHeld.1, pw_cell_below P_z1.out hHeld.2.1, pw_cell_below P_z1.out hHeld.2.2.1, pw_cell_below P_z1.out hHeld.2.2.2⟩ (fun hHeld => ?_)
  clear hK K
  refine norm_ (a' := ?_) ?_ ?_
  rotate_left
  · show Act.put _ (some 75) _ = _
    simp only [Act.put, List.setIfInBounds_toArray, List.set_cons_zero, List.set_cons_succ, i64_w, i32_w]
    rfl
  refine pure_ (i := 3) (N := some 77) (v := ?_) (a' := ?_) #[true, true, true, true, false, false, false, false, false, false] rfl rfl (by kernel_rfl) (fun _ _ _ h => h) (Or.inl ⟨by rfl, ?_⟩) ?_ ?_
  rotate_left
  · intro w'
    go_simp
    with_reducible rfl
  rotate_left
  · simp only [Act.put, List.setIfInBounds_toArray, List.set_cons_zero, List.set_cons_succ, i64_w, i32_w]
    rfl
  refine pure_ (i := 4) (N := some 78) (v := ?_) (a' := ?_) #[true, true, true, true, true, false, false, false, false, false] rfl rfl (by kernel_rfl) (fun _ _ _ h => h) (Or.inl ⟨by rfl, ?_⟩) ?_ ?_
  rotate_left
  · intro w'
    go_simp
    with_reducible rfl
  rotate_left
  · simp only [Act.put, List.setIfInBounds_toArray, List.set_cons_zero, List.set_cons_succ, i64_w, i32_w]
    rfl
  refine pure_ (i := 5) (N := some 79) (v := undef) (a' := ?_) #[true, true, true, true, true, true, false, false, false, false] rfl rfl (by kernel_rfl) (fun _ _ _ h => h) (Or.inr ⟨by rfl, rfl⟩) ?_ ?_
  rotate_left
  · simp only [Act.put, List.setIfInBounds_toArray, List.set_cons_zero, List.set_cons_succ, i64_w, i32_w]
    rfl
  refine pure_ (i := 6) (N := some 80) (v := undef) (a' := ?_) #[true, true, true, true, true, true, true, false, false, false] rfl rfl (by kernel_rfl) (fun _ _ _ h => h) (Or.inr ⟨by rfl, rfl⟩) ?_ ?_
  rotate_left
  · simp only [Act.put, List.setIfInBounds_toArray, List.set_cons_zero, List.set_cons_succ, i64_w, i32_w]
    rfl
  refine pure_ (i := 7) (N := some 81) (v := undef) (a' := ?_) #[true, true, true, true, true, true, true, true, false, false] rfl rfl (by kernel_rfl) (fun _ _ _ h => h) (Or.inr ⟨by rfl, rfl⟩) ?_ ?_
  rotate_left
  · simp only [Act.put, List.setIfInBounds_toArray, List.set_cons_zero, List.set_cons_succ, i64_w, i32_w]
    rfl
  refine pure_ (i := 8) (N := some 82) (v := ?_) (a' := ?_) #[true, true, true, true, true, true, true, true, true, false] rfl rfl (by kernel_rfl) (fun _ _ _ h => h) (Or.inl ⟨by rfl, ?_⟩) ?_ ?_
  rotate_left
  · intro w'
    go_simp
    with_reducible rfl
  rotate_left
  · simp only [Act.put, List.setIfInBounds_toArray, List.set_cons_zero, List.set_cons_succ, i64_w, i32_w]
    rfl
  refine pure_ (i := 9) (N := some 6) (v := ?_) (a' := ?_) #[true, true, true, true, true, true, true, true, true, true] rfl rfl (by kernel_rfl) (fun _ _ _ h => h) (Or.inl ⟨by rfl, ?_⟩) ?_ ?_
  rotate_left
  · intro w'
    go_simp
    with_reducible rfl
  rotate_left
  · simp only [Act.put, List.setIfInBounds_toArray, List.set_cons_zero, List.set_cons_succ, i64_w, i32_w]
    rfl
  refine done_ (by kernel_rfl) ?_
  have n_x : Hid (Var z1 okh okm w_2.heap.size #[.int .i64 x0, .int .i64 x1] 23) := Lib.hid (V_x.out.below Q_z1.out)
  have n_y : Hid (Var z1 okh okm sp #[.int .i64 x0, .int .i64 y1] 27) := Lib.hid (V_y.out.below Q_z1.out)
  clear V_x lt_x c_x_0 f_x_0 c_x_1 f_x_1 V_y lt_y c_y_0 f_y_0 c_y_1 f_y_1
  have V_x := n_x
  clear n_x
  have lt_x : w_2.heap.size < z1.heap.size := blk_lt V_x.out.blk
  have c_x_0 : z1.cell? ⟨w_2.heap.size, 0, none⟩ = some (.int .i64 x0) := (blk_cell V_x.out.blk 0).trans rfl
  have f_x_0 : z1.frozen? ⟨w_2.heap.size, 0, none⟩ = false := blk_frozen V_x.out.blk 0
  have c_x_1 : z1.cell? ⟨w_2.heap.size, 1, none⟩ = some (.int .i64 x1) := (blk_cell V_x.out.blk 1).trans rfl
  have f_x_1 : z1.frozen? ⟨w_2.heap.size, 1, none⟩ = false := blk_frozen V_x.out.blk 1
  have V_y := n_y
  clear n_y
  have lt_y : sp < z1.heap.size := blk_lt V_y.out.blk
  have c_y_0 : z1.cell? ⟨sp, 0, none⟩ = some (.int .i64 x0) := (blk_cell V_y.out.blk 0).trans rfl
  have f_y_0 : z1.frozen? ⟨sp, 0, none⟩ = false := blk_frozen V_y.out.blk 0
  have c_y_1 : z1.cell? ⟨sp, 1, none⟩ = some (.int .i64 y1) := (blk_cell V_y.out.blk 1).trans rfl
  have f_y_1 : z1.frozen? ⟨sp, 1, none⟩ = false := blk_frozen V_y.out.blk 1
  have nR := Lib.hid (R.out.below Q_z1.out)
  clear R
  have R := nR
  clear nR
  go_wp2_with fail
  go_ret
  exact ⟨rfl, R.out.after⟩
end Go.Proofs.Ytkhlfdcjgooogaa.P
