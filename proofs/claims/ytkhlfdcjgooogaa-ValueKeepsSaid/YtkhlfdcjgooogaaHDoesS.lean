/- does: an act of both heaps. -/
import Derived.Test.YtkhlfdcjgooogaaHDoesN
import Derived.Test.YtkhlfdcjgooogaaPf12
import Derived.Test.YtkhlfdcjgooogaaPf39
namespace Go.Proofs.Ytkhlfdcjgooogaa.P
open Go.RowKit Go.Proofs.YtkhlfdcjgooogaaW.PrintWords Go.Proofs.YtkhlfdcjgooogaaW.PrintLast Go.Proofs.YtkhlfdcjgooogaaW.PrintMore
set_option linter.unusedVariables false
set_option linter.unusedSimpArgs false
set_option maxRecDepth 100000 in
set_option maxHeartbeats 8000000 in
theorem does_set {w : World} {Bh Bm : Nat} {okh okm : Nat → Prop} {L M : List (List Int)} (o n a an i ii v vn pk : Int) {r0 r1 : Int} (hx : wrongF L a an i ii = r0) (hy : wrongF M a an i ii = r1) (h0 : (pk == 0) = false) (h1 : (pk == 1) = false) (T : Two w Bh Bm okh okm L M) (hp : runnellaw9_pick.f o 4 = some pk) :
    Calls Try.prog 17 #[.pointer (some ⟨Bh, 0, none⟩), .pointer (some ⟨Bm, 0, none⟩), .agg #[.int .i64 o, .int .i64 n, .int .i64 a, .int .i64 an, .int .i64 i, .int .i64 ii, .int .i64 v, .int .i64 vn]] w fun e w' => e = .returned (.bool (r0 == r1)) ∧ After w Bh Bm okh okm (setL L a an i ii v vn) (setL M a an i ii v vn) w' := by
  have HX := Lib.hid hx
  have HY := Lib.hid hy
  clear hx hy
  have HP := Lib.hid hp
  have R := Lib.hid (Run.start T)
  clear hp T
  go_enter Try.func17, Try.ntmps17
  go_wp2_with fail
  obtain ⟨a1, hw_⟩ : ∃ W_, W_ = w.alloc (.cells #[.int .i64 o, .int .i64 n, .int .i64 a, .int .i64 an, .int .i64 i, .int .i64 ii, .int .i64 v, .int .i64 vn] 53) := ⟨_, rfl⟩
  rw [← hw_]
  have hb_ : Below w.heap.size w a1 := by rw [hw_]; exact below_alloc (Below.refl _ _) _
  have n_A : Hid (Var a1 okh okm w.heap.size #[.int .i64 o, .int .i64 n, .int .i64 a, .int .i64 an, .int .i64 i, .int .i64 ii, .int .i64 v, .int .i64 vn] 53) := Lib.hid (Var.fresh R.out.two (by rw [hw_]; exact heap_alloc_new _ _) (Nat.le_refl _))
  have V_A := n_A
  clear n_A
  have lt_A : w.heap.size < a1.heap.size := blk_lt V_A.out.blk
  have c_A_0 : a1.cell? ⟨w.heap.size, 0, none⟩ = some (.int .i64 o) := (blk_cell V_A.out.blk 0).trans rfl
  have f_A_0 : a1.frozen? ⟨w.heap.size, 0, none⟩ = false := blk_frozen V_A.out.blk 0
  have c_A_1 : a1.cell? ⟨w.heap.size, 1, none⟩ = some (.int .i64 n) := (blk_cell V_A.out.blk 1).trans rfl
  have f_A_1 : a1.frozen? ⟨w.heap.size, 1, none⟩ = false := blk_frozen V_A.out.blk 1
  have c_A_2 : a1.cell? ⟨w.heap.size, 2, none⟩ = some (.int .i64 a) := (blk_cell V_A.out.blk 2).trans rfl
  have f_A_2 : a1.frozen? ⟨w.heap.size, 2, none⟩ = false := blk_frozen V_A.out.blk 2
  have c_A_3 : a1.cell? ⟨w.heap.size, 3, none⟩ = some (.int .i64 an) := (blk_cell V_A.out.blk 3).trans rfl
  have f_A_3 : a1.frozen? ⟨w.heap.size, 3, none⟩ = false := blk_frozen V_A.out.blk 3
  have c_A_4 : a1.cell? ⟨w.heap.size, 4, none⟩ = some (.int .i64 i) := (blk_cell V_A.out.blk 4).trans rfl
  have f_A_4 : a1.frozen? ⟨w.heap.size, 4, none⟩ = false := blk_frozen V_A.out.blk 4
  have c_A_5 : a1.cell? ⟨w.heap.size, 5, none⟩ = some (.int .i64 ii) := (blk_cell V_A.out.blk 5).trans rfl
  have f_A_5 : a1.frozen? ⟨w.heap.size, 5, none⟩ = false := blk_frozen V_A.out.blk 5
  have c_A_6 : a1.cell? ⟨w.heap.size, 6, none⟩ = some (.int .i64 v) := (blk_cell V_A.out.blk 6).trans rfl
  have f_A_6 : a1.frozen? ⟨w.heap.size, 6, none⟩ = false := blk_frozen V_A.out.blk 6
  have c_A_7 : a1.cell? ⟨w.heap.size, 7, none⟩ = some (.int .i64 vn) := (blk_cell V_A.out.blk 7).trans rfl
  have f_A_7 : a1.frozen? ⟨w.heap.size, 7, none⟩ = false := blk_frozen V_A.out.blk 7
  have nR := Lib.hid (R.out.below hb_)
  clear R
  have R := nR
  clear nR
  clear hb_ hw_
  refine (pick_below o pk _ HP.out).mono ?_
  rintro e_ w_1 ⟨rfl, hb_⟩
  have n_A : Hid (Var w_1 okh okm w.heap.size #[.int .i64 o, .int .i64 n, .int .i64 a, .int .i64 an, .int .i64 i, .int .i64 ii, .int .i64 v, .int .i64 vn] 53) := Lib.hid (V_A.out.below hb_)
  clear V_A lt_A c_A_0 f_A_0 c_A_1 f_A_1 c_A_2 f_A_2 c_A_3 f_A_3 c_A_4 f_A_4 c_A_5 f_A_5 c_A_6 f_A_6 c_A_7 f_A_7
  have V_A := n_A
  clear n_A
  have lt_A : w.heap.size < w_1.heap.size := blk_lt V_A.out.blk
  have c_A_0 : w_1.cell? ⟨w.heap.size, 0, none⟩ = some (.int .i64 o) := (blk_cell V_A.out.blk 0).trans rfl
  have f_A_0 : w_1.frozen? ⟨w.heap.size, 0, none⟩ = false := blk_frozen V_A.out.blk 0
  have c_A_1 : w_1.cell? ⟨w.heap.size, 1, none⟩ = some (.int .i64 n) := (blk_cell V_A.out.blk 1).trans rfl
  have f_A_1 : w_1.frozen? ⟨w.heap.size, 1, none⟩ = false := blk_frozen V_A.out.blk 1
  have c_A_2 : w_1.cell? ⟨w.heap.size, 2, none⟩ = some (.int .i64 a) := (blk_cell V_A.out.blk 2).trans rfl
  have f_A_2 : w_1.frozen? ⟨w.heap.size, 2, none⟩ = false := blk_frozen V_A.out.blk 2
  have c_A_3 : w_1.cell? ⟨w.heap.size, 3, none⟩ = some (.int .i64 an) := (blk_cell V_A.out.blk 3).trans rfl
  have f_A_3 : w_1.frozen? ⟨w.heap.size, 3, none⟩ = false := blk_frozen V_A.out.blk 3
  have c_A_4 : w_1.cell? ⟨w.heap.size, 4, none⟩ = some (.int .i64 i) := (blk_cell V_A.out.blk 4).trans rfl
  have f_A_4 : w_1.frozen? ⟨w.heap.size, 4, none⟩ = false := blk_frozen V_A.out.blk 4
  have c_A_5 : w_1.cell? ⟨w.heap.size, 5, none⟩ = some (.int .i64 ii) := (blk_cell V_A.out.blk 5).trans rfl
  have f_A_5 : w_1.frozen? ⟨w.heap.size, 5, none⟩ = false := blk_frozen V_A.out.blk 5
  have c_A_6 : w_1.cell? ⟨w.heap.size, 6, none⟩ = some (.int .i64 v) := (blk_cell V_A.out.blk 6).trans rfl
  have f_A_6 : w_1.frozen? ⟨w.heap.size, 6, none⟩ = false := blk_frozen V_A.out.blk 6
  have c_A_7 : w_1.cell? ⟨w.heap.size, 7, none⟩ = some (.int .i64 vn) := (blk_cell V_A.out.blk 7).trans rfl
  have f_A_7 : w_1.frozen? ⟨w.heap.size, 7, none⟩ = false := blk_frozen V_A.out.blk 7
  have nR := Lib.hid (R.out.below hb_)
  clear R
  have R := nR
  clear nR
  clear hb_
  go_wp2_with fail
  have RD := Lib.hid (R.out.below (below_drew (Below.refl _ _)))
  have VD := Lib.hid (V_A.out.below (below_drew (Below.refl _ _)))
  refine start_ (n := 21) (S := fun w' => w'.cell? ⟨w.heap.size, 2, none⟩ = some (.int .i64 a) ∧ w'.cell? ⟨w.heap.size, 3, none⟩ = some (.int .i64 an) ∧ w'.cell? ⟨w.heap.size, 4, none⟩ = some (.int .i64 i) ∧ w'.cell? ⟨w.heap.size, 5, none⟩ = some (.int .i64 ii) ∧ w'.cell? ⟨w.heap.size, 6, none⟩ = some (.int .i64 v) ∧ w'.cell? ⟨w.heap.size, 7, none⟩ = some (.int .i64 vn)) (ds := []) #[false, false, false, false, false, false, false, false, false, false, false, false, false, false, false, false, false, false, false, false, false] (by kernel_rfl) rfl rfl ⟨cell_drew c_A_2, cell_drew c_A_3, cell_drew c_A_4, cell_drew c_A_5, cell_drew c_A_6, cell_drew c_A_7⟩ (fun hHeld => ?_)
  refine pure_ (i := 0) (N := some 83) (v := ?_) (a' := ?_) #[true, false, false, false, false, false, false, false, false, false, false, false, false, false, false, false, false, false, false, false, false] rfl rfl (by kernel_rfl) (fun _ _ _ h => h) (Or.inl ⟨by rfl, ?_⟩) ?_ ?_
  rotate_left
  · intro w'
    go_simp
    with_reducible rfl
  rotate_left
  · simp only [Act.put, List.setIfInBounds_toArray, List.set_cons_zero, List.set_cons_succ, i64_w, i32_w]
    rfl
  refine pure_ (i := 1) (N := some 84) (v := ?_) (a' := ?_) #[true, true, false, false, false, false, false, false, false, false, false, false, false, false, false, false, false, false, false, false, false] rfl rfl (by kernel_rfl) (fun _ _ _ h => h) (Or.inl ⟨by rfl, ?_⟩) ?_ ?_
  rotate_left
  · intro w'
    go_simp
    with_reducible rfl
  rotate_left
  · simp only [Act.put, List.setIfInBounds_toArray, List.set_cons_zero, List.set_cons_succ, i64_w, i32_w]
    rfl
  refine pure_ (i := 3) (N := some 86) (v := ?_) (a' := ?_) #[true, true, false, true, false, false, false, false, false, false, false, false, false, false, false, false, false, false, false, false, false] rfl rfl (by kernel_rfl) (fun _ _ _ h => h) (Or.inl ⟨by rfl, ?_⟩) ?_ ?_
  rotate_left
  · intro w'
    go_simp
    with_reducible rfl
  rotate_left
  · simp only [Act.put, List.setIfInBounds_toArray, List.set_cons_zero, List.set_cons_succ, i64_w, i32_w]
    rfl
  refine pure_ (i := 5) (N := some 88) (v := ?_) (a' := ?_) #[true, true, false, true, false, true, false, false, false, false, false, false, false, false, false, false, false, false, false, false, false] rfl rfl (by kernel_rfl) (fun _ _ _ h => h) (Or.inl ⟨by rfl, ?_⟩) ?_ ?_
  rotate_left
  · intro w'
    go_simp
    with_reducible rfl
  rotate_left
  · simp only [Act.put, List.setIfInBounds_toArray, List.set_cons_zero, List.set_cons_succ, i64_w, i32_w]
    rfl
  refine pure_ (i := 8) (N := some 91) (v := ?_) (a' := ?_) #[true, true, false, true, false, true, false, false, true, false, false, false, false, false, false, false, false, false, false, false, false] rfl rfl (by kernel_rfl) (fun _ _ _ h => h) (Or.inl ⟨by rfl, ?_⟩) ?_ ?_
  rotate_left
  · intro w'
    go_simp
    with_reducible rfl
  rotate_left
  · simp only [Act.put, List.setIfInBounds_toArray, List.set_cons_zero, List.set_cons_succ, i64_w, i32_w]
    rfl
  refine pure_ (i := 9) (N := some 92) (v := ?_) (a' := ?_) #[true, true, false, true, false, true, false, false, true, true, false, false, false, false, false, false, false, false, false, false, false] rfl rfl (by kernel_rfl) (fun _ _ _ h => h) (Or.inl ⟨by rfl, ?_⟩) ?_ ?_
  rotate_left
  · intro w'
    go_simp
    with_reducible rfl
  rotate_left
  · simp only [Act.put, List.setIfInBounds_toArray, List.set_cons_zero, List.set_cons_succ, i64_w, i32_w]
    rfl
  refine pure_ (i := 12) (N := some 95) (v := ?_) (a' := ?_) #[true, true, false, true, false, true, false, false, true, true, false, false, true, false, false, false, false, false, false, false, false] rfl rfl (by kernel_rfl) (fun _ _ _ h => h) (Or.inl ⟨by rfl, ?_⟩) ?_ ?_
  rotate_left
  · intro w'
    go_simp
    with_reducible rfl
  rotate_left
  · simp only [Act.put, List.setIfInBounds_toArray, List.set_cons_zero, List.set_cons_succ, i64_w, i32_w]
    rfl
  refine pure_ (i := 15) (N := some 98) (v := ?_) (a' := ?_) #[true, true, false, true, false, true, false, false, true, true, false, false, true, false, false, true, false, false, false, false, false] rfl rfl (by kernel_rfl) (fun _ _ _ h => h) (Or.inl ⟨by rfl, ?_⟩) ?_ ?_
  rotate_left
  · intro w'
    go_simp
    with_reducible rfl
  rotate_left
  · simp only [Act.put, List.setIfInBounds_toArray, List.set_cons_zero, List.set_cons_succ, i64_w, i32_w]
    rfl
  refine take_ (i := 2) (N := some 85) (v := ?_) (a' := ?_) #[true, true, true, true, false, true, false, false, true, true, false, false, true, false, false, true, false, false, false, false, false] rfl rfl (by kernel_rfl) (fun _ _ _ h => h) (Or.inl ⟨by rfl, ?_⟩) hHeld ?_ ?_
  rotate_left
  · rintro w' ⟨s0, s1, s2, s3, s4, s5⟩
    go_simp
    with_reducible rfl
  rotate_left
  · simp only [Act.put, List.setIfInBounds_toArray, List.set_cons_zero, List.set_cons_succ, i64_w, i32_w]
    rfl
  refine take_ (i := 4) (N := some 87) (v := ?_) (a' := ?_) #[true, true, true, true, true, true, false, false, true, true, false, false, true, false, false, true, false, false, false, false, false] rfl rfl (by kernel_rfl) (fun _ _ _ h => h) (Or.inl ⟨by rfl, ?_⟩) hHeld ?_ ?_
  rotate_left
  · rintro w' ⟨s0, s1, s2, s3, s4, s5⟩
    go_simp
    with_reducible rfl
  rotate_left
  · simp only [Act.put, List.setIfInBounds_toArray, List.set_cons_zero, List.set_cons_succ, i64_w, i32_w]
    rfl
  refine take_ (i := 6) (N := some 89) (v := ?_) (a' := ?_) #[true, true, true, true, true, true, true, false, true, true, false, false, true, false, false, true, false, false, false, false, false] rfl rfl (by kernel_rfl) (fun _ _ _ h => h) (Or.inl ⟨by rfl, ?_⟩) hHeld ?_ ?_
  rotate_left
  · rintro w' ⟨s0, s1, s2, s3, s4, s5⟩
    go_simp
    with_reducible rfl
  rotate_left
  · simp only [Act.put, List.setIfInBounds_toArray, List.set_cons_zero, List.set_cons_succ, i64_w, i32_w]
    rfl
  refine take_ (i := 10) (N := some 93) (v := ?_) (a' := ?_) #[true, true, true, true, true, true, true, false, true, true, true, false, true, false, false, true, false, false, false, false, false] rfl rfl (by kernel_rfl) (fun _ _ _ h => h) (Or.inl ⟨by rfl, ?_⟩) hHeld ?_ ?_
  rotate_left
  · rintro w' ⟨s0, s1, s2, s3, s4, s5⟩
    go_simp
    with_reducible rfl
  rotate_left
  · simp only [Act.put, List.setIfInBounds_toArray, List.set_cons_zero, List.set_cons_succ, i64_w, i32_w]
    rfl
  refine take_ (i := 13) (N := some 96) (v := ?_) (a' := ?_) #[true, true, true, true, true, true, true, false, true, true, true, false, true, true, false, true, false, false, false, false, false] rfl rfl (by kernel_rfl) (fun _ _ _ h => h) (Or.inl ⟨by rfl, ?_⟩) hHeld ?_ ?_
  rotate_left
  · rintro w' ⟨s0, s1, s2, s3, s4, s5⟩
    go_simp
    with_reducible rfl
  rotate_left
  · simp only [Act.put, List.setIfInBounds_toArray, List.set_cons_zero, List.set_cons_succ, i64_w, i32_w]
    rfl
  refine take_ (i := 16) (N := some 99) (v := ?_) (a' := ?_) #[true, true, true, true, true, true, true, false, true, true, true, false, true, true, false, true, true, false, false, false, false] rfl rfl (by kernel_rfl) (fun _ _ _ h => h) (Or.inl ⟨by rfl, ?_⟩) hHeld ?_ ?_
  rotate_left
  · rintro w' ⟨s0, s1, s2, s3, s4, s5⟩
    go_simp
    with_reducible rfl
  rotate_left
  · simp only [Act.put, List.setIfInBounds_toArray, List.set_cons_zero, List.set_cons_succ, i64_w, i32_w]
    rfl
  refine one_ (i := 7) (N := some 90) #[true, true, true, true, true, true, true, true, true, true, true, false, true, true, false, true, true, false, false, false, false] rfl rfl (by kernel_rfl) (by decide) (fun K hK => ?_)
  refine goes_ Try.func24 (by kernel_rfl) rfl #[.pointer (some ⟨Bh, 0, none⟩), .agg #[.int .i64 a, .int .i64 an], .agg #[.int .i64 i, .int .i64 ii], .agg #[.int .i64 v, .int .i64 vn]] (by rfl) rfl rfl (by simp only [List.map_toArray, List.map_cons, List.map_nil]; rfl) ?_
  with_reducible refine (run_setH RD.out a an i ii v vn HX.out).mono ?_
  rintro e_ y1 ⟨rfl, R_, K_⟩
  refine ⟨_, rfl, ?_⟩
  have R1 := Lib.hid R_
  have V1 := Lib.hid (VD.out.keep K_)
  clear R_ K_
  refine hK.out _ _ ⟨(blk_cell V1.out.blk 2).trans rfl, (blk_cell V1.out.blk 3).trans rfl, (blk_cell V1.out.blk 4).trans rfl, (blk_cell V1.out.blk 5).trans rfl, (blk_cell V1.out.blk 6).trans rfl, (blk_cell V1.out.blk 7).trans rfl⟩ (fun hHeld => ?_)
  clear hK K
  refine norm_ (a' := ?_) ?_ ?_
  rotate_left
  · show Act.put _ (some 90) _ = _
    simp only [Act.put, List.setIfInBounds_toArray, List.set_cons_zero, List.set_cons_succ, i64_w, i32_w]
    rfl
  refine one_ (i := 11) (N := some 94) #[true, true, true, true, true, true, true, true, true, true, true, true, true, true, false, true, true, false, false, false, false] rfl rfl (by kernel_rfl) (by decide) (fun K hK => ?_)
  refine goes_ Try.func12 (by kernel_rfl) rfl #[.agg #[.int .i64 a, .int .i64 an]] (by rfl) rfl rfl (by simp only [List.map_toArray, List.map_cons, List.map_nil]; rfl) ?_
  with_reducible refine (runnellaw9_as.calls a an a an _ rfl).mono ?_
  rintro e_ y2 ⟨rfl, hb_⟩
  refine ⟨_, rfl, ?_⟩
  have R2 := Lib.hid (R1.out.below hb_)
  have V2 := Lib.hid (V1.out.below hb_)
  clear hb_
  refine hK.out _ _ ⟨(blk_cell V2.out.blk 2).trans rfl, (blk_cell V2.out.blk 3).trans rfl, (blk_cell V2.out.blk 4).trans rfl, (blk_cell V2.out.blk 5).trans rfl, (blk_cell V2.out.blk 6).trans rfl, (blk_cell V2.out.blk 7).trans rfl⟩ (fun hHeld => ?_)
  clear hK K
  refine norm_ (a' := ?_) ?_ ?_
  rotate_left
  · show Act.put _ (some 94) _ = _
    simp only [Act.put, List.setIfInBounds_toArray, List.set_cons_zero, List.set_cons_succ, i64_w, i32_w]
    rfl
  refine one_ (i := 14) (N := some 97) #[true, true, true, true, true, true, true, true, true, true, true, true, true, true, true, true, true, false, false, false, false] rfl rfl (by kernel_rfl) (by decide) (fun K hK => ?_)
  refine goes_ Try.func12 (by kernel_rfl) rfl #[.agg #[.int .i64 i, .int .i64 ii]] (by rfl) rfl rfl (by simp only [List.map_toArray, List.map_cons, List.map_nil]; rfl) ?_
  with_reducible refine (runnellaw9_as.calls i ii i ii _ rfl).mono ?_
  rintro e_ y3 ⟨rfl, hb_⟩
  refine ⟨_, rfl, ?_⟩
  have R3 := Lib.hid (R2.out.below hb_)
  have V3 := Lib.hid (V2.out.below hb_)
  clear hb_
  refine hK.out _ _ ⟨(blk_cell V3.out.blk 2).trans rfl, (blk_cell V3.out.blk 3).trans rfl, (blk_cell V3.out.blk 4).trans rfl, (blk_cell V3.out.blk 5).trans rfl, (blk_cell V3.out.blk 6).trans rfl, (blk_cell V3.out.blk 7).trans rfl⟩ (fun hHeld => ?_)
  clear hK K
  refine norm_ (a' := ?_) ?_ ?_
  rotate_left
  · show Act.put _ (some 97) _ = _
    simp only [Act.put, List.setIfInBounds_toArray, List.set_cons_zero, List.set_cons_succ, i64_w, i32_w]
    rfl
  refine one_ (i := 17) (N := some 100) #[true, true, true, true, true, true, true, true, true, true, true, true, true, true, true, true, true, true, false, false, false] rfl rfl (by kernel_rfl) (by decide) (fun K hK => ?_)
  refine goes_ Try.func12 (by kernel_rfl) rfl #[.agg #[.int .i64 v, .int .i64 vn]] (by rfl) rfl rfl (by simp only [List.map_toArray, List.map_cons, List.map_nil]; rfl) ?_
  with_reducible refine (runnellaw9_as.calls v vn v vn _ rfl).mono ?_
  rintro e_ y4 ⟨rfl, hb_⟩
  refine ⟨_, rfl, ?_⟩
  have R4 := Lib.hid (R3.out.below hb_)
  have V4 := Lib.hid (V3.out.below hb_)
  clear hb_
  refine hK.out _ _ ⟨(blk_cell V4.out.blk 2).trans rfl, (blk_cell V4.out.blk 3).trans rfl, (blk_cell V4.out.blk 4).trans rfl, (blk_cell V4.out.blk 5).trans rfl, (blk_cell V4.out.blk 6).trans rfl, (blk_cell V4.out.blk 7).trans rfl⟩ (fun hHeld => ?_)
  clear hK K
  refine norm_ (a' := ?_) ?_ ?_
  rotate_left
  · show Act.put _ (some 100) _ = _
    simp only [Act.put, List.setIfInBounds_toArray, List.set_cons_zero, List.set_cons_succ, i64_w, i32_w]
    rfl
  refine one_ (i := 18) (N := some 101) #[true, true, true, true, true, true, true, true, true, true, true, true, true, true, true, true, true, true, true, false, false] rfl rfl (by kernel_rfl) (by decide) (fun K hK => ?_)
  refine goes_ Try.func42 (by kernel_rfl) rfl #[.pointer (some ⟨Bm, 0, none⟩), .agg #[.int .i64 a, .int .i64 an], .agg #[.int .i64 i, .int .i64 ii], .agg #[.int .i64 v, .int .i64 vn]] (by rfl) rfl rfl (by simp only [List.map_toArray, List.map_cons, List.map_nil]; rfl) ?_
  with_reducible refine (run_setM R4.out a an i ii v vn HY.out).mono ?_
  rintro e_ y5 ⟨rfl, R_, K_⟩
  refine ⟨_, rfl, ?_⟩
  have R5 := Lib.hid R_
  have V5 := Lib.hid (V4.out.keep K_)
  clear R_ K_
  refine hK.out _ _ ⟨(blk_cell V5.out.blk 2).trans rfl, (blk_cell V5.out.blk 3).trans rfl, (blk_cell V5.out.blk 4).trans rfl, (blk_cell V5.out.blk 5).trans rfl, (blk_cell V5.out.blk 6).trans rfl, (blk_cell V5.out.blk 7).trans rfl⟩ (fun hHeld => ?_)
  clear hK K
  refine norm_ (a' := ?_) ?_ ?_
  rotate_left
  · show Act.put _ (some 101) _ = _
    simp only [Act.put, List.setIfInBounds_toArray, List.set_cons_zero, List.set_cons_succ, i64_w, i32_w]
    rfl
  refine pure_ (i := 19) (N := some 102) (v := ?_) (a' := ?_) #[true, true, true, true, true, true, true, true, true, true, true, true, true, true, true, true, true, true, true, true, false] rfl rfl (by kernel_rfl) (fun _ _ _ h => h) (Or.inl ⟨by rfl, ?_⟩) ?_ ?_
  rotate_left
  · intro w'
    go_simp
    with_reducible rfl
  rotate_left
  · simp only [Act.put, List.setIfInBounds_toArray, List.set_cons_zero, List.set_cons_succ, i64_w, i32_w]
    rfl
  refine pure_ (i := 20) (N := some 6) (v := ?_) (a' := ?_) #[true, true, true, true, true, true, true, true, true, true, true, true, true, true, true, true, true, true, true, true, true] rfl rfl (by kernel_rfl) (fun _ _ _ h => h) (Or.inl ⟨by rfl, ?_⟩) ?_ ?_
  rotate_left
  · intro w'
    go_simp
    with_reducible rfl
  rotate_left
  · simp only [Act.put, List.setIfInBounds_toArray, List.set_cons_zero, List.set_cons_succ, i64_w, i32_w]
    rfl
  refine done_ (by kernel_rfl) ?_
  go_wp2_with fail
  go_ret
  exact ⟨rfl, R5.out.after⟩
end Go.Proofs.Ytkhlfdcjgooogaa.P
