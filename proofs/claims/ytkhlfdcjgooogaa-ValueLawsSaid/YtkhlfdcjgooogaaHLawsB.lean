/- ValueLaws: the walk of the statement's function. -/
import Derived.Test.YtkhlfdcjgooogaaHeapJ
import Derived.Test.YtkhlfdcjgooogaaPf10
namespace Go.Proofs.Ytkhlfdcjgooogaa.P
open Go.RowKit Go.Proofs.YtkhlfdcjgooogaaW.PrintWords Go.Proofs.YtkhlfdcjgooogaaW.PrintLast Go.Proofs.YtkhlfdcjgooogaaW.PrintMore
set_option linter.unusedVariables false
set_option linter.unusedSimpArgs false
set_option maxRecDepth 100000 in
set_option maxHeartbeats 8000000 in
theorem laws_rest (a b q0 q1 r0 r1 p0 p1 x3 s0 s1 x4 m0 m1 lN sN mN nN : Int) (b3 b4 b5 b6 : Bool) (w : World) (hb : (b == 0) = false) (hb' : (b != 0) = true) (hs : s0 = 1 ∧ s1 = a) (hl0 : 0 ≤ lN) (hl1 : lN ≤ 1) (hs0 : 0 ≤ sN) (hs1 : sN ≤ 1) (hm0 : 0 ≤ mN) (hm1 : mN ≤ 1) (hsum : (lN + sN + mN == 1) = true)
    (h1 : value_Binary.f 9 ⟨#[47]⟩ 1 a 1 b = some (q0, q1, 0, true)) (h2 : value_Binary.f 9 ⟨#[37]⟩ 1 a 1 b = some (r0, r1, 0, true)) (h3 : value_Binary.f 9 ⟨#[42]⟩ q0 q1 1 b = some (p0, p1, x3, b3)) (h4 : value_Binary.f 9 ⟨#[43]⟩ p0 p1 r0 r1 = some (s0, s1, x4, b4))
    (h5 : value_Unary.f 9 ⟨#[45]⟩ 1 a = some (m0, m1, b5)) (h6 : value_Unary.f 9 ⟨#[45]⟩ m0 m1 = some (1, a, b6)) (h7 : value_Binary.f 9 ⟨#[60]⟩ 1 a 1 b = some (2, lN, 0, true)) (h8 : value_Binary.f 9 ⟨#[61, 61]⟩ 1 a 1 b = some (2, sN, 0, true)) (h9 : value_Binary.f 9 ⟨#[62]⟩ 1 a 1 b = some (2, mN, 0, true))
    (h10 : value_Unary.f 9 ⟨#[33]⟩ 2 sN = some (2, nN, true)) (h11 : value_Binary.f 9 ⟨#[33, 61]⟩ 1 a 1 b = some (2, nN, 0, true)) (h12 : value_Binary.f 9 ⟨#[124, 124]⟩ 2 lN 2 mN = some (2, nN, 0, true)) :
    Calls Try.prog 4 #[.int .i64 a, .int .i64 b] w fun e w' => e = .returned (.bool true) ∧ Below w.heap.size w w' := by
  obtain ⟨rfl, rfl⟩ := hs
  have H1 := Lib.hid h1
  have H2 := Lib.hid h2
  have H3 := Lib.hid h3
  have H4 := Lib.hid h4
  have H5 := Lib.hid h5
  have H6 := Lib.hid h6
  have H7 := Lib.hid h7
  have H8 := Lib.hid h8
  have H9 := Lib.hid h9
  have H10 := Lib.hid h10
  have H11 := Lib.hid h11
  have H12 := Lib.hid h12
  clear h1 h2 h3 h4 h5 h6 h7 h8 h9 h10 h11 h12
  have HB := Lib.hid (Below.refl w.heap.size w)
  go_enter Try.func4, Try.ntmps4
  go_wp2_with fail
  refine (runnellaw9_shown.calls true _ rfl).mono ?_
  rintro e w1 ⟨rfl, hb_⟩
  have nB := Lib.hid (below_step (by (with_reducible repeat (first | apply below_alloc | apply pw_below_drewN | apply below_drew1)); exact HB.out) hb_)
  clear HB hb_
  have HB := nB
  clear nB
  go_wp2_with fail
  refine (runnellaw9_num.calls s1 1 s1 _ rfl).mono ?_
  rintro e w2 ⟨rfl, hb_⟩
  have nB := Lib.hid (below_step (by (with_reducible repeat (first | apply below_alloc | apply pw_below_drewN | apply below_drew1)); exact HB.out) hb_)
  clear HB hb_
  have HB := nB
  clear nB
  go_wp2_with fail
  refine (runnellaw9_num.calls b 1 b _ rfl).mono ?_
  rintro e w3 ⟨rfl, hb_⟩
  have nB := Lib.hid (below_step (by (with_reducible repeat (first | apply below_alloc | apply pw_below_drewN | apply below_drew1)); exact HB.out) hb_)
  clear HB hb_
  have HB := nB
  clear nB
  go_wp2_with fail
  refine (value_Binary.calls 9 ⟨#[47]⟩ 1 s1 1 b q0 q1 0 true _ H1.out).mono ?_
  rintro e w4 ⟨rfl, hb_⟩
  have nB := Lib.hid (below_step (by (with_reducible repeat (first | apply below_alloc | apply pw_below_drewN | apply below_drew1)); exact HB.out) hb_)
  clear HB hb_
  have HB := nB
  clear nB
  go_wp2_with fail
  refine (runnellaw9_num.calls s1 1 s1 _ rfl).mono ?_
  rintro e w5 ⟨rfl, hb_⟩
  have n_q : Hid (w5.heap[w4.heap.size]? = some (.cells #[.int .i64 q0, .int .i64 q1] 23 (0, 0))) := Lib.hid (blk_below (by first | exact heap_alloc_new _ _ | exact blk_new1 _ _ _ | exact blk_new2 _ _ _ _ | (refine blk_alloc ?_ _; exact heap_alloc_new _ _) | (refine blk_alloc ?_ _; refine blk_alloc ?_ _; exact heap_alloc_new _ _) | (refine blk_alloc ?_ _; exact blk_new1 _ _ _)) hb_)
  have K_q := n_q
  clear n_q
  have lt_q : w4.heap.size < w5.heap.size := blk_lt K_q.out
  have c_q_0 : w5.cell? ⟨w4.heap.size, 0, none⟩ = some (.int .i64 q0) := (blk_cell K_q.out 0).trans rfl
  have f_q_0 : w5.frozen? ⟨w4.heap.size, 0, none⟩ = false := blk_frozen K_q.out 0
  have c_q_1 : w5.cell? ⟨w4.heap.size, 1, none⟩ = some (.int .i64 q1) := (blk_cell K_q.out 1).trans rfl
  have f_q_1 : w5.frozen? ⟨w4.heap.size, 1, none⟩ = false := blk_frozen K_q.out 1
  have nB := Lib.hid (below_step (by (with_reducible repeat (first | apply below_alloc | apply pw_below_drewN | apply below_drew1)); exact HB.out) hb_)
  clear HB hb_
  have HB := nB
  clear nB
  go_wp2_with fail
  refine (runnellaw9_num.calls b 1 b _ rfl).mono ?_
  rintro e w6 ⟨rfl, hb_⟩
  have n_q : Hid (w6.heap[w4.heap.size]? = some (.cells #[.int .i64 q0, .int .i64 q1] 23 (0, 0))) := Lib.hid (blk_below (by (with_reducible repeat (first | refine blk_drewN ?_ _ | refine blk_drew ?_ | refine blk_alloc ?_ _)); exact K_q.out) hb_)
  clear K_q lt_q c_q_0 c_q_1 f_q_0 f_q_1
  have K_q := n_q
  clear n_q
  have lt_q : w4.heap.size < w6.heap.size := blk_lt K_q.out
  have c_q_0 : w6.cell? ⟨w4.heap.size, 0, none⟩ = some (.int .i64 q0) := (blk_cell K_q.out 0).trans rfl
  have f_q_0 : w6.frozen? ⟨w4.heap.size, 0, none⟩ = false := blk_frozen K_q.out 0
  have c_q_1 : w6.cell? ⟨w4.heap.size, 1, none⟩ = some (.int .i64 q1) := (blk_cell K_q.out 1).trans rfl
  have f_q_1 : w6.frozen? ⟨w4.heap.size, 1, none⟩ = false := blk_frozen K_q.out 1
  have nB := Lib.hid (below_step (by (with_reducible repeat (first | apply below_alloc | apply pw_below_drewN | apply below_drew1)); exact HB.out) hb_)
  clear HB hb_
  have HB := nB
  clear nB
  go_wp2_with fail
  refine (value_Binary.calls 9 ⟨#[37]⟩ 1 s1 1 b r0 r1 0 true _ H2.out).mono ?_
  rintro e w7 ⟨rfl, hb_⟩
  have n_q : Hid (w7.heap[w4.heap.size]? = some (.cells #[.int .i64 q0, .int .i64 q1] 23 (0, 0))) := Lib.hid (blk_below (by (with_reducible repeat (first | refine blk_drewN ?_ _ | refine blk_drew ?_ | refine blk_alloc ?_ _)); exact K_q.out) hb_)
  clear K_q lt_q c_q_0 c_q_1 f_q_0 f_q_1
  have K_q := n_q
  clear n_q
  have lt_q : w4.heap.size < w7.heap.size := blk_lt K_q.out
  have c_q_0 : w7.cell? ⟨w4.heap.size, 0, none⟩ = some (.int .i64 q0) := (blk_cell K_q.out 0).trans rfl
  have f_q_0 : w7.frozen? ⟨w4.heap.size, 0, none⟩ = false := blk_frozen K_q.out 0
  have c_q_1 : w7.cell? ⟨w4.heap.size, 1, none⟩ = some (.int .i64 q1) := (blk_cell K_q.out 1).trans rfl
  have f_q_1 : w7.frozen? ⟨w4.heap.size, 1, none⟩ = false := blk_frozen K_q.out 1
  have nB := Lib.hid (below_step (by (with_reducible repeat (first | apply below_alloc | apply pw_below_drewN | apply below_drew1)); exact HB.out) hb_)
  clear HB hb_
  have HB := nB
  clear nB
  go_wp2_with fail
  obtain ⟨y1, hw_⟩ : ∃ W_, W_ = w7.alloc (.cells #[.int .i64 r0, .int .i64 r1] 23) := ⟨_, rfl⟩
  rw [← hw_]
  have hb_ : Below w7.heap.size w7 y1 := by rw [hw_]; exact below_alloc (Below.refl _ _) _
  have n_r : Hid (y1.heap[w7.heap.size]? = some (.cells #[.int .i64 r0, .int .i64 r1] 23 (0, 0))) := Lib.hid (by rw [hw_]; exact heap_alloc_new _ _)
  have n_q : Hid (y1.heap[w4.heap.size]? = some (.cells #[.int .i64 q0, .int .i64 q1] 23 (0, 0))) := Lib.hid (blk_below K_q.out hb_)
  clear K_q lt_q c_q_0 c_q_1 f_q_0 f_q_1
  have K_q := n_q
  clear n_q
  have lt_q : w4.heap.size < y1.heap.size := blk_lt K_q.out
  have c_q_0 : y1.cell? ⟨w4.heap.size, 0, none⟩ = some (.int .i64 q0) := (blk_cell K_q.out 0).trans rfl
  have f_q_0 : y1.frozen? ⟨w4.heap.size, 0, none⟩ = false := blk_frozen K_q.out 0
  have c_q_1 : y1.cell? ⟨w4.heap.size, 1, none⟩ = some (.int .i64 q1) := (blk_cell K_q.out 1).trans rfl
  have f_q_1 : y1.frozen? ⟨w4.heap.size, 1, none⟩ = false := blk_frozen K_q.out 1
  have K_r := n_r
  clear n_r
  have lt_r : w7.heap.size < y1.heap.size := blk_lt K_r.out
  have c_r_0 : y1.cell? ⟨w7.heap.size, 0, none⟩ = some (.int .i64 r0) := (blk_cell K_r.out 0).trans rfl
  have f_r_0 : y1.frozen? ⟨w7.heap.size, 0, none⟩ = false := blk_frozen K_r.out 0
  have c_r_1 : y1.cell? ⟨w7.heap.size, 1, none⟩ = some (.int .i64 r1) := (blk_cell K_r.out 1).trans rfl
  have f_r_1 : y1.frozen? ⟨w7.heap.size, 1, none⟩ = false := blk_frozen K_r.out 1
  have nB := Lib.hid (below_step HB.out hb_)
  clear HB hb_ hw_
  have HB := nB
  clear nB
  have Cq0 := Lib.hid c_q_0
  have Cq1 := Lib.hid c_q_1
  refine start_ (n := 12) (S := fun w' => w'.cell? ⟨w4.heap.size, 0, none⟩ = some (.int .i64 q0) ∧ w'.cell? ⟨w4.heap.size, 1, none⟩ = some (.int .i64 q1)) (ds := [9]) #[false, false, false, false, false, false, false, false, false, false, false, false] (by kernel_rfl) rfl rfl ⟨cell_drew (Cq0.out), cell_drew (Cq1.out)⟩ (fun hHeld => ?_)
  refine pure_ (i := 1) (N := some 60) (v := ?_) (a' := ?_) #[false, true, false, false, false, false, false, false, false, false, false, false] rfl rfl (by kernel_rfl) (fun _ _ _ h => h) (Or.inl ⟨by rfl, ?_⟩) ?_ ?_
  rotate_left
  · intro w'
    go_simp
    with_reducible rfl
  rotate_left
  · simp only [Act.put, List.setIfInBounds_toArray, List.set_cons_zero, List.set_cons_succ, i64_w, i32_w]
    rfl
  refine take_ (i := 0) (N := some 59) (v := ?_) (a' := ?_) #[true, true, false, false, false, false, false, false, false, false, false, false] rfl rfl (by kernel_rfl) (fun _ _ _ h => h) (Or.inl ⟨by rfl, ?_⟩) hHeld ?_ ?_
  rotate_left
  · rintro w' ⟨s0, s1⟩
    go_simp
    with_reducible rfl
  rotate_left
  · simp only [Act.put, List.setIfInBounds_toArray, List.set_cons_zero, List.set_cons_succ, i64_w, i32_w]
    rfl
  refine join_ (σ := Nat) 3 #[true, true, true, true, true, true, true, true, true, false, false, false] (fun s => [(61, .agg #[.int .i64 1, .int .i64 b]), (62, .tuple #[.agg #[.int .i64 p0, .int .i64 p1], .int .i64 x3, .bool b3]), (58, .tuple #[.agg #[.int .i64 p0, .int .i64 p1], .int .i64 x3, .bool b3]), (63, .agg #[.int .i64 p0, .int .i64 p1]), (64, .int .i64 x3), (65, .bool b3), (12, .pointer (some ⟨s, 0, none⟩))]) (fun s w' => Below y1.heap.size y1 w' ∧ w'.heap[s]? = some (.cells #[.int .i64 0, .int .i64 0] 23 (0, 0)) ∧ y1.heap.size ≤ s) ?_ ?_
  rotate_left
  · intro hCont
    refine two_ (i := 2) (j := 8) (Ni := some 61) (Nj := some 12) #[true, true, true, false, false, false, false, false, false, false, false, false] #[true, true, false, false, false, false, false, false, true, false, false, false] rfl rfl rfl rfl (by kernel_rfl) (by decide) (by decide) (fun K hK => ?_) (fun K hK => ?_)
    · skip
      refine goes_ Try.func16 (by kernel_rfl) rfl #[.int .i64 b] (by rfl) rfl rfl (by simp only [List.map_toArray, List.map_cons, List.map_nil]; rfl) ?_
      with_reducible refine (runnellaw9_num.calls b 1 b _ rfl).mono ?_
      rintro e w_p2 ⟨rfl, hb_⟩
      refine ⟨_, rfl, ?_⟩
      have B_p2 := Lib.hid (below_step ((below_drew (Below.refl y1.heap.size y1))) hb_)
      clear hb_
      refine hK.out _ _ ⟨pw_cell_below B_p2.out Cq0.out, pw_cell_below B_p2.out Cq1.out⟩ (fun hHeld => ?_)
      clear hK K
      refine norm_ (a' := ?_) ?_ ?_
      rotate_left
      · show Act.put _ (some 61) _ = _
        simp only [Act.put, List.setIfInBounds_toArray, List.set_cons_zero, List.set_cons_succ, i64_w, i32_w]
        rfl
      refine two_ (i := 3) (j := 8) (Ni := some 62) (Nj := some 12) #[true, true, true, true, false, false, false, false, false, false, false, false] #[true, true, true, false, false, false, false, false, true, false, false, false] rfl rfl rfl rfl (by kernel_rfl) (by decide) (by decide) (fun K hK => ?_) (fun K hK => ?_)
      · skip
        refine goes_ Try.func13 (by kernel_rfl) rfl #[.string ⟨#[42]⟩, .agg #[.int .i64 q0, .int .i64 q1], .agg #[.int .i64 1, .int .i64 b]] (by rfl) rfl rfl (by simp only [List.map_toArray, List.map_cons, List.map_nil]; rfl) ?_
        with_reducible refine (value_Binary.calls 9 ⟨#[42]⟩ q0 q1 1 b p0 p1 x3 b3 _ H3.out).mono ?_
        rintro e w_p2_3 ⟨rfl, hb_⟩
        refine ⟨_, rfl, ?_⟩
        have B_p2_3 := Lib.hid (below_step (B_p2.out) hb_)
        clear hb_
        refine hK.out _ _ ⟨pw_cell_below B_p2_3.out Cq0.out, pw_cell_below B_p2_3.out Cq1.out⟩ (fun hHeld => ?_)
        clear hK K
        refine norm_ (a' := ?_) ?_ ?_
        rotate_left
        · show Act.put _ (some 62) _ = _
          simp only [Act.put, List.setIfInBounds_toArray, List.set_cons_zero, List.set_cons_succ, i64_w, i32_w]
          rfl
        refine pure_ (i := 4) (N := some 58) (v := ?_) (a' := ?_) #[true, true, true, true, true, false, false, false, false, false, false, false] rfl rfl (by kernel_rfl) (fun _ _ _ h => h) (Or.inl ⟨by rfl, ?_⟩) ?_ ?_
        rotate_left
        · intro w'
          go_simp
          with_reducible rfl
        rotate_left
        · simp only [Act.put, List.setIfInBounds_toArray, List.set_cons_zero, List.set_cons_succ, i64_w, i32_w]
          rfl
        refine pure_ (i := 5) (N := some 63) (v := ?_) (a' := ?_) #[true, true, true, true, true, true, false, false, false, false, false, false] rfl rfl (by kernel_rfl) (fun _ _ _ h => h) (Or.inl ⟨by rfl, ?_⟩) ?_ ?_
        rotate_left
        · intro w'
          go_simp
          with_reducible rfl
        rotate_left
        · simp only [Act.put, List.setIfInBounds_toArray, List.set_cons_zero, List.set_cons_succ, i64_w, i32_w]
          rfl
        refine pure_ (i := 6) (N := some 64) (v := ?_) (a' := ?_) #[true, true, true, true, true, true, true, false, false, false, false, false] rfl rfl (by kernel_rfl) (fun _ _ _ h => h) (Or.inl ⟨by rfl, ?_⟩) ?_ ?_
        rotate_left
        · intro w'
          go_simp
          with_reducible rfl
        rotate_left
        · simp only [Act.put, List.setIfInBounds_toArray, List.set_cons_zero, List.set_cons_succ, i64_w, i32_w]
          rfl
        refine pure_ (i := 7) (N := some 65) (v := ?_) (a' := ?_) #[true, true, true, true, true, true, true, true, false, false, false, false] rfl rfl (by kernel_rfl) (fun _ _ _ h => h) (Or.inl ⟨by rfl, ?_⟩) ?_ ?_
        rotate_left
        · intro w'
          go_simp
          with_reducible rfl
        rotate_left
        · simp only [Act.put, List.setIfInBounds_toArray, List.set_cons_zero, List.set_cons_succ, i64_w, i32_w]
          rfl
        refine one_ (i := 8) (N := some 12) #[true, true, true, true, true, true, true, true, true, false, false, false] rfl rfl (by kernel_rfl) (by decide) (fun K hK => ?_)
        refine value_ (w1 := ?_) (v := ?_) (by rfl) rfl ?_ ?_
        rotate_left 2
        · go_simp
          constructor
          · rfl
          · rfl
        have B_p2_3_8 := Lib.hid (below_alloc (B_p2_3.out) (.cells #[.int .i64 0, .int .i64 0] 23))
        have N_p2_3_8 : Hid ((w_p2_3.alloc (.cells #[.int .i64 0, .int .i64 0] 23)).heap[w_p2_3.heap.size]? = some (.cells #[.int .i64 0, .int .i64 0] 23 (0, 0))) := Lib.hid (heap_alloc_new w_p2_3 _)
        have LE_N_p2_3_8 : Hid (y1.heap.size ≤ w_p2_3.heap.size) := Lib.hid ((B_p2_3.out).size)
        refine hK.out _ _ ⟨pw_cell_below B_p2_3_8.out Cq0.out, pw_cell_below B_p2_3_8.out Cq1.out⟩ (fun hHeld => ?_)
        clear hK K
        refine norm_ (a' := ?_) ?_ ?_
        rotate_left
        · show Act.put _ (some 12) _ = _
          simp only [Act.put, List.setIfInBounds_toArray, List.set_cons_zero, List.set_cons_succ, i64_w, i32_w]
          rfl
        exact norm_ (by simp only [putAll, Act.put, List.setIfInBounds_toArray, List.set_cons_zero, List.set_cons_succ]) (hCont w_p2_3.heap.size _ ⟨B_p2_3_8.out, N_p2_3_8.out, LE_N_p2_3_8.out⟩)
      · skip
        refine value_ (w1 := ?_) (v := ?_) (by rfl) rfl ?_ ?_
        rotate_left 2
        · go_simp
          constructor
          · rfl
          · rfl
        have B_p2_8 := Lib.hid (below_alloc (B_p2.out) (.cells #[.int .i64 0, .int .i64 0] 23))
        have N_p2_8 : Hid ((w_p2.alloc (.cells #[.int .i64 0, .int .i64 0] 23)).heap[w_p2.heap.size]? = some (.cells #[.int .i64 0, .int .i64 0] 23 (0, 0))) := Lib.hid (heap_alloc_new w_p2 _)
        have LE_N_p2_8 : Hid (y1.heap.size ≤ w_p2.heap.size) := Lib.hid ((B_p2.out).size)
        refine hK.out _ _ ⟨pw_cell_below B_p2_8.out Cq0.out, pw_cell_below B_p2_8.out Cq1.out⟩ (fun hHeld => ?_)
        clear hK K
        refine norm_ (a' := ?_) ?_ ?_
        rotate_left
        · show Act.put _ (some 12) _ = _
          simp only [Act.put, List.setIfInBounds_toArray, List.set_cons_zero, List.set_cons_succ, i64_w, i32_w]
          rfl
        refine one_ (i := 3) (N := some 62) #[true, true, true, true, false, false, false, false, true, false, false, false] rfl rfl (by kernel_rfl) (by decide) (fun K hK => ?_)
        refine goes_ Try.func13 (by kernel_rfl) rfl #[.string ⟨#[42]⟩, .agg #[.int .i64 q0, .int .i64 q1], .agg #[.int .i64 1, .int .i64 b]] (by rfl) rfl rfl (by simp only [List.map_toArray, List.map_cons, List.map_nil]; rfl) ?_
        with_reducible refine (value_Binary.calls 9 ⟨#[42]⟩ q0 q1 1 b p0 p1 x3 b3 _ H3.out).mono ?_
        rintro e w_p2_8_3 ⟨rfl, hb_⟩
        refine ⟨_, rfl, ?_⟩
        have B_p2_8_3 := Lib.hid (below_step (B_p2_8.out) hb_)
        have N_p2_8_3 := Lib.hid (blk_below N_p2_8.out hb_)
        have LE_N_p2_8_3 := Lib.hid LE_N_p2_8.out
        clear hb_
        refine hK.out _ _ ⟨pw_cell_below B_p2_8_3.out Cq0.out, pw_cell_below B_p2_8_3.out Cq1.out⟩ (fun hHeld => ?_)
        clear hK K
        refine norm_ (a' := ?_) ?_ ?_
        rotate_left
        · show Act.put _ (some 62) _ = _
          simp only [Act.put, List.setIfInBounds_toArray, List.set_cons_zero, List.set_cons_succ, i64_w, i32_w]
          rfl
        refine pure_ (i := 4) (N := some 58) (v := ?_) (a' := ?_) #[true, true, true, true, true, false, false, false, true, false, false, false] rfl rfl (by kernel_rfl) (fun _ _ _ h => h) (Or.inl ⟨by rfl, ?_⟩) ?_ ?_
        rotate_left
        · intro w'
          go_simp
          with_reducible rfl
        rotate_left
        · simp only [Act.put, List.setIfInBounds_toArray, List.set_cons_zero, List.set_cons_succ, i64_w, i32_w]
          rfl
        refine pure_ (i := 5) (N := some 63) (v := ?_) (a' := ?_) #[true, true, true, true, true, true, false, false, true, false, false, false] rfl rfl (by kernel_rfl) (fun _ _ _ h => h) (Or.inl ⟨by rfl, ?_⟩) ?_ ?_
        rotate_left
        · intro w'
          go_simp
          with_reducible rfl
        rotate_left
        · simp only [Act.put, List.setIfInBounds_toArray, List.set_cons_zero, List.set_cons_succ, i64_w, i32_w]
          rfl
        refine pure_ (i := 6) (N := some 64) (v := ?_) (a' := ?_) #[true, true, true, true, true, true, true, false, true, false, false, false] rfl rfl (by kernel_rfl) (fun _ _ _ h => h) (Or.inl ⟨by rfl, ?_⟩) ?_ ?_
        rotate_left
        · intro w'
          go_simp
          with_reducible rfl
        rotate_left
        · simp only [Act.put, List.setIfInBounds_toArray, List.set_cons_zero, List.set_cons_succ, i64_w, i32_w]
          rfl
        refine pure_ (i := 7) (N := some 65) (v := ?_) (a' := ?_) #[true, true, true, true, true, true, true, true, true, false, false, false] rfl rfl (by kernel_rfl) (fun _ _ _ h => h) (Or.inl ⟨by rfl, ?_⟩) ?_ ?_
        rotate_left
        · intro w'
          go_simp
          with_reducible rfl
        rotate_left
        · simp only [Act.put, List.setIfInBounds_toArray, List.set_cons_zero, List.set_cons_succ, i64_w, i32_w]
          rfl
        exact norm_ (by simp only [putAll, Act.put, List.setIfInBounds_toArray, List.set_cons_zero, List.set_cons_succ]) (hCont w_p2.heap.size _ ⟨B_p2_8_3.out, N_p2_8_3.out, LE_N_p2_8_3.out⟩)
    · skip
      refine value_ (w1 := ?_) (v := ?_) (by rfl) rfl ?_ ?_
      rotate_left 2
      · go_simp
        constructor
        · rfl
        · rfl
      have B_p8 := Lib.hid (below_alloc ((below_drew (Below.refl y1.heap.size y1))) (.cells #[.int .i64 0, .int .i64 0] 23))
      have N_p8 : Hid ((y1.drew.alloc (.cells #[.int .i64 0, .int .i64 0] 23)).heap[y1.heap.size]? = some (.cells #[.int .i64 0, .int .i64 0] 23 (0, 0))) := Lib.hid (heap_alloc_new y1.drew _)
      have LE_N_p8 : Hid (y1.heap.size ≤ y1.heap.size) := Lib.hid (Nat.le_refl _)
      refine hK.out _ _ ⟨pw_cell_below B_p8.out Cq0.out, pw_cell_below B_p8.out Cq1.out⟩ (fun hHeld => ?_)
      clear hK K
      refine norm_ (a' := ?_) ?_ ?_
      rotate_left
      · show Act.put _ (some 12) _ = _
        simp only [Act.put, List.setIfInBounds_toArray, List.set_cons_zero, List.set_cons_succ, i64_w, i32_w]
        rfl
      refine one_ (i := 2) (N := some 61) #[true, true, true, false, false, false, false, false, true, false, false, false] rfl rfl (by kernel_rfl) (by decide) (fun K hK => ?_)
      refine goes_ Try.func16 (by kernel_rfl) rfl #[.int .i64 b] (by rfl) rfl rfl (by simp only [List.map_toArray, List.map_cons, List.map_nil]; rfl) ?_
      with_reducible refine (runnellaw9_num.calls b 1 b _ rfl).mono ?_
      rintro e w_p8_2 ⟨rfl, hb_⟩
      refine ⟨_, rfl, ?_⟩
      have B_p8_2 := Lib.hid (below_step (B_p8.out) hb_)
      have N_p8_2 := Lib.hid (blk_below N_p8.out hb_)
      have LE_N_p8_2 := Lib.hid LE_N_p8.out
      clear hb_
      refine hK.out _ _ ⟨pw_cell_below B_p8_2.out Cq0.out, pw_cell_below B_p8_2.out Cq1.out⟩ (fun hHeld => ?_)
      clear hK K
      refine norm_ (a' := ?_) ?_ ?_
      rotate_left
      · show Act.put _ (some 61) _ = _
        simp only [Act.put, List.setIfInBounds_toArray, List.set_cons_zero, List.set_cons_succ, i64_w, i32_w]
        rfl
      refine one_ (i := 3) (N := some 62) #[true, true, true, true, false, false, false, false, true, false, false, false] rfl rfl (by kernel_rfl) (by decide) (fun K hK => ?_)
      refine goes_ Try.func13 (by kernel_rfl) rfl #[.string ⟨#[42]⟩, .agg #[.int .i64 q0, .int .i64 q1], .agg #[.int .i64 1, .int .i64 b]] (by rfl) rfl rfl (by simp only [List.map_toArray, List.map_cons, List.map_nil]; rfl) ?_
      with_reducible refine (value_Binary.calls 9 ⟨#[42]⟩ q0 q1 1 b p0 p1 x3 b3 _ H3.out).mono ?_
      rintro e w_p8_2_3 ⟨rfl, hb_⟩
      refine ⟨_, rfl, ?_⟩
      have B_p8_2_3 := Lib.hid (below_step (B_p8_2.out) hb_)
      have N_p8_2_3 := Lib.hid (blk_below N_p8_2.out hb_)
      have LE_N_p8_2_3 := Lib.hid LE_N_p8_2.out
      clear hb_
      refine hK.out _ _ ⟨pw_cell_below B_p8_2_3.out Cq0.out, pw_cell_below B_p8_2_3.out Cq1.out⟩ (fun hHeld => ?_)
      clear hK K
      refine norm_ (a' := ?_) ?_ ?_
      rotate_left
      · show Act.put _ (some 62) _ = _
        simp only [Act.put, List.setIfInBounds_toArray, List.set_cons_zero, List.set_cons_succ, i64_w, i32_w]
        rfl
      refine pure_ (i := 4) (N := some 58) (v := ?_) (a' := ?_) #[true, true, true, true, true, false, false, false, true, false, false, false] rfl rfl (by kernel_rfl) (fun _ _ _ h => h) (Or.inl ⟨by rfl, ?_⟩) ?_ ?_
      rotate_left
      · intro w'
        go_simp
        with_reducible rfl
      rotate_left
      · simp only [Act.put, List.setIfInBounds_toArray, List.set_cons_zero, List.set_cons_succ, i64_w, i32_w]
        rfl
      refine pure_ (i := 5) (N := some 63) (v := ?_) (a' := ?_) #[true, true, true, true, true, true, false, false, true, false, false, false] rfl rfl (by kernel_rfl) (fun _ _ _ h => h) (Or.inl ⟨by rfl, ?_⟩) ?_ ?_
      rotate_left
      · intro w'
        go_simp
        with_reducible rfl
      rotate_left
      · simp only [Act.put, List.setIfInBounds_toArray, List.set_cons_zero, List.set_cons_succ, i64_w, i32_w]
        rfl
      refine pure_ (i := 6) (N := some 64) (v := ?_) (a' := ?_) #[true, true, true, true, true, true, true, false, true, false, false, false] rfl rfl (by kernel_rfl) (fun _ _ _ h => h) (Or.inl ⟨by rfl, ?_⟩) ?_ ?_
      rotate_left
      · intro w'
        go_simp
        with_reducible rfl
      rotate_left
      · simp only [Act.put, List.setIfInBounds_toArray, List.set_cons_zero, List.set_cons_succ, i64_w, i32_w]
        rfl
      refine pure_ (i := 7) (N := some 65) (v := ?_) (a' := ?_) #[true, true, true, true, true, true, true, true, true, false, false, false] rfl rfl (by kernel_rfl) (fun _ _ _ h => h) (Or.inl ⟨by rfl, ?_⟩) ?_ ?_
      rotate_left
      · intro w'
        go_simp
        with_reducible rfl
      rotate_left
      · simp only [Act.put, List.setIfInBounds_toArray, List.set_cons_zero, List.set_cons_succ, i64_w, i32_w]
        rfl
      exact norm_ (by simp only [putAll, Act.put, List.setIfInBounds_toArray, List.set_cons_zero, List.set_cons_succ]) (hCont y1.heap.size _ ⟨B_p8_2_3.out, N_p8_2_3.out, LE_N_p8_2_3.out⟩)
  rintro sp wFp ⟨hF1p, hF2p, hF3p⟩
  have hHeld := True.intro
  refine norm_ (a' := ?_) ?_ ?_
  rotate_left
  · simp only [putAll, Act.put, List.setIfInBounds_toArray, List.set_cons_zero, List.set_cons_succ]
    rfl
  refine last_ (i := 9) (N := none) #[true, true, true, true, true, true, true, true, true, true, false, false] rfl rfl (by kernel_rfl) (by decide) (fun K hK => ?_)
  have cv0 := (blk_cell hF2p 0).trans rfl
  have cv1 := (blk_cell hF2p 1).trans rfl
  have fv0 := blk_frozen hF2p 0
  have fv1 := blk_frozen hF2p 1
  refine skip_ (w1 := ?_) (by rfl) rfl ?_ ?_
  rotate_left
  · go_simp
    rfl
  refine hK.out _ _ ?_
  clear hK K
  refine pure_ (i := 10) (N := some 13) (v := ?_) (a' := ?_) #[true, true, true, true, true, true, true, true, true, true, true, false] rfl rfl (by kernel_rfl) (fun _ _ _ h => h) (Or.inl ⟨by rfl, ?_⟩) ?_ ?_
  rotate_left
  · intro w'
    go_simp
    with_reducible rfl
  rotate_left
  · simp only [Act.put, List.setIfInBounds_toArray, List.set_cons_zero, List.set_cons_succ, i64_w, i32_w]
    rfl
  refine pure_ (i := 11) (N := some 14) (v := ?_) (a' := ?_) #[true, true, true, true, true, true, true, true, true, true, true, true] rfl rfl (by kernel_rfl) (fun _ _ _ h => h) (Or.inl ⟨by rfl, ?_⟩) ?_ ?_
  rotate_left
  · intro w'
    go_simp
    with_reducible rfl
  rotate_left
  · simp only [Act.put, List.setIfInBounds_toArray, List.set_cons_zero, List.set_cons_succ, i64_w, i32_w]
    rfl
  refine done_ (by kernel_rfl) ?_
  clear cv0 cv1 fv0 fv1 Cq0 Cq1
  obtain ⟨y2, hw_⟩ : ∃ y2, y2 = (wFp.setCell ⟨sp, 0, none⟩ (.int .i64 p0)).setCell ⟨sp, 1, none⟩ (.int .i64 p1) := ⟨_, rfl⟩
  rw [← hw_]
  have hb_ : Below y1.heap.size y1 y2 := by rw [hw_]; exact Below.setCell (Below.setCell (hF1p) (p := ⟨sp, _, none⟩) hF3p _) (p := ⟨sp, _, none⟩) hF3p _
  have n_p : Hid (y2.heap[sp]? = some (.cells #[.int .i64 p0, .int .i64 p1] 23 (0, 0))) := Lib.hid (by rw [hw_]; exact blk_put (blk_put (hF2p) 0 _ rfl) 1 _ rfl)
  have n_q : Hid (y2.heap[w4.heap.size]? = some (.cells #[.int .i64 q0, .int .i64 q1] 23 (0, 0))) := Lib.hid (blk_below K_q.out hb_)
  have n_r : Hid (y2.heap[w7.heap.size]? = some (.cells #[.int .i64 r0, .int .i64 r1] 23 (0, 0))) := Lib.hid (blk_below K_r.out hb_)
  clear K_q lt_q c_q_0 c_q_1 f_q_0 f_q_1 K_r lt_r c_r_0 c_r_1 f_r_0 f_r_1
  have K_q := n_q
  clear n_q
  have lt_q : w4.heap.size < y2.heap.size := blk_lt K_q.out
  have c_q_0 : y2.cell? ⟨w4.heap.size, 0, none⟩ = some (.int .i64 q0) := (blk_cell K_q.out 0).trans rfl
  have f_q_0 : y2.frozen? ⟨w4.heap.size, 0, none⟩ = false := blk_frozen K_q.out 0
  have c_q_1 : y2.cell? ⟨w4.heap.size, 1, none⟩ = some (.int .i64 q1) := (blk_cell K_q.out 1).trans rfl
  have f_q_1 : y2.frozen? ⟨w4.heap.size, 1, none⟩ = false := blk_frozen K_q.out 1
  have K_r := n_r
  clear n_r
  have lt_r : w7.heap.size < y2.heap.size := blk_lt K_r.out
  have c_r_0 : y2.cell? ⟨w7.heap.size, 0, none⟩ = some (.int .i64 r0) := (blk_cell K_r.out 0).trans rfl
  have f_r_0 : y2.frozen? ⟨w7.heap.size, 0, none⟩ = false := blk_frozen K_r.out 0
  have c_r_1 : y2.cell? ⟨w7.heap.size, 1, none⟩ = some (.int .i64 r1) := (blk_cell K_r.out 1).trans rfl
  have f_r_1 : y2.frozen? ⟨w7.heap.size, 1, none⟩ = false := blk_frozen K_r.out 1
  have K_p := n_p
  clear n_p
  have lt_p : sp < y2.heap.size := blk_lt K_p.out
  have c_p_0 : y2.cell? ⟨sp, 0, none⟩ = some (.int .i64 p0) := (blk_cell K_p.out 0).trans rfl
  have f_p_0 : y2.frozen? ⟨sp, 0, none⟩ = false := blk_frozen K_p.out 0
  have c_p_1 : y2.cell? ⟨sp, 1, none⟩ = some (.int .i64 p1) := (blk_cell K_p.out 1).trans rfl
  have f_p_1 : y2.frozen? ⟨sp, 1, none⟩ = false := blk_frozen K_p.out 1
  have nB := Lib.hid (below_step HB.out hb_)
  clear HB hb_ hw_
  have HB := nB
  clear nB
  clear K_q lt_q c_q_0 c_q_1 f_q_0 f_q_1
  go_wp2_with fail
  refine (value_Binary.calls 9 ⟨#[43]⟩ p0 p1 r0 r1 1 s1 x4 b4 _ H4.out).mono ?_
  rintro e w8 ⟨rfl, hb_⟩
  have n_r : Hid (w8.heap[w7.heap.size]? = some (.cells #[.int .i64 r0, .int .i64 r1] 23 (0, 0))) := Lib.hid (blk_below (by (with_reducible repeat (first | refine blk_drewN ?_ _ | refine blk_drew ?_ | refine blk_alloc ?_ _)); exact K_r.out) hb_)
  have n_p : Hid (w8.heap[sp]? = some (.cells #[.int .i64 p0, .int .i64 p1] 23 (0, 0))) := Lib.hid (blk_below (by (with_reducible repeat (first | refine blk_drewN ?_ _ | refine blk_drew ?_ | refine blk_alloc ?_ _)); exact K_p.out) hb_)
  clear K_r lt_r c_r_0 c_r_1 f_r_0 f_r_1 K_p lt_p c_p_0 c_p_1 f_p_0 f_p_1
  have K_r := n_r
  clear n_r
  have lt_r : w7.heap.size < w8.heap.size := blk_lt K_r.out
  have c_r_0 : w8.cell? ⟨w7.heap.size, 0, none⟩ = some (.int .i64 r0) := (blk_cell K_r.out 0).trans rfl
  have f_r_0 : w8.frozen? ⟨w7.heap.size, 0, none⟩ = false := blk_frozen K_r.out 0
  have c_r_1 : w8.cell? ⟨w7.heap.size, 1, none⟩ = some (.int .i64 r1) := (blk_cell K_r.out 1).trans rfl
  have f_r_1 : w8.frozen? ⟨w7.heap.size, 1, none⟩ = false := blk_frozen K_r.out 1
  have K_p := n_p
  clear n_p
  have lt_p : sp < w8.heap.size := blk_lt K_p.out
  have c_p_0 : w8.cell? ⟨sp, 0, none⟩ = some (.int .i64 p0) := (blk_cell K_p.out 0).trans rfl
  have f_p_0 : w8.frozen? ⟨sp, 0, none⟩ = false := blk_frozen K_p.out 0
  have c_p_1 : w8.cell? ⟨sp, 1, none⟩ = some (.int .i64 p1) := (blk_cell K_p.out 1).trans rfl
  have f_p_1 : w8.frozen? ⟨sp, 1, none⟩ = false := blk_frozen K_p.out 1
  have nB := Lib.hid (below_step (by (with_reducible repeat (first | apply below_alloc | apply pw_below_drewN | apply below_drew1)); exact HB.out) hb_)
  clear HB hb_
  have HB := nB
  clear nB
  clear K_p lt_p c_p_0 c_p_1 f_p_0 f_p_1
  clear K_r lt_r c_r_0 c_r_1 f_r_0 f_r_1
  go_wp2_with fail
  refine (runnellaw9_num.calls s1 1 s1 _ rfl).mono ?_
  rintro e w9 ⟨rfl, hb_⟩
  have n_s : Hid (w9.heap[w8.heap.size]? = some (.cells #[.int .i64 1, .int .i64 s1] 23 (0, 0))) := Lib.hid (blk_below (by first | exact heap_alloc_new _ _ | exact blk_new1 _ _ _ | exact blk_new2 _ _ _ _ | (refine blk_alloc ?_ _; exact heap_alloc_new _ _) | (refine blk_alloc ?_ _; refine blk_alloc ?_ _; exact heap_alloc_new _ _) | (refine blk_alloc ?_ _; exact blk_new1 _ _ _)) hb_)
  have K_s := n_s
  clear n_s
  have lt_s : w8.heap.size < w9.heap.size := blk_lt K_s.out
  have c_s_0 : w9.cell? ⟨w8.heap.size, 0, none⟩ = some (.int .i64 1) := (blk_cell K_s.out 0).trans rfl
  have f_s_0 : w9.frozen? ⟨w8.heap.size, 0, none⟩ = false := blk_frozen K_s.out 0
  have c_s_1 : w9.cell? ⟨w8.heap.size, 1, none⟩ = some (.int .i64 s1) := (blk_cell K_s.out 1).trans rfl
  have f_s_1 : w9.frozen? ⟨w8.heap.size, 1, none⟩ = false := blk_frozen K_s.out 1
  have nB := Lib.hid (below_step (by (with_reducible repeat (first | apply below_alloc | apply pw_below_drewN | apply below_drew1)); exact HB.out) hb_)
  clear HB hb_
  have HB := nB
  clear nB
  go_wp2_with fail
  refine (value_Unary.calls 9 ⟨#[45]⟩ 1 s1 m0 m1 b5 _ H5.out).mono ?_
  rintro e w10 ⟨rfl, hb_⟩
  have n_s : Hid (w10.heap[w8.heap.size]? = some (.cells #[.int .i64 1, .int .i64 s1] 23 (0, 0))) := Lib.hid (blk_below (by (with_reducible repeat (first | refine blk_drewN ?_ _ | refine blk_drew ?_ | refine blk_alloc ?_ _)); exact K_s.out) hb_)
  clear K_s lt_s c_s_0 c_s_1 f_s_0 f_s_1
  have K_s := n_s
  clear n_s
  have lt_s : w8.heap.size < w10.heap.size := blk_lt K_s.out
  have c_s_0 : w10.cell? ⟨w8.heap.size, 0, none⟩ = some (.int .i64 1) := (blk_cell K_s.out 0).trans rfl
  have f_s_0 : w10.frozen? ⟨w8.heap.size, 0, none⟩ = false := blk_frozen K_s.out 0
  have c_s_1 : w10.cell? ⟨w8.heap.size, 1, none⟩ = some (.int .i64 s1) := (blk_cell K_s.out 1).trans rfl
  have f_s_1 : w10.frozen? ⟨w8.heap.size, 1, none⟩ = false := blk_frozen K_s.out 1
  have nB := Lib.hid (below_step (by (with_reducible repeat (first | apply below_alloc | apply pw_below_drewN | apply below_drew1)); exact HB.out) hb_)
  clear HB hb_
  have HB := nB
  clear nB
  go_wp2_with fail
  refine (value_Unary.calls 9 ⟨#[45]⟩ m0 m1 1 s1 b6 _ H6.out).mono ?_
  rintro e w11 ⟨rfl, hb_⟩
  have n_s : Hid (w11.heap[w8.heap.size]? = some (.cells #[.int .i64 1, .int .i64 s1] 23 (0, 0))) := Lib.hid (blk_below (by (with_reducible repeat (first | refine blk_drewN ?_ _ | refine blk_drew ?_ | refine blk_alloc ?_ _)); exact K_s.out) hb_)
  have n_m : Hid (w11.heap[w10.heap.size]? = some (.cells #[.int .i64 m0, .int .i64 m1] 23 (0, 0))) := Lib.hid (blk_below (by first | exact heap_alloc_new _ _ | exact blk_new1 _ _ _ | exact blk_new2 _ _ _ _ | (refine blk_alloc ?_ _; exact heap_alloc_new _ _) | (refine blk_alloc ?_ _; refine blk_alloc ?_ _; exact heap_alloc_new _ _) | (refine blk_alloc ?_ _; exact blk_new1 _ _ _)) hb_)
  clear K_s lt_s c_s_0 c_s_1 f_s_0 f_s_1
  have K_s := n_s
  clear n_s
  have lt_s : w8.heap.size < w11.heap.size := blk_lt K_s.out
  have c_s_0 : w11.cell? ⟨w8.heap.size, 0, none⟩ = some (.int .i64 1) := (blk_cell K_s.out 0).trans rfl
  have f_s_0 : w11.frozen? ⟨w8.heap.size, 0, none⟩ = false := blk_frozen K_s.out 0
  have c_s_1 : w11.cell? ⟨w8.heap.size, 1, none⟩ = some (.int .i64 s1) := (blk_cell K_s.out 1).trans rfl
  have f_s_1 : w11.frozen? ⟨w8.heap.size, 1, none⟩ = false := blk_frozen K_s.out 1
  have K_m := n_m
  clear n_m
  have lt_m : w10.heap.size < w11.heap.size := blk_lt K_m.out
  have c_m_0 : w11.cell? ⟨w10.heap.size, 0, none⟩ = some (.int .i64 m0) := (blk_cell K_m.out 0).trans rfl
  have f_m_0 : w11.frozen? ⟨w10.heap.size, 0, none⟩ = false := blk_frozen K_m.out 0
  have c_m_1 : w11.cell? ⟨w10.heap.size, 1, none⟩ = some (.int .i64 m1) := (blk_cell K_m.out 1).trans rfl
  have f_m_1 : w11.frozen? ⟨w10.heap.size, 1, none⟩ = false := blk_frozen K_m.out 1
  have nB := Lib.hid (below_step (by (with_reducible repeat (first | apply below_alloc | apply pw_below_drewN | apply below_drew1)); exact HB.out) hb_)
  clear HB hb_
  have HB := nB
  clear nB
  clear K_m lt_m c_m_0 c_m_1 f_m_0 f_m_1
  go_wp2_with fail
  refine (runnellaw9_num.calls s1 1 s1 _ rfl).mono ?_
  rintro e w12 ⟨rfl, hb_⟩
  have n_s : Hid (w12.heap[w8.heap.size]? = some (.cells #[.int .i64 1, .int .i64 s1] 23 (0, 0))) := Lib.hid (blk_below (by (with_reducible repeat (first | refine blk_drewN ?_ _ | refine blk_drew ?_ | refine blk_alloc ?_ _)); exact K_s.out) hb_)
  have n_n : Hid (w12.heap[w11.heap.size]? = some (.cells #[.int .i64 1, .int .i64 s1] 23 (0, 0))) := Lib.hid (blk_below (by first | exact heap_alloc_new _ _ | exact blk_new1 _ _ _ | exact blk_new2 _ _ _ _ | (refine blk_alloc ?_ _; exact heap_alloc_new _ _) | (refine blk_alloc ?_ _; refine blk_alloc ?_ _; exact heap_alloc_new _ _) | (refine blk_alloc ?_ _; exact blk_new1 _ _ _)) hb_)
  clear K_s lt_s c_s_0 c_s_1 f_s_0 f_s_1
  have K_s := n_s
  clear n_s
  have lt_s : w8.heap.size < w12.heap.size := blk_lt K_s.out
  have c_s_0 : w12.cell? ⟨w8.heap.size, 0, none⟩ = some (.int .i64 1) := (blk_cell K_s.out 0).trans rfl
  have f_s_0 : w12.frozen? ⟨w8.heap.size, 0, none⟩ = false := blk_frozen K_s.out 0
  have c_s_1 : w12.cell? ⟨w8.heap.size, 1, none⟩ = some (.int .i64 s1) := (blk_cell K_s.out 1).trans rfl
  have f_s_1 : w12.frozen? ⟨w8.heap.size, 1, none⟩ = false := blk_frozen K_s.out 1
  have K_n := n_n
  clear n_n
  have lt_n : w11.heap.size < w12.heap.size := blk_lt K_n.out
  have c_n_0 : w12.cell? ⟨w11.heap.size, 0, none⟩ = some (.int .i64 1) := (blk_cell K_n.out 0).trans rfl
  have f_n_0 : w12.frozen? ⟨w11.heap.size, 0, none⟩ = false := blk_frozen K_n.out 0
  have c_n_1 : w12.cell? ⟨w11.heap.size, 1, none⟩ = some (.int .i64 s1) := (blk_cell K_n.out 1).trans rfl
  have f_n_1 : w12.frozen? ⟨w11.heap.size, 1, none⟩ = false := blk_frozen K_n.out 1
  have nB := Lib.hid (below_step (by (with_reducible repeat (first | apply below_alloc | apply pw_below_drewN | apply below_drew1)); exact HB.out) hb_)
  clear HB hb_
  have HB := nB
  clear nB
  go_wp2_with fail
  refine (runnellaw9_num.calls b 1 b _ rfl).mono ?_
  rintro e w13 ⟨rfl, hb_⟩
  have n_s : Hid (w13.heap[w8.heap.size]? = some (.cells #[.int .i64 1, .int .i64 s1] 23 (0, 0))) := Lib.hid (blk_below (by (with_reducible repeat (first | refine blk_drewN ?_ _ | refine blk_drew ?_ | refine blk_alloc ?_ _)); exact K_s.out) hb_)
  have n_n : Hid (w13.heap[w11.heap.size]? = some (.cells #[.int .i64 1, .int .i64 s1] 23 (0, 0))) := Lib.hid (blk_below (by (with_reducible repeat (first | refine blk_drewN ?_ _ | refine blk_drew ?_ | refine blk_alloc ?_ _)); exact K_n.out) hb_)
  clear K_s lt_s c_s_0 c_s_1 f_s_0 f_s_1 K_n lt_n c_n_0 c_n_1 f_n_0 f_n_1
  have K_s := n_s
  clear n_s
  have lt_s : w8.heap.size < w13.heap.size := blk_lt K_s.out
  have c_s_0 : w13.cell? ⟨w8.heap.size, 0, none⟩ = some (.int .i64 1) := (blk_cell K_s.out 0).trans rfl
  have f_s_0 : w13.frozen? ⟨w8.heap.size, 0, none⟩ = false := blk_frozen K_s.out 0
  have c_s_1 : w13.cell? ⟨w8.heap.size, 1, none⟩ = some (.int .i64 s1) := (blk_cell K_s.out 1).trans rfl
  have f_s_1 : w13.frozen? ⟨w8.heap.size, 1, none⟩ = false := blk_frozen K_s.out 1
  have K_n := n_n
  clear n_n
  have lt_n : w11.heap.size < w13.heap.size := blk_lt K_n.out
  have c_n_0 : w13.cell? ⟨w11.heap.size, 0, none⟩ = some (.int .i64 1) := (blk_cell K_n.out 0).trans rfl
  have f_n_0 : w13.frozen? ⟨w11.heap.size, 0, none⟩ = false := blk_frozen K_n.out 0
  have c_n_1 : w13.cell? ⟨w11.heap.size, 1, none⟩ = some (.int .i64 s1) := (blk_cell K_n.out 1).trans rfl
  have f_n_1 : w13.frozen? ⟨w11.heap.size, 1, none⟩ = false := blk_frozen K_n.out 1
  have nB := Lib.hid (below_step (by (with_reducible repeat (first | apply below_alloc | apply pw_below_drewN | apply below_drew1)); exact HB.out) hb_)
  clear HB hb_
  have HB := nB
  clear nB
  go_wp2_with fail
  refine (value_Binary.calls 9 ⟨#[60]⟩ 1 s1 1 b 2 lN 0 true _ H7.out).mono ?_
  rintro e w14 ⟨rfl, hb_⟩
  have n_s : Hid (w14.heap[w8.heap.size]? = some (.cells #[.int .i64 1, .int .i64 s1] 23 (0, 0))) := Lib.hid (blk_below (by (with_reducible repeat (first | refine blk_drewN ?_ _ | refine blk_drew ?_ | refine blk_alloc ?_ _)); exact K_s.out) hb_)
  have n_n : Hid (w14.heap[w11.heap.size]? = some (.cells #[.int .i64 1, .int .i64 s1] 23 (0, 0))) := Lib.hid (blk_below (by (with_reducible repeat (first | refine blk_drewN ?_ _ | refine blk_drew ?_ | refine blk_alloc ?_ _)); exact K_n.out) hb_)
  clear K_s lt_s c_s_0 c_s_1 f_s_0 f_s_1 K_n lt_n c_n_0 c_n_1 f_n_0 f_n_1
  have K_s := n_s
  clear n_s
  have lt_s : w8.heap.size < w14.heap.size := blk_lt K_s.out
  have c_s_0 : w14.cell? ⟨w8.heap.size, 0, none⟩ = some (.int .i64 1) := (blk_cell K_s.out 0).trans rfl
  have f_s_0 : w14.frozen? ⟨w8.heap.size, 0, none⟩ = false := blk_frozen K_s.out 0
  have c_s_1 : w14.cell? ⟨w8.heap.size, 1, none⟩ = some (.int .i64 s1) := (blk_cell K_s.out 1).trans rfl
  have f_s_1 : w14.frozen? ⟨w8.heap.size, 1, none⟩ = false := blk_frozen K_s.out 1
  have K_n := n_n
  clear n_n
  have lt_n : w11.heap.size < w14.heap.size := blk_lt K_n.out
  have c_n_0 : w14.cell? ⟨w11.heap.size, 0, none⟩ = some (.int .i64 1) := (blk_cell K_n.out 0).trans rfl
  have f_n_0 : w14.frozen? ⟨w11.heap.size, 0, none⟩ = false := blk_frozen K_n.out 0
  have c_n_1 : w14.cell? ⟨w11.heap.size, 1, none⟩ = some (.int .i64 s1) := (blk_cell K_n.out 1).trans rfl
  have f_n_1 : w14.frozen? ⟨w11.heap.size, 1, none⟩ = false := blk_frozen K_n.out 1
  have nB := Lib.hid (below_step (by (with_reducible repeat (first | apply below_alloc | apply pw_below_drewN | apply below_drew1)); exact HB.out) hb_)
  clear HB hb_
  have HB := nB
  clear nB
  go_wp2_with fail
  refine (runnellaw9_num.calls s1 1 s1 _ rfl).mono ?_
  rintro e w15 ⟨rfl, hb_⟩
  have n_s : Hid (w15.heap[w8.heap.size]? = some (.cells #[.int .i64 1, .int .i64 s1] 23 (0, 0))) := Lib.hid (blk_below (by (with_reducible repeat (first | refine blk_drewN ?_ _ | refine blk_drew ?_ | refine blk_alloc ?_ _)); exact K_s.out) hb_)
  have n_n : Hid (w15.heap[w11.heap.size]? = some (.cells #[.int .i64 1, .int .i64 s1] 23 (0, 0))) := Lib.hid (blk_below (by (with_reducible repeat (first | refine blk_drewN ?_ _ | refine blk_drew ?_ | refine blk_alloc ?_ _)); exact K_n.out) hb_)
  have n_l : Hid (w15.heap[w14.heap.size]? = some (.cells #[.int .i64 2, .int .i64 lN] 23 (0, 0))) := Lib.hid (blk_below (by first | exact heap_alloc_new _ _ | exact blk_new1 _ _ _ | exact blk_new2 _ _ _ _ | (refine blk_alloc ?_ _; exact heap_alloc_new _ _) | (refine blk_alloc ?_ _; refine blk_alloc ?_ _; exact heap_alloc_new _ _) | (refine blk_alloc ?_ _; exact blk_new1 _ _ _)) hb_)
  clear K_s lt_s c_s_0 c_s_1 f_s_0 f_s_1 K_n lt_n c_n_0 c_n_1 f_n_0 f_n_1
  have K_s := n_s
  clear n_s
  have lt_s : w8.heap.size < w15.heap.size := blk_lt K_s.out
  have c_s_0 : w15.cell? ⟨w8.heap.size, 0, none⟩ = some (.int .i64 1) := (blk_cell K_s.out 0).trans rfl
  have f_s_0 : w15.frozen? ⟨w8.heap.size, 0, none⟩ = false := blk_frozen K_s.out 0
  have c_s_1 : w15.cell? ⟨w8.heap.size, 1, none⟩ = some (.int .i64 s1) := (blk_cell K_s.out 1).trans rfl
  have f_s_1 : w15.frozen? ⟨w8.heap.size, 1, none⟩ = false := blk_frozen K_s.out 1
  have K_n := n_n
  clear n_n
  have lt_n : w11.heap.size < w15.heap.size := blk_lt K_n.out
  have c_n_0 : w15.cell? ⟨w11.heap.size, 0, none⟩ = some (.int .i64 1) := (blk_cell K_n.out 0).trans rfl
  have f_n_0 : w15.frozen? ⟨w11.heap.size, 0, none⟩ = false := blk_frozen K_n.out 0
  have c_n_1 : w15.cell? ⟨w11.heap.size, 1, none⟩ = some (.int .i64 s1) := (blk_cell K_n.out 1).trans rfl
  have f_n_1 : w15.frozen? ⟨w11.heap.size, 1, none⟩ = false := blk_frozen K_n.out 1
  have K_l := n_l
  clear n_l
  have lt_l : w14.heap.size < w15.heap.size := blk_lt K_l.out
  have c_l_0 : w15.cell? ⟨w14.heap.size, 0, none⟩ = some (.int .i64 2) := (blk_cell K_l.out 0).trans rfl
  have f_l_0 : w15.frozen? ⟨w14.heap.size, 0, none⟩ = false := blk_frozen K_l.out 0
  have c_l_1 : w15.cell? ⟨w14.heap.size, 1, none⟩ = some (.int .i64 lN) := (blk_cell K_l.out 1).trans rfl
  have f_l_1 : w15.frozen? ⟨w14.heap.size, 1, none⟩ = false := blk_frozen K_l.out 1
  have nB := Lib.hid (below_step (by (with_reducible repeat (first | apply below_alloc | apply pw_below_drewN | apply below_drew1)); exact HB.out) hb_)
  clear HB hb_
  have HB := nB
  clear nB
  go_wp2_with fail
  refine (runnellaw9_num.calls b 1 b _ rfl).mono ?_
  rintro e w16 ⟨rfl, hb_⟩
  have n_s : Hid (w16.heap[w8.heap.size]? = some (.cells #[.int .i64 1, .int .i64 s1] 23 (0, 0))) := Lib.hid (blk_below (by (with_reducible repeat (first | refine blk_drewN ?_ _ | refine blk_drew ?_ | refine blk_alloc ?_ _)); exact K_s.out) hb_)
  have n_n : Hid (w16.heap[w11.heap.size]? = some (.cells #[.int .i64 1, .int .i64 s1] 23 (0, 0))) := Lib.hid (blk_below (by (with_reducible repeat (first | refine blk_drewN ?_ _ | refine blk_drew ?_ | refine blk_alloc ?_ _)); exact K_n.out) hb_)
  have n_l : Hid (w16.heap[w14.heap.size]? = some (.cells #[.int .i64 2, .int .i64 lN] 23 (0, 0))) := Lib.hid (blk_below (by (with_reducible repeat (first | refine blk_drewN ?_ _ | refine blk_drew ?_ | refine blk_alloc ?_ _)); exact K_l.out) hb_)
  clear K_s lt_s c_s_0 c_s_1 f_s_0 f_s_1 K_n lt_n c_n_0 c_n_1 f_n_0 f_n_1 K_l lt_l c_l_0 c_l_1 f_l_0 f_l_1
  have K_s := n_s
  clear n_s
  have lt_s : w8.heap.size < w16.heap.size := blk_lt K_s.out
  have c_s_0 : w16.cell? ⟨w8.heap.size, 0, none⟩ = some (.int .i64 1) := (blk_cell K_s.out 0).trans rfl
  have f_s_0 : w16.frozen? ⟨w8.heap.size, 0, none⟩ = false := blk_frozen K_s.out 0
  have c_s_1 : w16.cell? ⟨w8.heap.size, 1, none⟩ = some (.int .i64 s1) := (blk_cell K_s.out 1).trans rfl
  have f_s_1 : w16.frozen? ⟨w8.heap.size, 1, none⟩ = false := blk_frozen K_s.out 1
  have K_n := n_n
  clear n_n
  have lt_n : w11.heap.size < w16.heap.size := blk_lt K_n.out
  have c_n_0 : w16.cell? ⟨w11.heap.size, 0, none⟩ = some (.int .i64 1) := (blk_cell K_n.out 0).trans rfl
  have f_n_0 : w16.frozen? ⟨w11.heap.size, 0, none⟩ = false := blk_frozen K_n.out 0
  have c_n_1 : w16.cell? ⟨w11.heap.size, 1, none⟩ = some (.int .i64 s1) := (blk_cell K_n.out 1).trans rfl
  have f_n_1 : w16.frozen? ⟨w11.heap.size, 1, none⟩ = false := blk_frozen K_n.out 1
  have K_l := n_l
  clear n_l
  have lt_l : w14.heap.size < w16.heap.size := blk_lt K_l.out
  have c_l_0 : w16.cell? ⟨w14.heap.size, 0, none⟩ = some (.int .i64 2) := (blk_cell K_l.out 0).trans rfl
  have f_l_0 : w16.frozen? ⟨w14.heap.size, 0, none⟩ = false := blk_frozen K_l.out 0
  have c_l_1 : w16.cell? ⟨w14.heap.size, 1, none⟩ = some (.int .i64 lN) := (blk_cell K_l.out 1).trans rfl
  have f_l_1 : w16.frozen? ⟨w14.heap.size, 1, none⟩ = false := blk_frozen K_l.out 1
  have nB := Lib.hid (below_step (by (with_reducible repeat (first | apply below_alloc | apply pw_below_drewN | apply below_drew1)); exact HB.out) hb_)
  clear HB hb_
  have HB := nB
  clear nB
  go_wp2_with fail
  refine (value_Binary.calls 9 ⟨#[61, 61]⟩ 1 s1 1 b 2 sN 0 true _ H8.out).mono ?_
  rintro e w17 ⟨rfl, hb_⟩
  have n_s : Hid (w17.heap[w8.heap.size]? = some (.cells #[.int .i64 1, .int .i64 s1] 23 (0, 0))) := Lib.hid (blk_below (by (with_reducible repeat (first | refine blk_drewN ?_ _ | refine blk_drew ?_ | refine blk_alloc ?_ _)); exact K_s.out) hb_)
  have n_n : Hid (w17.heap[w11.heap.size]? = some (.cells #[.int .i64 1, .int .i64 s1] 23 (0, 0))) := Lib.hid (blk_below (by (with_reducible repeat (first | refine blk_drewN ?_ _ | refine blk_drew ?_ | refine blk_alloc ?_ _)); exact K_n.out) hb_)
  have n_l : Hid (w17.heap[w14.heap.size]? = some (.cells #[.int .i64 2, .int .i64 lN] 23 (0, 0))) := Lib.hid (blk_below (by (with_reducible repeat (first | refine blk_drewN ?_ _ | refine blk_drew ?_ | refine blk_alloc ?_ _)); exact K_l.out) hb_)
  clear K_s lt_s c_s_0 c_s_1 f_s_0 f_s_1 K_n lt_n c_n_0 c_n_1 f_n_0 f_n_1 K_l lt_l c_l_0 c_l_1 f_l_0 f_l_1
  have K_s := n_s
  clear n_s
  have lt_s : w8.heap.size < w17.heap.size := blk_lt K_s.out
  have c_s_0 : w17.cell? ⟨w8.heap.size, 0, none⟩ = some (.int .i64 1) := (blk_cell K_s.out 0).trans rfl
  have f_s_0 : w17.frozen? ⟨w8.heap.size, 0, none⟩ = false := blk_frozen K_s.out 0
  have c_s_1 : w17.cell? ⟨w8.heap.size, 1, none⟩ = some (.int .i64 s1) := (blk_cell K_s.out 1).trans rfl
  have f_s_1 : w17.frozen? ⟨w8.heap.size, 1, none⟩ = false := blk_frozen K_s.out 1
  have K_n := n_n
  clear n_n
  have lt_n : w11.heap.size < w17.heap.size := blk_lt K_n.out
  have c_n_0 : w17.cell? ⟨w11.heap.size, 0, none⟩ = some (.int .i64 1) := (blk_cell K_n.out 0).trans rfl
  have f_n_0 : w17.frozen? ⟨w11.heap.size, 0, none⟩ = false := blk_frozen K_n.out 0
  have c_n_1 : w17.cell? ⟨w11.heap.size, 1, none⟩ = some (.int .i64 s1) := (blk_cell K_n.out 1).trans rfl
  have f_n_1 : w17.frozen? ⟨w11.heap.size, 1, none⟩ = false := blk_frozen K_n.out 1
  have K_l := n_l
  clear n_l
  have lt_l : w14.heap.size < w17.heap.size := blk_lt K_l.out
  have c_l_0 : w17.cell? ⟨w14.heap.size, 0, none⟩ = some (.int .i64 2) := (blk_cell K_l.out 0).trans rfl
  have f_l_0 : w17.frozen? ⟨w14.heap.size, 0, none⟩ = false := blk_frozen K_l.out 0
  have c_l_1 : w17.cell? ⟨w14.heap.size, 1, none⟩ = some (.int .i64 lN) := (blk_cell K_l.out 1).trans rfl
  have f_l_1 : w17.frozen? ⟨w14.heap.size, 1, none⟩ = false := blk_frozen K_l.out 1
  have nB := Lib.hid (below_step (by (with_reducible repeat (first | apply below_alloc | apply pw_below_drewN | apply below_drew1)); exact HB.out) hb_)
  clear HB hb_
  have HB := nB
  clear nB
  go_wp2_with fail
  refine (runnellaw9_num.calls s1 1 s1 _ rfl).mono ?_
  rintro e w18 ⟨rfl, hb_⟩
  have n_s : Hid (w18.heap[w8.heap.size]? = some (.cells #[.int .i64 1, .int .i64 s1] 23 (0, 0))) := Lib.hid (blk_below (by (with_reducible repeat (first | refine blk_drewN ?_ _ | refine blk_drew ?_ | refine blk_alloc ?_ _)); exact K_s.out) hb_)
  have n_n : Hid (w18.heap[w11.heap.size]? = some (.cells #[.int .i64 1, .int .i64 s1] 23 (0, 0))) := Lib.hid (blk_below (by (with_reducible repeat (first | refine blk_drewN ?_ _ | refine blk_drew ?_ | refine blk_alloc ?_ _)); exact K_n.out) hb_)
  have n_l : Hid (w18.heap[w14.heap.size]? = some (.cells #[.int .i64 2, .int .i64 lN] 23 (0, 0))) := Lib.hid (blk_below (by (with_reducible repeat (first | refine blk_drewN ?_ _ | refine blk_drew ?_ | refine blk_alloc ?_ _)); exact K_l.out) hb_)
  have n_e : Hid (w18.heap[w17.heap.size]? = some (.cells #[.int .i64 2, .int .i64 sN] 23 (0, 0))) := Lib.hid (blk_below (by first | exact heap_alloc_new _ _ | exact blk_new1 _ _ _ | exact blk_new2 _ _ _ _ | (refine blk_alloc ?_ _; exact heap_alloc_new _ _) | (refine blk_alloc ?_ _; refine blk_alloc ?_ _; exact heap_alloc_new _ _) | (refine blk_alloc ?_ _; exact blk_new1 _ _ _)) hb_)
  clear K_s lt_s c_s_0 c_s_1 f_s_0 f_s_1 K_n lt_n c_n_0 c_n_1 f_n_0 f_n_1 K_l lt_l c_l_0 c_l_1 f_l_0 f_l_1
  have K_s := n_s
  clear n_s
  have lt_s : w8.heap.size < w18.heap.size := blk_lt K_s.out
  have c_s_0 : w18.cell? ⟨w8.heap.size, 0, none⟩ = some (.int .i64 1) := (blk_cell K_s.out 0).trans rfl
  have f_s_0 : w18.frozen? ⟨w8.heap.size, 0, none⟩ = false := blk_frozen K_s.out 0
  have c_s_1 : w18.cell? ⟨w8.heap.size, 1, none⟩ = some (.int .i64 s1) := (blk_cell K_s.out 1).trans rfl
  have f_s_1 : w18.frozen? ⟨w8.heap.size, 1, none⟩ = false := blk_frozen K_s.out 1
  have K_n := n_n
  clear n_n
  have lt_n : w11.heap.size < w18.heap.size := blk_lt K_n.out
  have c_n_0 : w18.cell? ⟨w11.heap.size, 0, none⟩ = some (.int .i64 1) := (blk_cell K_n.out 0).trans rfl
  have f_n_0 : w18.frozen? ⟨w11.heap.size, 0, none⟩ = false := blk_frozen K_n.out 0
  have c_n_1 : w18.cell? ⟨w11.heap.size, 1, none⟩ = some (.int .i64 s1) := (blk_cell K_n.out 1).trans rfl
  have f_n_1 : w18.frozen? ⟨w11.heap.size, 1, none⟩ = false := blk_frozen K_n.out 1
  have K_l := n_l
  clear n_l
  have lt_l : w14.heap.size < w18.heap.size := blk_lt K_l.out
  have c_l_0 : w18.cell? ⟨w14.heap.size, 0, none⟩ = some (.int .i64 2) := (blk_cell K_l.out 0).trans rfl
  have f_l_0 : w18.frozen? ⟨w14.heap.size, 0, none⟩ = false := blk_frozen K_l.out 0
  have c_l_1 : w18.cell? ⟨w14.heap.size, 1, none⟩ = some (.int .i64 lN) := (blk_cell K_l.out 1).trans rfl
  have f_l_1 : w18.frozen? ⟨w14.heap.size, 1, none⟩ = false := blk_frozen K_l.out 1
  have K_e := n_e
  clear n_e
  have lt_e : w17.heap.size < w18.heap.size := blk_lt K_e.out
  have c_e_0 : w18.cell? ⟨w17.heap.size, 0, none⟩ = some (.int .i64 2) := (blk_cell K_e.out 0).trans rfl
  have f_e_0 : w18.frozen? ⟨w17.heap.size, 0, none⟩ = false := blk_frozen K_e.out 0
  have c_e_1 : w18.cell? ⟨w17.heap.size, 1, none⟩ = some (.int .i64 sN) := (blk_cell K_e.out 1).trans rfl
  have f_e_1 : w18.frozen? ⟨w17.heap.size, 1, none⟩ = false := blk_frozen K_e.out 1
  have nB := Lib.hid (below_step (by (with_reducible repeat (first | apply below_alloc | apply pw_below_drewN | apply below_drew1)); exact HB.out) hb_)
  clear HB hb_
  have HB := nB
  clear nB
  go_wp2_with fail
  refine (runnellaw9_num.calls b 1 b _ rfl).mono ?_
  rintro e w19 ⟨rfl, hb_⟩
  have n_s : Hid (w19.heap[w8.heap.size]? = some (.cells #[.int .i64 1, .int .i64 s1] 23 (0, 0))) := Lib.hid (blk_below (by (with_reducible repeat (first | refine blk_drewN ?_ _ | refine blk_drew ?_ | refine blk_alloc ?_ _)); exact K_s.out) hb_)
  have n_n : Hid (w19.heap[w11.heap.size]? = some (.cells #[.int .i64 1, .int .i64 s1] 23 (0, 0))) := Lib.hid (blk_below (by (with_reducible repeat (first | refine blk_drewN ?_ _ | refine blk_drew ?_ | refine blk_alloc ?_ _)); exact K_n.out) hb_)
  have n_l : Hid (w19.heap[w14.heap.size]? = some (.cells #[.int .i64 2, .int .i64 lN] 23 (0, 0))) := Lib.hid (blk_below (by (with_reducible repeat (first | refine blk_drewN ?_ _ | refine blk_drew ?_ | refine blk_alloc ?_ _)); exact K_l.out) hb_)
  have n_e : Hid (w19.heap[w17.heap.size]? = some (.cells #[.int .i64 2, .int .i64 sN] 23 (0, 0))) := Lib.hid (blk_below (by (with_reducible repeat (first | refine blk_drewN ?_ _ | refine blk_drew ?_ | refine blk_alloc ?_ _)); exact K_e.out) hb_)
  clear K_s lt_s c_s_0 c_s_1 f_s_0 f_s_1 K_n lt_n c_n_0 c_n_1 f_n_0 f_n_1 K_l lt_l c_l_0 c_l_1 f_l_0 f_l_1 K_e lt_e c_e_0 c_e_1 f_e_0 f_e_1
  have K_s := n_s
  clear n_s
  have lt_s : w8.heap.size < w19.heap.size := blk_lt K_s.out
  have c_s_0 : w19.cell? ⟨w8.heap.size, 0, none⟩ = some (.int .i64 1) := (blk_cell K_s.out 0).trans rfl
  have f_s_0 : w19.frozen? ⟨w8.heap.size, 0, none⟩ = false := blk_frozen K_s.out 0
  have c_s_1 : w19.cell? ⟨w8.heap.size, 1, none⟩ = some (.int .i64 s1) := (blk_cell K_s.out 1).trans rfl
  have f_s_1 : w19.frozen? ⟨w8.heap.size, 1, none⟩ = false := blk_frozen K_s.out 1
  have K_n := n_n
  clear n_n
  have lt_n : w11.heap.size < w19.heap.size := blk_lt K_n.out
  have c_n_0 : w19.cell? ⟨w11.heap.size, 0, none⟩ = some (.int .i64 1) := (blk_cell K_n.out 0).trans rfl
  have f_n_0 : w19.frozen? ⟨w11.heap.size, 0, none⟩ = false := blk_frozen K_n.out 0
  have c_n_1 : w19.cell? ⟨w11.heap.size, 1, none⟩ = some (.int .i64 s1) := (blk_cell K_n.out 1).trans rfl
  have f_n_1 : w19.frozen? ⟨w11.heap.size, 1, none⟩ = false := blk_frozen K_n.out 1
  have K_l := n_l
  clear n_l
  have lt_l : w14.heap.size < w19.heap.size := blk_lt K_l.out
  have c_l_0 : w19.cell? ⟨w14.heap.size, 0, none⟩ = some (.int .i64 2) := (blk_cell K_l.out 0).trans rfl
  have f_l_0 : w19.frozen? ⟨w14.heap.size, 0, none⟩ = false := blk_frozen K_l.out 0
  have c_l_1 : w19.cell? ⟨w14.heap.size, 1, none⟩ = some (.int .i64 lN) := (blk_cell K_l.out 1).trans rfl
  have f_l_1 : w19.frozen? ⟨w14.heap.size, 1, none⟩ = false := blk_frozen K_l.out 1
  have K_e := n_e
  clear n_e
  have lt_e : w17.heap.size < w19.heap.size := blk_lt K_e.out
  have c_e_0 : w19.cell? ⟨w17.heap.size, 0, none⟩ = some (.int .i64 2) := (blk_cell K_e.out 0).trans rfl
  have f_e_0 : w19.frozen? ⟨w17.heap.size, 0, none⟩ = false := blk_frozen K_e.out 0
  have c_e_1 : w19.cell? ⟨w17.heap.size, 1, none⟩ = some (.int .i64 sN) := (blk_cell K_e.out 1).trans rfl
  have f_e_1 : w19.frozen? ⟨w17.heap.size, 1, none⟩ = false := blk_frozen K_e.out 1
  have nB := Lib.hid (below_step (by (with_reducible repeat (first | apply below_alloc | apply pw_below_drewN | apply below_drew1)); exact HB.out) hb_)
  clear HB hb_
  have HB := nB
  clear nB
  go_wp2_with fail
  refine (value_Binary.calls 9 ⟨#[62]⟩ 1 s1 1 b 2 mN 0 true _ H9.out).mono ?_
  rintro e w20 ⟨rfl, hb_⟩
  have n_s : Hid (w20.heap[w8.heap.size]? = some (.cells #[.int .i64 1, .int .i64 s1] 23 (0, 0))) := Lib.hid (blk_below (by (with_reducible repeat (first | refine blk_drewN ?_ _ | refine blk_drew ?_ | refine blk_alloc ?_ _)); exact K_s.out) hb_)
  have n_n : Hid (w20.heap[w11.heap.size]? = some (.cells #[.int .i64 1, .int .i64 s1] 23 (0, 0))) := Lib.hid (blk_below (by (with_reducible repeat (first | refine blk_drewN ?_ _ | refine blk_drew ?_ | refine blk_alloc ?_ _)); exact K_n.out) hb_)
  have n_l : Hid (w20.heap[w14.heap.size]? = some (.cells #[.int .i64 2, .int .i64 lN] 23 (0, 0))) := Lib.hid (blk_below (by (with_reducible repeat (first | refine blk_drewN ?_ _ | refine blk_drew ?_ | refine blk_alloc ?_ _)); exact K_l.out) hb_)
  have n_e : Hid (w20.heap[w17.heap.size]? = some (.cells #[.int .i64 2, .int .i64 sN] 23 (0, 0))) := Lib.hid (blk_below (by (with_reducible repeat (first | refine blk_drewN ?_ _ | refine blk_drew ?_ | refine blk_alloc ?_ _)); exact K_e.out) hb_)
  clear K_s lt_s c_s_0 c_s_1 f_s_0 f_s_1 K_n lt_n c_n_0 c_n_1 f_n_0 f_n_1 K_l lt_l c_l_0 c_l_1 f_l_0 f_l_1 K_e lt_e c_e_0 c_e_1 f_e_0 f_e_1
  have K_s := n_s
  clear n_s
  have lt_s : w8.heap.size < w20.heap.size := blk_lt K_s.out
  have c_s_0 : w20.cell? ⟨w8.heap.size, 0, none⟩ = some (.int .i64 1) := (blk_cell K_s.out 0).trans rfl
  have f_s_0 : w20.frozen? ⟨w8.heap.size, 0, none⟩ = false := blk_frozen K_s.out 0
  have c_s_1 : w20.cell? ⟨w8.heap.size, 1, none⟩ = some (.int .i64 s1) := (blk_cell K_s.out 1).trans rfl
  have f_s_1 : w20.frozen? ⟨w8.heap.size, 1, none⟩ = false := blk_frozen K_s.out 1
  have K_n := n_n
  clear n_n
  have lt_n : w11.heap.size < w20.heap.size := blk_lt K_n.out
  have c_n_0 : w20.cell? ⟨w11.heap.size, 0, none⟩ = some (.int .i64 1) := (blk_cell K_n.out 0).trans rfl
  have f_n_0 : w20.frozen? ⟨w11.heap.size, 0, none⟩ = false := blk_frozen K_n.out 0
  have c_n_1 : w20.cell? ⟨w11.heap.size, 1, none⟩ = some (.int .i64 s1) := (blk_cell K_n.out 1).trans rfl
  have f_n_1 : w20.frozen? ⟨w11.heap.size, 1, none⟩ = false := blk_frozen K_n.out 1
  have K_l := n_l
  clear n_l
  have lt_l : w14.heap.size < w20.heap.size := blk_lt K_l.out
  have c_l_0 : w20.cell? ⟨w14.heap.size, 0, none⟩ = some (.int .i64 2) := (blk_cell K_l.out 0).trans rfl
  have f_l_0 : w20.frozen? ⟨w14.heap.size, 0, none⟩ = false := blk_frozen K_l.out 0
  have c_l_1 : w20.cell? ⟨w14.heap.size, 1, none⟩ = some (.int .i64 lN) := (blk_cell K_l.out 1).trans rfl
  have f_l_1 : w20.frozen? ⟨w14.heap.size, 1, none⟩ = false := blk_frozen K_l.out 1
  have K_e := n_e
  clear n_e
  have lt_e : w17.heap.size < w20.heap.size := blk_lt K_e.out
  have c_e_0 : w20.cell? ⟨w17.heap.size, 0, none⟩ = some (.int .i64 2) := (blk_cell K_e.out 0).trans rfl
  have f_e_0 : w20.frozen? ⟨w17.heap.size, 0, none⟩ = false := blk_frozen K_e.out 0
  have c_e_1 : w20.cell? ⟨w17.heap.size, 1, none⟩ = some (.int .i64 sN) := (blk_cell K_e.out 1).trans rfl
  have f_e_1 : w20.frozen? ⟨w17.heap.size, 1, none⟩ = false := blk_frozen K_e.out 1
  have nB := Lib.hid (below_step (by (with_reducible repeat (first | apply below_alloc | apply pw_below_drewN | apply below_drew1)); exact HB.out) hb_)
  clear HB hb_
  have HB := nB
  clear nB
  go_wp2_with fail
  refine (value_Unary.calls 9 ⟨#[33]⟩ 2 sN 2 nN true _ H10.out).mono ?_
  rintro e w21 ⟨rfl, hb_⟩
  have n_s : Hid (w21.heap[w8.heap.size]? = some (.cells #[.int .i64 1, .int .i64 s1] 23 (0, 0))) := Lib.hid (blk_below (by (with_reducible repeat (first | refine blk_drewN ?_ _ | refine blk_drew ?_ | refine blk_alloc ?_ _)); exact K_s.out) hb_)
  have n_n : Hid (w21.heap[w11.heap.size]? = some (.cells #[.int .i64 1, .int .i64 s1] 23 (0, 0))) := Lib.hid (blk_below (by (with_reducible repeat (first | refine blk_drewN ?_ _ | refine blk_drew ?_ | refine blk_alloc ?_ _)); exact K_n.out) hb_)
  have n_l : Hid (w21.heap[w14.heap.size]? = some (.cells #[.int .i64 2, .int .i64 lN] 23 (0, 0))) := Lib.hid (blk_below (by (with_reducible repeat (first | refine blk_drewN ?_ _ | refine blk_drew ?_ | refine blk_alloc ?_ _)); exact K_l.out) hb_)
  have n_e : Hid (w21.heap[w17.heap.size]? = some (.cells #[.int .i64 2, .int .i64 sN] 23 (0, 0))) := Lib.hid (blk_below (by (with_reducible repeat (first | refine blk_drewN ?_ _ | refine blk_drew ?_ | refine blk_alloc ?_ _)); exact K_e.out) hb_)
  have n_o : Hid (w21.heap[w20.heap.size]? = some (.cells #[.int .i64 2, .int .i64 mN] 23 (0, 0))) := Lib.hid (blk_below (by first | exact heap_alloc_new _ _ | exact blk_new1 _ _ _ | exact blk_new2 _ _ _ _ | (refine blk_alloc ?_ _; exact heap_alloc_new _ _) | (refine blk_alloc ?_ _; refine blk_alloc ?_ _; exact heap_alloc_new _ _) | (refine blk_alloc ?_ _; exact blk_new1 _ _ _)) hb_)
  clear K_s lt_s c_s_0 c_s_1 f_s_0 f_s_1 K_n lt_n c_n_0 c_n_1 f_n_0 f_n_1 K_l lt_l c_l_0 c_l_1 f_l_0 f_l_1 K_e lt_e c_e_0 c_e_1 f_e_0 f_e_1
  have K_s := n_s
  clear n_s
  have lt_s : w8.heap.size < w21.heap.size := blk_lt K_s.out
  have c_s_0 : w21.cell? ⟨w8.heap.size, 0, none⟩ = some (.int .i64 1) := (blk_cell K_s.out 0).trans rfl
  have f_s_0 : w21.frozen? ⟨w8.heap.size, 0, none⟩ = false := blk_frozen K_s.out 0
  have c_s_1 : w21.cell? ⟨w8.heap.size, 1, none⟩ = some (.int .i64 s1) := (blk_cell K_s.out 1).trans rfl
  have f_s_1 : w21.frozen? ⟨w8.heap.size, 1, none⟩ = false := blk_frozen K_s.out 1
  have K_n := n_n
  clear n_n
  have lt_n : w11.heap.size < w21.heap.size := blk_lt K_n.out
  have c_n_0 : w21.cell? ⟨w11.heap.size, 0, none⟩ = some (.int .i64 1) := (blk_cell K_n.out 0).trans rfl
  have f_n_0 : w21.frozen? ⟨w11.heap.size, 0, none⟩ = false := blk_frozen K_n.out 0
  have c_n_1 : w21.cell? ⟨w11.heap.size, 1, none⟩ = some (.int .i64 s1) := (blk_cell K_n.out 1).trans rfl
  have f_n_1 : w21.frozen? ⟨w11.heap.size, 1, none⟩ = false := blk_frozen K_n.out 1
  have K_l := n_l
  clear n_l
  have lt_l : w14.heap.size < w21.heap.size := blk_lt K_l.out
  have c_l_0 : w21.cell? ⟨w14.heap.size, 0, none⟩ = some (.int .i64 2) := (blk_cell K_l.out 0).trans rfl
  have f_l_0 : w21.frozen? ⟨w14.heap.size, 0, none⟩ = false := blk_frozen K_l.out 0
  have c_l_1 : w21.cell? ⟨w14.heap.size, 1, none⟩ = some (.int .i64 lN) := (blk_cell K_l.out 1).trans rfl
  have f_l_1 : w21.frozen? ⟨w14.heap.size, 1, none⟩ = false := blk_frozen K_l.out 1
  have K_e := n_e
  clear n_e
  have lt_e : w17.heap.size < w21.heap.size := blk_lt K_e.out
  have c_e_0 : w21.cell? ⟨w17.heap.size, 0, none⟩ = some (.int .i64 2) := (blk_cell K_e.out 0).trans rfl
  have f_e_0 : w21.frozen? ⟨w17.heap.size, 0, none⟩ = false := blk_frozen K_e.out 0
  have c_e_1 : w21.cell? ⟨w17.heap.size, 1, none⟩ = some (.int .i64 sN) := (blk_cell K_e.out 1).trans rfl
  have f_e_1 : w21.frozen? ⟨w17.heap.size, 1, none⟩ = false := blk_frozen K_e.out 1
  have K_o := n_o
  clear n_o
  have lt_o : w20.heap.size < w21.heap.size := blk_lt K_o.out
  have c_o_0 : w21.cell? ⟨w20.heap.size, 0, none⟩ = some (.int .i64 2) := (blk_cell K_o.out 0).trans rfl
  have f_o_0 : w21.frozen? ⟨w20.heap.size, 0, none⟩ = false := blk_frozen K_o.out 0
  have c_o_1 : w21.cell? ⟨w20.heap.size, 1, none⟩ = some (.int .i64 mN) := (blk_cell K_o.out 1).trans rfl
  have f_o_1 : w21.frozen? ⟨w20.heap.size, 1, none⟩ = false := blk_frozen K_o.out 1
  have nB := Lib.hid (below_step (by (with_reducible repeat (first | apply below_alloc | apply pw_below_drewN | apply below_drew1)); exact HB.out) hb_)
  clear HB hb_
  have HB := nB
  clear nB
  go_wp2_with fail
  refine (runnellaw9_num.calls s1 1 s1 _ rfl).mono ?_
  rintro e w22 ⟨rfl, hb_⟩
  have n_s : Hid (w22.heap[w8.heap.size]? = some (.cells #[.int .i64 1, .int .i64 s1] 23 (0, 0))) := Lib.hid (blk_below (by (with_reducible repeat (first | refine blk_drewN ?_ _ | refine blk_drew ?_ | refine blk_alloc ?_ _)); exact K_s.out) hb_)
  have n_n : Hid (w22.heap[w11.heap.size]? = some (.cells #[.int .i64 1, .int .i64 s1] 23 (0, 0))) := Lib.hid (blk_below (by (with_reducible repeat (first | refine blk_drewN ?_ _ | refine blk_drew ?_ | refine blk_alloc ?_ _)); exact K_n.out) hb_)
  have n_l : Hid (w22.heap[w14.heap.size]? = some (.cells #[.int .i64 2, .int .i64 lN] 23 (0, 0))) := Lib.hid (blk_below (by (with_reducible repeat (first | refine blk_drewN ?_ _ | refine blk_drew ?_ | refine blk_alloc ?_ _)); exact K_l.out) hb_)
  have n_e : Hid (w22.heap[w17.heap.size]? = some (.cells #[.int .i64 2, .int .i64 sN] 23 (0, 0))) := Lib.hid (blk_below (by (with_reducible repeat (first | refine blk_drewN ?_ _ | refine blk_drew ?_ | refine blk_alloc ?_ _)); exact K_e.out) hb_)
  have n_o : Hid (w22.heap[w20.heap.size]? = some (.cells #[.int .i64 2, .int .i64 mN] 23 (0, 0))) := Lib.hid (blk_below (by (with_reducible repeat (first | refine blk_drewN ?_ _ | refine blk_drew ?_ | refine blk_alloc ?_ _)); exact K_o.out) hb_)
  have n_t : Hid (w22.heap[w21.heap.size]? = some (.cells #[.int .i64 2, .int .i64 nN] 23 (0, 0))) := Lib.hid (blk_below (by first | exact heap_alloc_new _ _ | exact blk_new1 _ _ _ | exact blk_new2 _ _ _ _ | (refine blk_alloc ?_ _; exact heap_alloc_new _ _) | (refine blk_alloc ?_ _; refine blk_alloc ?_ _; exact heap_alloc_new _ _) | (refine blk_alloc ?_ _; exact blk_new1 _ _ _)) hb_)
  clear K_s lt_s c_s_0 c_s_1 f_s_0 f_s_1 K_n lt_n c_n_0 c_n_1 f_n_0 f_n_1 K_l lt_l c_l_0 c_l_1 f_l_0 f_l_1 K_e lt_e c_e_0 c_e_1 f_e_0 f_e_1 K_o lt_o c_o_0 c_o_1 f_o_0 f_o_1
  have K_s := n_s
  clear n_s
  have lt_s : w8.heap.size < w22.heap.size := blk_lt K_s.out
  have c_s_0 : w22.cell? ⟨w8.heap.size, 0, none⟩ = some (.int .i64 1) := (blk_cell K_s.out 0).trans rfl
  have f_s_0 : w22.frozen? ⟨w8.heap.size, 0, none⟩ = false := blk_frozen K_s.out 0
  have c_s_1 : w22.cell? ⟨w8.heap.size, 1, none⟩ = some (.int .i64 s1) := (blk_cell K_s.out 1).trans rfl
  have f_s_1 : w22.frozen? ⟨w8.heap.size, 1, none⟩ = false := blk_frozen K_s.out 1
  have K_n := n_n
  clear n_n
  have lt_n : w11.heap.size < w22.heap.size := blk_lt K_n.out
  have c_n_0 : w22.cell? ⟨w11.heap.size, 0, none⟩ = some (.int .i64 1) := (blk_cell K_n.out 0).trans rfl
  have f_n_0 : w22.frozen? ⟨w11.heap.size, 0, none⟩ = false := blk_frozen K_n.out 0
  have c_n_1 : w22.cell? ⟨w11.heap.size, 1, none⟩ = some (.int .i64 s1) := (blk_cell K_n.out 1).trans rfl
  have f_n_1 : w22.frozen? ⟨w11.heap.size, 1, none⟩ = false := blk_frozen K_n.out 1
  have K_l := n_l
  clear n_l
  have lt_l : w14.heap.size < w22.heap.size := blk_lt K_l.out
  have c_l_0 : w22.cell? ⟨w14.heap.size, 0, none⟩ = some (.int .i64 2) := (blk_cell K_l.out 0).trans rfl
  have f_l_0 : w22.frozen? ⟨w14.heap.size, 0, none⟩ = false := blk_frozen K_l.out 0
  have c_l_1 : w22.cell? ⟨w14.heap.size, 1, none⟩ = some (.int .i64 lN) := (blk_cell K_l.out 1).trans rfl
  have f_l_1 : w22.frozen? ⟨w14.heap.size, 1, none⟩ = false := blk_frozen K_l.out 1
  have K_e := n_e
  clear n_e
  have lt_e : w17.heap.size < w22.heap.size := blk_lt K_e.out
  have c_e_0 : w22.cell? ⟨w17.heap.size, 0, none⟩ = some (.int .i64 2) := (blk_cell K_e.out 0).trans rfl
  have f_e_0 : w22.frozen? ⟨w17.heap.size, 0, none⟩ = false := blk_frozen K_e.out 0
  have c_e_1 : w22.cell? ⟨w17.heap.size, 1, none⟩ = some (.int .i64 sN) := (blk_cell K_e.out 1).trans rfl
  have f_e_1 : w22.frozen? ⟨w17.heap.size, 1, none⟩ = false := blk_frozen K_e.out 1
  have K_o := n_o
  clear n_o
  have lt_o : w20.heap.size < w22.heap.size := blk_lt K_o.out
  have c_o_0 : w22.cell? ⟨w20.heap.size, 0, none⟩ = some (.int .i64 2) := (blk_cell K_o.out 0).trans rfl
  have f_o_0 : w22.frozen? ⟨w20.heap.size, 0, none⟩ = false := blk_frozen K_o.out 0
  have c_o_1 : w22.cell? ⟨w20.heap.size, 1, none⟩ = some (.int .i64 mN) := (blk_cell K_o.out 1).trans rfl
  have f_o_1 : w22.frozen? ⟨w20.heap.size, 1, none⟩ = false := blk_frozen K_o.out 1
  have K_t := n_t
  clear n_t
  have lt_t : w21.heap.size < w22.heap.size := blk_lt K_t.out
  have c_t_0 : w22.cell? ⟨w21.heap.size, 0, none⟩ = some (.int .i64 2) := (blk_cell K_t.out 0).trans rfl
  have f_t_0 : w22.frozen? ⟨w21.heap.size, 0, none⟩ = false := blk_frozen K_t.out 0
  have c_t_1 : w22.cell? ⟨w21.heap.size, 1, none⟩ = some (.int .i64 nN) := (blk_cell K_t.out 1).trans rfl
  have f_t_1 : w22.frozen? ⟨w21.heap.size, 1, none⟩ = false := blk_frozen K_t.out 1
  have nB := Lib.hid (below_step (by (with_reducible repeat (first | apply below_alloc | apply pw_below_drewN | apply below_drew1)); exact HB.out) hb_)
  clear HB hb_
  have HB := nB
  clear nB
  go_wp2_with fail
  refine (runnellaw9_num.calls b 1 b _ rfl).mono ?_
  rintro e w23 ⟨rfl, hb_⟩
  have n_s : Hid (w23.heap[w8.heap.size]? = some (.cells #[.int .i64 1, .int .i64 s1] 23 (0, 0))) := Lib.hid (blk_below (by (with_reducible repeat (first | refine blk_drewN ?_ _ | refine blk_drew ?_ | refine blk_alloc ?_ _)); exact K_s.out) hb_)
  have n_n : Hid (w23.heap[w11.heap.size]? = some (.cells #[.int .i64 1, .int .i64 s1] 23 (0, 0))) := Lib.hid (blk_below (by (with_reducible repeat (first | refine blk_drewN ?_ _ | refine blk_drew ?_ | refine blk_alloc ?_ _)); exact K_n.out) hb_)
  have n_l : Hid (w23.heap[w14.heap.size]? = some (.cells #[.int .i64 2, .int .i64 lN] 23 (0, 0))) := Lib.hid (blk_below (by (with_reducible repeat (first | refine blk_drewN ?_ _ | refine blk_drew ?_ | refine blk_alloc ?_ _)); exact K_l.out) hb_)
  have n_e : Hid (w23.heap[w17.heap.size]? = some (.cells #[.int .i64 2, .int .i64 sN] 23 (0, 0))) := Lib.hid (blk_below (by (with_reducible repeat (first | refine blk_drewN ?_ _ | refine blk_drew ?_ | refine blk_alloc ?_ _)); exact K_e.out) hb_)
  have n_o : Hid (w23.heap[w20.heap.size]? = some (.cells #[.int .i64 2, .int .i64 mN] 23 (0, 0))) := Lib.hid (blk_below (by (with_reducible repeat (first | refine blk_drewN ?_ _ | refine blk_drew ?_ | refine blk_alloc ?_ _)); exact K_o.out) hb_)
  have n_t : Hid (w23.heap[w21.heap.size]? = some (.cells #[.int .i64 2, .int .i64 nN] 23 (0, 0))) := Lib.hid (blk_below (by (with_reducible repeat (first | refine blk_drewN ?_ _ | refine blk_drew ?_ | refine blk_alloc ?_ _)); exact K_t.out) hb_)
  clear K_s lt_s c_s_0 c_s_1 f_s_0 f_s_1 K_n lt_n c_n_0 c_n_1 f_n_0 f_n_1 K_l lt_l c_l_0 c_l_1 f_l_0 f_l_1 K_e lt_e c_e_0 c_e_1 f_e_0 f_e_1 K_o lt_o c_o_0 c_o_1 f_o_0 f_o_1 K_t lt_t c_t_0 c_t_1 f_t_0 f_t_1
  have K_s := n_s
  clear n_s
  have lt_s : w8.heap.size < w23.heap.size := blk_lt K_s.out
  have c_s_0 : w23.cell? ⟨w8.heap.size, 0, none⟩ = some (.int .i64 1) := (blk_cell K_s.out 0).trans rfl
  have f_s_0 : w23.frozen? ⟨w8.heap.size, 0, none⟩ = false := blk_frozen K_s.out 0
  have c_s_1 : w23.cell? ⟨w8.heap.size, 1, none⟩ = some (.int .i64 s1) := (blk_cell K_s.out 1).trans rfl
  have f_s_1 : w23.frozen? ⟨w8.heap.size, 1, none⟩ = false := blk_frozen K_s.out 1
  have K_n := n_n
  clear n_n
  have lt_n : w11.heap.size < w23.heap.size := blk_lt K_n.out
  have c_n_0 : w23.cell? ⟨w11.heap.size, 0, none⟩ = some (.int .i64 1) := (blk_cell K_n.out 0).trans rfl
  have f_n_0 : w23.frozen? ⟨w11.heap.size, 0, none⟩ = false := blk_frozen K_n.out 0
  have c_n_1 : w23.cell? ⟨w11.heap.size, 1, none⟩ = some (.int .i64 s1) := (blk_cell K_n.out 1).trans rfl
  have f_n_1 : w23.frozen? ⟨w11.heap.size, 1, none⟩ = false := blk_frozen K_n.out 1
  have K_l := n_l
  clear n_l
  have lt_l : w14.heap.size < w23.heap.size := blk_lt K_l.out
  have c_l_0 : w23.cell? ⟨w14.heap.size, 0, none⟩ = some (.int .i64 2) := (blk_cell K_l.out 0).trans rfl
  have f_l_0 : w23.frozen? ⟨w14.heap.size, 0, none⟩ = false := blk_frozen K_l.out 0
  have c_l_1 : w23.cell? ⟨w14.heap.size, 1, none⟩ = some (.int .i64 lN) := (blk_cell K_l.out 1).trans rfl
  have f_l_1 : w23.frozen? ⟨w14.heap.size, 1, none⟩ = false := blk_frozen K_l.out 1
  have K_e := n_e
  clear n_e
  have lt_e : w17.heap.size < w23.heap.size := blk_lt K_e.out
  have c_e_0 : w23.cell? ⟨w17.heap.size, 0, none⟩ = some (.int .i64 2) := (blk_cell K_e.out 0).trans rfl
  have f_e_0 : w23.frozen? ⟨w17.heap.size, 0, none⟩ = false := blk_frozen K_e.out 0
  have c_e_1 : w23.cell? ⟨w17.heap.size, 1, none⟩ = some (.int .i64 sN) := (blk_cell K_e.out 1).trans rfl
  have f_e_1 : w23.frozen? ⟨w17.heap.size, 1, none⟩ = false := blk_frozen K_e.out 1
  have K_o := n_o
  clear n_o
  have lt_o : w20.heap.size < w23.heap.size := blk_lt K_o.out
  have c_o_0 : w23.cell? ⟨w20.heap.size, 0, none⟩ = some (.int .i64 2) := (blk_cell K_o.out 0).trans rfl
  have f_o_0 : w23.frozen? ⟨w20.heap.size, 0, none⟩ = false := blk_frozen K_o.out 0
  have c_o_1 : w23.cell? ⟨w20.heap.size, 1, none⟩ = some (.int .i64 mN) := (blk_cell K_o.out 1).trans rfl
  have f_o_1 : w23.frozen? ⟨w20.heap.size, 1, none⟩ = false := blk_frozen K_o.out 1
  have K_t := n_t
  clear n_t
  have lt_t : w21.heap.size < w23.heap.size := blk_lt K_t.out
  have c_t_0 : w23.cell? ⟨w21.heap.size, 0, none⟩ = some (.int .i64 2) := (blk_cell K_t.out 0).trans rfl
  have f_t_0 : w23.frozen? ⟨w21.heap.size, 0, none⟩ = false := blk_frozen K_t.out 0
  have c_t_1 : w23.cell? ⟨w21.heap.size, 1, none⟩ = some (.int .i64 nN) := (blk_cell K_t.out 1).trans rfl
  have f_t_1 : w23.frozen? ⟨w21.heap.size, 1, none⟩ = false := blk_frozen K_t.out 1
  have nB := Lib.hid (below_step (by (with_reducible repeat (first | apply below_alloc | apply pw_below_drewN | apply below_drew1)); exact HB.out) hb_)
  clear HB hb_
  have HB := nB
  clear nB
  go_wp2_with fail
  refine (value_Binary.calls 9 ⟨#[33, 61]⟩ 1 s1 1 b 2 nN 0 true _ H11.out).mono ?_
  rintro e w24 ⟨rfl, hb_⟩
  have n_s : Hid (w24.heap[w8.heap.size]? = some (.cells #[.int .i64 1, .int .i64 s1] 23 (0, 0))) := Lib.hid (blk_below (by (with_reducible repeat (first | refine blk_drewN ?_ _ | refine blk_drew ?_ | refine blk_alloc ?_ _)); exact K_s.out) hb_)
  have n_n : Hid (w24.heap[w11.heap.size]? = some (.cells #[.int .i64 1, .int .i64 s1] 23 (0, 0))) := Lib.hid (blk_below (by (with_reducible repeat (first | refine blk_drewN ?_ _ | refine blk_drew ?_ | refine blk_alloc ?_ _)); exact K_n.out) hb_)
  have n_l : Hid (w24.heap[w14.heap.size]? = some (.cells #[.int .i64 2, .int .i64 lN] 23 (0, 0))) := Lib.hid (blk_below (by (with_reducible repeat (first | refine blk_drewN ?_ _ | refine blk_drew ?_ | refine blk_alloc ?_ _)); exact K_l.out) hb_)
  have n_e : Hid (w24.heap[w17.heap.size]? = some (.cells #[.int .i64 2, .int .i64 sN] 23 (0, 0))) := Lib.hid (blk_below (by (with_reducible repeat (first | refine blk_drewN ?_ _ | refine blk_drew ?_ | refine blk_alloc ?_ _)); exact K_e.out) hb_)
  have n_o : Hid (w24.heap[w20.heap.size]? = some (.cells #[.int .i64 2, .int .i64 mN] 23 (0, 0))) := Lib.hid (blk_below (by (with_reducible repeat (first | refine blk_drewN ?_ _ | refine blk_drew ?_ | refine blk_alloc ?_ _)); exact K_o.out) hb_)
  have n_t : Hid (w24.heap[w21.heap.size]? = some (.cells #[.int .i64 2, .int .i64 nN] 23 (0, 0))) := Lib.hid (blk_below (by (with_reducible repeat (first | refine blk_drewN ?_ _ | refine blk_drew ?_ | refine blk_alloc ?_ _)); exact K_t.out) hb_)
  clear K_s lt_s c_s_0 c_s_1 f_s_0 f_s_1 K_n lt_n c_n_0 c_n_1 f_n_0 f_n_1 K_l lt_l c_l_0 c_l_1 f_l_0 f_l_1 K_e lt_e c_e_0 c_e_1 f_e_0 f_e_1 K_o lt_o c_o_0 c_o_1 f_o_0 f_o_1 K_t lt_t c_t_0 c_t_1 f_t_0 f_t_1
  have K_s := n_s
  clear n_s
  have lt_s : w8.heap.size < w24.heap.size := blk_lt K_s.out
  have c_s_0 : w24.cell? ⟨w8.heap.size, 0, none⟩ = some (.int .i64 1) := (blk_cell K_s.out 0).trans rfl
  have f_s_0 : w24.frozen? ⟨w8.heap.size, 0, none⟩ = false := blk_frozen K_s.out 0
  have c_s_1 : w24.cell? ⟨w8.heap.size, 1, none⟩ = some (.int .i64 s1) := (blk_cell K_s.out 1).trans rfl
  have f_s_1 : w24.frozen? ⟨w8.heap.size, 1, none⟩ = false := blk_frozen K_s.out 1
  have K_n := n_n
  clear n_n
  have lt_n : w11.heap.size < w24.heap.size := blk_lt K_n.out
  have c_n_0 : w24.cell? ⟨w11.heap.size, 0, none⟩ = some (.int .i64 1) := (blk_cell K_n.out 0).trans rfl
  have f_n_0 : w24.frozen? ⟨w11.heap.size, 0, none⟩ = false := blk_frozen K_n.out 0
  have c_n_1 : w24.cell? ⟨w11.heap.size, 1, none⟩ = some (.int .i64 s1) := (blk_cell K_n.out 1).trans rfl
  have f_n_1 : w24.frozen? ⟨w11.heap.size, 1, none⟩ = false := blk_frozen K_n.out 1
  have K_l := n_l
  clear n_l
  have lt_l : w14.heap.size < w24.heap.size := blk_lt K_l.out
  have c_l_0 : w24.cell? ⟨w14.heap.size, 0, none⟩ = some (.int .i64 2) := (blk_cell K_l.out 0).trans rfl
  have f_l_0 : w24.frozen? ⟨w14.heap.size, 0, none⟩ = false := blk_frozen K_l.out 0
  have c_l_1 : w24.cell? ⟨w14.heap.size, 1, none⟩ = some (.int .i64 lN) := (blk_cell K_l.out 1).trans rfl
  have f_l_1 : w24.frozen? ⟨w14.heap.size, 1, none⟩ = false := blk_frozen K_l.out 1
  have K_e := n_e
  clear n_e
  have lt_e : w17.heap.size < w24.heap.size := blk_lt K_e.out
  have c_e_0 : w24.cell? ⟨w17.heap.size, 0, none⟩ = some (.int .i64 2) := (blk_cell K_e.out 0).trans rfl
  have f_e_0 : w24.frozen? ⟨w17.heap.size, 0, none⟩ = false := blk_frozen K_e.out 0
  have c_e_1 : w24.cell? ⟨w17.heap.size, 1, none⟩ = some (.int .i64 sN) := (blk_cell K_e.out 1).trans rfl
  have f_e_1 : w24.frozen? ⟨w17.heap.size, 1, none⟩ = false := blk_frozen K_e.out 1
  have K_o := n_o
  clear n_o
  have lt_o : w20.heap.size < w24.heap.size := blk_lt K_o.out
  have c_o_0 : w24.cell? ⟨w20.heap.size, 0, none⟩ = some (.int .i64 2) := (blk_cell K_o.out 0).trans rfl
  have f_o_0 : w24.frozen? ⟨w20.heap.size, 0, none⟩ = false := blk_frozen K_o.out 0
  have c_o_1 : w24.cell? ⟨w20.heap.size, 1, none⟩ = some (.int .i64 mN) := (blk_cell K_o.out 1).trans rfl
  have f_o_1 : w24.frozen? ⟨w20.heap.size, 1, none⟩ = false := blk_frozen K_o.out 1
  have K_t := n_t
  clear n_t
  have lt_t : w21.heap.size < w24.heap.size := blk_lt K_t.out
  have c_t_0 : w24.cell? ⟨w21.heap.size, 0, none⟩ = some (.int .i64 2) := (blk_cell K_t.out 0).trans rfl
  have f_t_0 : w24.frozen? ⟨w21.heap.size, 0, none⟩ = false := blk_frozen K_t.out 0
  have c_t_1 : w24.cell? ⟨w21.heap.size, 1, none⟩ = some (.int .i64 nN) := (blk_cell K_t.out 1).trans rfl
  have f_t_1 : w24.frozen? ⟨w21.heap.size, 1, none⟩ = false := blk_frozen K_t.out 1
  have nB := Lib.hid (below_step (by (with_reducible repeat (first | apply below_alloc | apply pw_below_drewN | apply below_drew1)); exact HB.out) hb_)
  clear HB hb_
  have HB := nB
  clear nB
  go_wp2_with fail
  refine (value_Binary.calls 9 ⟨#[124, 124]⟩ 2 lN 2 mN 2 nN 0 true _ H12.out).mono ?_
  rintro e w25 ⟨rfl, hb_⟩
  have n_s : Hid (w25.heap[w8.heap.size]? = some (.cells #[.int .i64 1, .int .i64 s1] 23 (0, 0))) := Lib.hid (blk_below (by (with_reducible repeat (first | refine blk_drewN ?_ _ | refine blk_drew ?_ | refine blk_alloc ?_ _)); exact K_s.out) hb_)
  have n_n : Hid (w25.heap[w11.heap.size]? = some (.cells #[.int .i64 1, .int .i64 s1] 23 (0, 0))) := Lib.hid (blk_below (by (with_reducible repeat (first | refine blk_drewN ?_ _ | refine blk_drew ?_ | refine blk_alloc ?_ _)); exact K_n.out) hb_)
  have n_l : Hid (w25.heap[w14.heap.size]? = some (.cells #[.int .i64 2, .int .i64 lN] 23 (0, 0))) := Lib.hid (blk_below (by (with_reducible repeat (first | refine blk_drewN ?_ _ | refine blk_drew ?_ | refine blk_alloc ?_ _)); exact K_l.out) hb_)
  have n_e : Hid (w25.heap[w17.heap.size]? = some (.cells #[.int .i64 2, .int .i64 sN] 23 (0, 0))) := Lib.hid (blk_below (by (with_reducible repeat (first | refine blk_drewN ?_ _ | refine blk_drew ?_ | refine blk_alloc ?_ _)); exact K_e.out) hb_)
  have n_o : Hid (w25.heap[w20.heap.size]? = some (.cells #[.int .i64 2, .int .i64 mN] 23 (0, 0))) := Lib.hid (blk_below (by (with_reducible repeat (first | refine blk_drewN ?_ _ | refine blk_drew ?_ | refine blk_alloc ?_ _)); exact K_o.out) hb_)
  have n_t : Hid (w25.heap[w21.heap.size]? = some (.cells #[.int .i64 2, .int .i64 nN] 23 (0, 0))) := Lib.hid (blk_below (by (with_reducible repeat (first | refine blk_drewN ?_ _ | refine blk_drew ?_ | refine blk_alloc ?_ _)); exact K_t.out) hb_)
  have n_u : Hid (w25.heap[w24.heap.size]? = some (.cells #[.int .i64 2, .int .i64 nN] 23 (0, 0))) := Lib.hid (blk_below (by first | exact heap_alloc_new _ _ | exact blk_new1 _ _ _ | exact blk_new2 _ _ _ _ | (refine blk_alloc ?_ _; exact heap_alloc_new _ _) | (refine blk_alloc ?_ _; refine blk_alloc ?_ _; exact heap_alloc_new _ _) | (refine blk_alloc ?_ _; exact blk_new1 _ _ _)) hb_)
  clear K_s lt_s c_s_0 c_s_1 f_s_0 f_s_1 K_n lt_n c_n_0 c_n_1 f_n_0 f_n_1 K_l lt_l c_l_0 c_l_1 f_l_0 f_l_1 K_e lt_e c_e_0 c_e_1 f_e_0 f_e_1 K_o lt_o c_o_0 c_o_1 f_o_0 f_o_1 K_t lt_t c_t_0 c_t_1 f_t_0 f_t_1
  have K_s := n_s
  clear n_s
  have lt_s : w8.heap.size < w25.heap.size := blk_lt K_s.out
  have c_s_0 : w25.cell? ⟨w8.heap.size, 0, none⟩ = some (.int .i64 1) := (blk_cell K_s.out 0).trans rfl
  have f_s_0 : w25.frozen? ⟨w8.heap.size, 0, none⟩ = false := blk_frozen K_s.out 0
  have c_s_1 : w25.cell? ⟨w8.heap.size, 1, none⟩ = some (.int .i64 s1) := (blk_cell K_s.out 1).trans rfl
  have f_s_1 : w25.frozen? ⟨w8.heap.size, 1, none⟩ = false := blk_frozen K_s.out 1
  have K_n := n_n
  clear n_n
  have lt_n : w11.heap.size < w25.heap.size := blk_lt K_n.out
  have c_n_0 : w25.cell? ⟨w11.heap.size, 0, none⟩ = some (.int .i64 1) := (blk_cell K_n.out 0).trans rfl
  have f_n_0 : w25.frozen? ⟨w11.heap.size, 0, none⟩ = false := blk_frozen K_n.out 0
  have c_n_1 : w25.cell? ⟨w11.heap.size, 1, none⟩ = some (.int .i64 s1) := (blk_cell K_n.out 1).trans rfl
  have f_n_1 : w25.frozen? ⟨w11.heap.size, 1, none⟩ = false := blk_frozen K_n.out 1
  have K_l := n_l
  clear n_l
  have lt_l : w14.heap.size < w25.heap.size := blk_lt K_l.out
  have c_l_0 : w25.cell? ⟨w14.heap.size, 0, none⟩ = some (.int .i64 2) := (blk_cell K_l.out 0).trans rfl
  have f_l_0 : w25.frozen? ⟨w14.heap.size, 0, none⟩ = false := blk_frozen K_l.out 0
  have c_l_1 : w25.cell? ⟨w14.heap.size, 1, none⟩ = some (.int .i64 lN) := (blk_cell K_l.out 1).trans rfl
  have f_l_1 : w25.frozen? ⟨w14.heap.size, 1, none⟩ = false := blk_frozen K_l.out 1
  have K_e := n_e
  clear n_e
  have lt_e : w17.heap.size < w25.heap.size := blk_lt K_e.out
  have c_e_0 : w25.cell? ⟨w17.heap.size, 0, none⟩ = some (.int .i64 2) := (blk_cell K_e.out 0).trans rfl
  have f_e_0 : w25.frozen? ⟨w17.heap.size, 0, none⟩ = false := blk_frozen K_e.out 0
  have c_e_1 : w25.cell? ⟨w17.heap.size, 1, none⟩ = some (.int .i64 sN) := (blk_cell K_e.out 1).trans rfl
  have f_e_1 : w25.frozen? ⟨w17.heap.size, 1, none⟩ = false := blk_frozen K_e.out 1
  have K_o := n_o
  clear n_o
  have lt_o : w20.heap.size < w25.heap.size := blk_lt K_o.out
  have c_o_0 : w25.cell? ⟨w20.heap.size, 0, none⟩ = some (.int .i64 2) := (blk_cell K_o.out 0).trans rfl
  have f_o_0 : w25.frozen? ⟨w20.heap.size, 0, none⟩ = false := blk_frozen K_o.out 0
  have c_o_1 : w25.cell? ⟨w20.heap.size, 1, none⟩ = some (.int .i64 mN) := (blk_cell K_o.out 1).trans rfl
  have f_o_1 : w25.frozen? ⟨w20.heap.size, 1, none⟩ = false := blk_frozen K_o.out 1
  have K_t := n_t
  clear n_t
  have lt_t : w21.heap.size < w25.heap.size := blk_lt K_t.out
  have c_t_0 : w25.cell? ⟨w21.heap.size, 0, none⟩ = some (.int .i64 2) := (blk_cell K_t.out 0).trans rfl
  have f_t_0 : w25.frozen? ⟨w21.heap.size, 0, none⟩ = false := blk_frozen K_t.out 0
  have c_t_1 : w25.cell? ⟨w21.heap.size, 1, none⟩ = some (.int .i64 nN) := (blk_cell K_t.out 1).trans rfl
  have f_t_1 : w25.frozen? ⟨w21.heap.size, 1, none⟩ = false := blk_frozen K_t.out 1
  have K_u := n_u
  clear n_u
  have lt_u : w24.heap.size < w25.heap.size := blk_lt K_u.out
  have c_u_0 : w25.cell? ⟨w24.heap.size, 0, none⟩ = some (.int .i64 2) := (blk_cell K_u.out 0).trans rfl
  have f_u_0 : w25.frozen? ⟨w24.heap.size, 0, none⟩ = false := blk_frozen K_u.out 0
  have c_u_1 : w25.cell? ⟨w24.heap.size, 1, none⟩ = some (.int .i64 nN) := (blk_cell K_u.out 1).trans rfl
  have f_u_1 : w25.frozen? ⟨w24.heap.size, 1, none⟩ = false := blk_frozen K_u.out 1
  have nB := Lib.hid (below_step (by (with_reducible repeat (first | apply below_alloc | apply pw_below_drewN | apply below_drew1)); exact HB.out) hb_)
  clear HB hb_
  have HB := nB
  clear nB
  go_wp2_with fail
  obtain ⟨y3, hw_⟩ : ∃ W_, W_ = w25.alloc (.cells #[.int .i64 2, .int .i64 nN] 23) := ⟨_, rfl⟩
  rw [← hw_]
  have hb_ : Below w25.heap.size w25 y3 := by rw [hw_]; exact below_alloc (Below.refl _ _) _
  have n_i : Hid (y3.heap[w25.heap.size]? = some (.cells #[.int .i64 2, .int .i64 nN] 23 (0, 0))) := Lib.hid (by rw [hw_]; exact heap_alloc_new _ _)
  have n_s : Hid (y3.heap[w8.heap.size]? = some (.cells #[.int .i64 1, .int .i64 s1] 23 (0, 0))) := Lib.hid (blk_below K_s.out hb_)
  have n_n : Hid (y3.heap[w11.heap.size]? = some (.cells #[.int .i64 1, .int .i64 s1] 23 (0, 0))) := Lib.hid (blk_below K_n.out hb_)
  have n_l : Hid (y3.heap[w14.heap.size]? = some (.cells #[.int .i64 2, .int .i64 lN] 23 (0, 0))) := Lib.hid (blk_below K_l.out hb_)
  have n_e : Hid (y3.heap[w17.heap.size]? = some (.cells #[.int .i64 2, .int .i64 sN] 23 (0, 0))) := Lib.hid (blk_below K_e.out hb_)
  have n_o : Hid (y3.heap[w20.heap.size]? = some (.cells #[.int .i64 2, .int .i64 mN] 23 (0, 0))) := Lib.hid (blk_below K_o.out hb_)
  have n_t : Hid (y3.heap[w21.heap.size]? = some (.cells #[.int .i64 2, .int .i64 nN] 23 (0, 0))) := Lib.hid (blk_below K_t.out hb_)
  have n_u : Hid (y3.heap[w24.heap.size]? = some (.cells #[.int .i64 2, .int .i64 nN] 23 (0, 0))) := Lib.hid (blk_below K_u.out hb_)
  clear K_s lt_s c_s_0 c_s_1 f_s_0 f_s_1 K_n lt_n c_n_0 c_n_1 f_n_0 f_n_1 K_l lt_l c_l_0 c_l_1 f_l_0 f_l_1 K_e lt_e c_e_0 c_e_1 f_e_0 f_e_1 K_o lt_o c_o_0 c_o_1 f_o_0 f_o_1 K_t lt_t c_t_0 c_t_1 f_t_0 f_t_1 K_u lt_u c_u_0 c_u_1 f_u_0 f_u_1
  have K_s := n_s
  clear n_s
  have lt_s : w8.heap.size < y3.heap.size := blk_lt K_s.out
  have c_s_0 : y3.cell? ⟨w8.heap.size, 0, none⟩ = some (.int .i64 1) := (blk_cell K_s.out 0).trans rfl
  have f_s_0 : y3.frozen? ⟨w8.heap.size, 0, none⟩ = false := blk_frozen K_s.out 0
  have c_s_1 : y3.cell? ⟨w8.heap.size, 1, none⟩ = some (.int .i64 s1) := (blk_cell K_s.out 1).trans rfl
  have f_s_1 : y3.frozen? ⟨w8.heap.size, 1, none⟩ = false := blk_frozen K_s.out 1
  have K_n := n_n
  clear n_n
  have lt_n : w11.heap.size < y3.heap.size := blk_lt K_n.out
  have c_n_0 : y3.cell? ⟨w11.heap.size, 0, none⟩ = some (.int .i64 1) := (blk_cell K_n.out 0).trans rfl
  have f_n_0 : y3.frozen? ⟨w11.heap.size, 0, none⟩ = false := blk_frozen K_n.out 0
  have c_n_1 : y3.cell? ⟨w11.heap.size, 1, none⟩ = some (.int .i64 s1) := (blk_cell K_n.out 1).trans rfl
  have f_n_1 : y3.frozen? ⟨w11.heap.size, 1, none⟩ = false := blk_frozen K_n.out 1
  have K_l := n_l
  clear n_l
  have lt_l : w14.heap.size < y3.heap.size := blk_lt K_l.out
  have c_l_0 : y3.cell? ⟨w14.heap.size, 0, none⟩ = some (.int .i64 2) := (blk_cell K_l.out 0).trans rfl
  have f_l_0 : y3.frozen? ⟨w14.heap.size, 0, none⟩ = false := blk_frozen K_l.out 0
  have c_l_1 : y3.cell? ⟨w14.heap.size, 1, none⟩ = some (.int .i64 lN) := (blk_cell K_l.out 1).trans rfl
  have f_l_1 : y3.frozen? ⟨w14.heap.size, 1, none⟩ = false := blk_frozen K_l.out 1
  have K_e := n_e
  clear n_e
  have lt_e : w17.heap.size < y3.heap.size := blk_lt K_e.out
  have c_e_0 : y3.cell? ⟨w17.heap.size, 0, none⟩ = some (.int .i64 2) := (blk_cell K_e.out 0).trans rfl
  have f_e_0 : y3.frozen? ⟨w17.heap.size, 0, none⟩ = false := blk_frozen K_e.out 0
  have c_e_1 : y3.cell? ⟨w17.heap.size, 1, none⟩ = some (.int .i64 sN) := (blk_cell K_e.out 1).trans rfl
  have f_e_1 : y3.frozen? ⟨w17.heap.size, 1, none⟩ = false := blk_frozen K_e.out 1
  have K_o := n_o
  clear n_o
  have lt_o : w20.heap.size < y3.heap.size := blk_lt K_o.out
  have c_o_0 : y3.cell? ⟨w20.heap.size, 0, none⟩ = some (.int .i64 2) := (blk_cell K_o.out 0).trans rfl
  have f_o_0 : y3.frozen? ⟨w20.heap.size, 0, none⟩ = false := blk_frozen K_o.out 0
  have c_o_1 : y3.cell? ⟨w20.heap.size, 1, none⟩ = some (.int .i64 mN) := (blk_cell K_o.out 1).trans rfl
  have f_o_1 : y3.frozen? ⟨w20.heap.size, 1, none⟩ = false := blk_frozen K_o.out 1
  have K_t := n_t
  clear n_t
  have lt_t : w21.heap.size < y3.heap.size := blk_lt K_t.out
  have c_t_0 : y3.cell? ⟨w21.heap.size, 0, none⟩ = some (.int .i64 2) := (blk_cell K_t.out 0).trans rfl
  have f_t_0 : y3.frozen? ⟨w21.heap.size, 0, none⟩ = false := blk_frozen K_t.out 0
  have c_t_1 : y3.cell? ⟨w21.heap.size, 1, none⟩ = some (.int .i64 nN) := (blk_cell K_t.out 1).trans rfl
  have f_t_1 : y3.frozen? ⟨w21.heap.size, 1, none⟩ = false := blk_frozen K_t.out 1
  have K_u := n_u
  clear n_u
  have lt_u : w24.heap.size < y3.heap.size := blk_lt K_u.out
  have c_u_0 : y3.cell? ⟨w24.heap.size, 0, none⟩ = some (.int .i64 2) := (blk_cell K_u.out 0).trans rfl
  have f_u_0 : y3.frozen? ⟨w24.heap.size, 0, none⟩ = false := blk_frozen K_u.out 0
  have c_u_1 : y3.cell? ⟨w24.heap.size, 1, none⟩ = some (.int .i64 nN) := (blk_cell K_u.out 1).trans rfl
  have f_u_1 : y3.frozen? ⟨w24.heap.size, 1, none⟩ = false := blk_frozen K_u.out 1
  have K_i := n_i
  clear n_i
  have lt_i : w25.heap.size < y3.heap.size := blk_lt K_i.out
  have c_i_0 : y3.cell? ⟨w25.heap.size, 0, none⟩ = some (.int .i64 2) := (blk_cell K_i.out 0).trans rfl
  have f_i_0 : y3.frozen? ⟨w25.heap.size, 0, none⟩ = false := blk_frozen K_i.out 0
  have c_i_1 : y3.cell? ⟨w25.heap.size, 1, none⟩ = some (.int .i64 nN) := (blk_cell K_i.out 1).trans rfl
  have f_i_1 : y3.frozen? ⟨w25.heap.size, 1, none⟩ = false := blk_frozen K_i.out 1
  have nB := Lib.hid (below_step HB.out hb_)
  clear HB hb_ hw_
  have HB := nB
  clear nB
  refine start_ (n := 30) (S := fun w' => w'.cell? ⟨w8.heap.size, 0, none⟩ = some (.int .i64 1) ∧ w'.cell? ⟨w8.heap.size, 1, none⟩ = some (.int .i64 s1) ∧ w'.cell? ⟨w11.heap.size, 0, none⟩ = some (.int .i64 1) ∧ w'.cell? ⟨w11.heap.size, 1, none⟩ = some (.int .i64 s1)) (ds := []) #[false, false, false, false, false, false, false, false, false, false, false, false, false, false, false, false, false, false, false, false, false, false, false, false, false, false, false, false, false, false] (by kernel_rfl) rfl rfl ⟨cell_drew c_s_0, cell_drew c_s_1, cell_drew c_n_0, cell_drew c_n_1⟩ (fun hHeld => ?_)
  refine pure_ (i := 0) (N := some 132) (v := ?_) (a' := ?_) #[true, false, false, false, false, false, false, false, false, false, false, false, false, false, false, false, false, false, false, false, false, false, false, false, false, false, false, false, false, false] rfl rfl (by kernel_rfl) (fun _ _ _ h => h) (Or.inl ⟨by rfl, ?_⟩) ?_ ?_
  rotate_left
  · intro w'
    go_simp
    with_reducible rfl
  rotate_left
  · simp only [Act.put, List.setIfInBounds_toArray, List.set_cons_zero, List.set_cons_succ, i64_w, i32_w]
    rfl
  refine pure_ (i := 1) (N := some 133) (v := ?_) (a' := ?_) #[true, true, false, false, false, false, false, false, false, false, false, false, false, false, false, false, false, false, false, false, false, false, false, false, false, false, false, false, false, false] rfl rfl (by kernel_rfl) (fun _ _ _ h => h) (Or.inl ⟨by rfl, ?_⟩) ?_ ?_
  rotate_left
  · intro w'
    go_simp
    with_reducible rfl
  rotate_left
  · simp only [Act.put, List.setIfInBounds_toArray, List.set_cons_zero, List.set_cons_succ, i64_w, i32_w]
    rfl
  refine pure_ (i := 2) (N := some 134) (v := ?_) (a' := ?_) #[true, true, true, false, false, false, false, false, false, false, false, false, false, false, false, false, false, false, false, false, false, false, false, false, false, false, false, false, false, false] rfl rfl (by kernel_rfl) (fun _ _ _ h => h) (Or.inl ⟨by rfl, ?_⟩) ?_ ?_
  rotate_left
  · intro w'
    go_simp
    with_reducible rfl
  rotate_left
  · simp only [Act.put, List.setIfInBounds_toArray, List.set_cons_zero, List.set_cons_succ, i64_w, i32_w]
    rfl
  refine pure_ (i := 3) (N := some 135) (v := ?_) (a' := ?_) #[true, true, true, true, false, false, false, false, false, false, false, false, false, false, false, false, false, false, false, false, false, false, false, false, false, false, false, false, false, false] rfl rfl (by kernel_rfl) (fun _ _ _ h => h) (Or.inl ⟨by rfl, ?_⟩) ?_ ?_
  rotate_left
  · intro w'
    go_simp
    with_reducible rfl
  rotate_left
  · simp only [Act.put, List.setIfInBounds_toArray, List.set_cons_zero, List.set_cons_succ, i64_w, i32_w]
    rfl
  refine pure_ (i := 4) (N := some 136) (v := ?_) (a' := ?_) #[true, true, true, true, true, false, false, false, false, false, false, false, false, false, false, false, false, false, false, false, false, false, false, false, false, false, false, false, false, false] rfl rfl (by kernel_rfl) (fun _ _ _ h => h) (Or.inl ⟨by rfl, ?_⟩) ?_ ?_
  rotate_left
  · intro w'
    go_simp
    with_reducible rfl
  rotate_left
  · simp only [Act.put, List.setIfInBounds_toArray, List.set_cons_zero, List.set_cons_succ, i64_w, i32_w]
    rfl
  refine pure_ (i := 5) (N := some 137) (v := ?_) (a' := ?_) #[true, true, true, true, true, true, false, false, false, false, false, false, false, false, false, false, false, false, false, false, false, false, false, false, false, false, false, false, false, false] rfl rfl (by kernel_rfl) (fun _ _ _ h => h) (Or.inl ⟨by rfl, ?_⟩) ?_ ?_
  rotate_left
  · intro w'
    go_simp
    with_reducible rfl
  rotate_left
  · simp only [Act.put, List.setIfInBounds_toArray, List.set_cons_zero, List.set_cons_succ, i64_w, i32_w]
    rfl
  refine pure_ (i := 6) (N := some 138) (v := ?_) (a' := ?_) #[true, true, true, true, true, true, true, false, false, false, false, false, false, false, false, false, false, false, false, false, false, false, false, false, false, false, false, false, false, false] rfl rfl (by kernel_rfl) (fun _ _ _ h => h) (Or.inl ⟨by rfl, ?_⟩) ?_ ?_
  rotate_left
  · intro w'
    go_simp
    with_reducible rfl
  rotate_left
  · simp only [Act.put, List.setIfInBounds_toArray, List.set_cons_zero, List.set_cons_succ, i64_w, i32_w]
    rfl
  refine pure_ (i := 7) (N := some 139) (v := ?_) (a' := ?_) #[true, true, true, true, true, true, true, true, false, false, false, false, false, false, false, false, false, false, false, false, false, false, false, false, false, false, false, false, false, false] rfl rfl (by kernel_rfl) (fun _ _ _ h => h) (Or.inl ⟨by rfl, ?_⟩) ?_ ?_
  rotate_left
  · intro w'
    go_simp
    with_reducible rfl
  rotate_left
  · simp only [Act.put, List.setIfInBounds_toArray, List.set_cons_zero, List.set_cons_succ, i64_w, i32_w]
    rfl
  refine pure_ (i := 8) (N := some 140) (v := ?_) (a' := ?_) #[true, true, true, true, true, true, true, true, true, false, false, false, false, false, false, false, false, false, false, false, false, false, false, false, false, false, false, false, false, false] rfl rfl (by kernel_rfl) (fun _ _ _ h => h) (Or.inl ⟨by rfl, ?_⟩) ?_ ?_
  rotate_left
  · intro w'
    go_simp
    with_reducible rfl
  rotate_left
  · simp only [Act.put, List.setIfInBounds_toArray, List.set_cons_zero, List.set_cons_succ, i64_w, i32_w]
    rfl
  refine pure_ (i := 9) (N := some 141) (v := ?_) (a' := ?_) #[true, true, true, true, true, true, true, true, true, true, false, false, false, false, false, false, false, false, false, false, false, false, false, false, false, false, false, false, false, false] rfl rfl (by kernel_rfl) (fun _ _ _ h => h) (Or.inl ⟨by rfl, ?_⟩) ?_ ?_
  rotate_left
  · intro w'
    go_simp
    with_reducible rfl
  rotate_left
  · simp only [Act.put, List.setIfInBounds_toArray, List.set_cons_zero, List.set_cons_succ, i64_w, i32_w]
    rfl
  refine pure_ (i := 10) (N := some 142) (v := ?_) (a' := ?_) #[true, true, true, true, true, true, true, true, true, true, true, false, false, false, false, false, false, false, false, false, false, false, false, false, false, false, false, false, false, false] rfl rfl (by kernel_rfl) (fun _ _ _ h => h) (Or.inl ⟨by rfl, ?_⟩) ?_ ?_
  rotate_left
  · intro w'
    go_simp
    with_reducible rfl
  rotate_left
  · simp only [Act.put, List.setIfInBounds_toArray, List.set_cons_zero, List.set_cons_succ, i64_w, i32_w]
    rfl
  refine pure_ (i := 11) (N := some 143) (v := ?_) (a' := ?_) #[true, true, true, true, true, true, true, true, true, true, true, true, false, false, false, false, false, false, false, false, false, false, false, false, false, false, false, false, false, false] rfl rfl (by kernel_rfl) (fun _ _ _ h => h) (Or.inl ⟨by rfl, ?_⟩) ?_ ?_
  rotate_left
  · intro w'
    go_simp
    with_reducible rfl
  rotate_left
  · simp only [Act.put, List.setIfInBounds_toArray, List.set_cons_zero, List.set_cons_succ, i64_w, i32_w]
    rfl
  refine pure_ (i := 12) (N := some 144) (v := ?_) (a' := ?_) #[true, true, true, true, true, true, true, true, true, true, true, true, true, false, false, false, false, false, false, false, false, false, false, false, false, false, false, false, false, false] rfl rfl (by kernel_rfl) (fun _ _ _ h => h) (Or.inl ⟨by rfl, ?_⟩) ?_ ?_
  rotate_left
  · intro w'
    go_simp
    with_reducible rfl
  rotate_left
  · simp only [Act.put, List.setIfInBounds_toArray, List.set_cons_zero, List.set_cons_succ, i64_w, i32_w]
    rfl
  refine pure_ (i := 13) (N := some 145) (v := ?_) (a' := ?_) #[true, true, true, true, true, true, true, true, true, true, true, true, true, true, false, false, false, false, false, false, false, false, false, false, false, false, false, false, false, false] rfl rfl (by kernel_rfl) (fun _ _ _ h => h) (Or.inl ⟨by rfl, ?_⟩) ?_ ?_
  rotate_left
  · intro w'
    go_simp
    with_reducible rfl
  rotate_left
  · simp only [Act.put, List.setIfInBounds_toArray, List.set_cons_zero, List.set_cons_succ, i64_w, i32_w]
    rfl
  refine pure_ (i := 14) (N := some 146) (v := ?_) (a' := ?_) #[true, true, true, true, true, true, true, true, true, true, true, true, true, true, true, false, false, false, false, false, false, false, false, false, false, false, false, false, false, false] rfl rfl (by kernel_rfl) (fun _ _ _ h => h) (Or.inl ⟨by rfl, ?_⟩) ?_ ?_
  rotate_left
  · intro w'
    go_simp
    with_reducible rfl
  rotate_left
  · simp only [Act.put, List.setIfInBounds_toArray, List.set_cons_zero, List.set_cons_succ, i64_w, i32_w]
    rfl
  refine pure_ (i := 15) (N := some 147) (v := ?_) (a' := ?_) #[true, true, true, true, true, true, true, true, true, true, true, true, true, true, true, true, false, false, false, false, false, false, false, false, false, false, false, false, false, false] rfl rfl (by kernel_rfl) (fun _ _ _ h => h) (Or.inl ⟨by rfl, ?_⟩) ?_ ?_
  rotate_left
  · intro w'
    go_simp
    with_reducible rfl
  rotate_left
  · simp only [Act.put, List.setIfInBounds_toArray, List.set_cons_zero, List.set_cons_succ, i64_w, i32_w]
    rfl
  refine pure_ (i := 16) (N := some 148) (v := ?_) (a' := ?_) #[true, true, true, true, true, true, true, true, true, true, true, true, true, true, true, true, true, false, false, false, false, false, false, false, false, false, false, false, false, false] rfl rfl (by kernel_rfl) (fun _ _ _ h => h) (Or.inl ⟨by rfl, ?_⟩) ?_ ?_
  rotate_left
  · intro w'
    go_simp
    with_reducible rfl
  rotate_left
  · simp only [Act.put, List.setIfInBounds_toArray, List.set_cons_zero, List.set_cons_succ, i64_w, i32_w]
    rfl
  refine pure_ (i := 17) (N := some 149) (v := ?_) (a' := ?_) #[true, true, true, true, true, true, true, true, true, true, true, true, true, true, true, true, true, true, false, false, false, false, false, false, false, false, false, false, false, false] rfl rfl (by kernel_rfl) (fun _ _ _ h => h) (Or.inl ⟨by rfl, ?_⟩) ?_ ?_
  rotate_left
  · intro w'
    go_simp
    with_reducible rfl
  rotate_left
  · simp only [Act.put, List.setIfInBounds_toArray, List.set_cons_zero, List.set_cons_succ, i64_w, i32_w]
    rfl
  refine pure_ (i := 19) (N := some 151) (v := ?_) (a' := ?_) #[true, true, true, true, true, true, true, true, true, true, true, true, true, true, true, true, true, true, false, true, false, false, false, false, false, false, false, false, false, false] rfl rfl (by kernel_rfl) (fun _ _ _ h => h) (Or.inl ⟨by rfl, ?_⟩) ?_ ?_
  rotate_left
  · intro w'
    go_simp
    with_reducible rfl
  rotate_left
  · simp only [Act.put, List.setIfInBounds_toArray, List.set_cons_zero, List.set_cons_succ, i64_w, i32_w]
    rfl
  refine take_ (i := 18) (N := some 150) (v := ?_) (a' := ?_) #[true, true, true, true, true, true, true, true, true, true, true, true, true, true, true, true, true, true, true, true, false, false, false, false, false, false, false, false, false, false] rfl rfl (by kernel_rfl) (fun _ _ _ h => h) (Or.inl ⟨by rfl, ?_⟩) hHeld ?_ ?_
  rotate_left
  · rintro w' ⟨s0, s1, s2, s3⟩
    go_simp
    with_reducible rfl
  rotate_left
  · simp only [Act.put, List.setIfInBounds_toArray, List.set_cons_zero, List.set_cons_succ, i64_w, i32_w]
    rfl
  refine one_ (i := 20) (N := some 152) #[true, true, true, true, true, true, true, true, true, true, true, true, true, true, true, true, true, true, true, true, true, false, false, false, false, false, false, false, false, false] rfl rfl (by kernel_rfl) (by decide) (fun K hK => ?_)
  refine goes_ Try.func16 (by kernel_rfl) rfl #[.int .i64 s1] (by rfl) rfl rfl (by simp only [List.map_toArray, List.map_cons, List.map_nil]; rfl) ?_
  with_reducible refine (runnellaw9_num.calls s1 1 s1 _ rfl).mono ?_
  rintro e z1 ⟨rfl, hb_⟩
  refine ⟨_, rfl, ?_⟩
  have Q_z1 := Lib.hid (below_step (below_drew (Below.refl y3.heap.size y3)) hb_)
  have R_z1 := Lib.hid hb_
  clear hb_
  refine hK.out _ _ ⟨pw_cell_below R_z1.out hHeld.1, pw_cell_below R_z1.out hHeld.2.1, pw_cell_below R_z1.out hHeld.2.2.1, pw_cell_below R_z1.out hHeld.2.2.2⟩ (fun hHeld => ?_)
  clear hK K
  refine norm_ (a' := ?_) ?_ ?_
  rotate_left
  · show Act.put _ (some 152) _ = _
    simp only [Act.put, List.setIfInBounds_toArray, List.set_cons_zero, List.set_cons_succ, i64_w, i32_w]
    rfl
  refine pure_ (i := 21) (N := some 153) (v := ?_) (a' := ?_) #[true, true, true, true, true, true, true, true, true, true, true, true, true, true, true, true, true, true, true, true, true, true, false, false, false, false, false, false, false, false] rfl rfl (by kernel_rfl) (fun _ _ _ h => h) (Or.inl ⟨by rfl, ?_⟩) ?_ ?_
  rotate_left
  · intro w'
    go_simp
    with_reducible rfl
  rotate_left
  · simp only [Act.put, List.setIfInBounds_toArray, List.set_cons_zero, List.set_cons_succ, i64_w, i32_w]
    rfl
  refine pure_ (i := 22) (N := some 154) (v := ?_) (a' := ?_) #[true, true, true, true, true, true, true, true, true, true, true, true, true, true, true, true, true, true, true, true, true, true, true, false, false, false, false, false, false, false] rfl rfl (by kernel_rfl) (fun _ _ _ h => h) (Or.inl ⟨by rfl, ?_⟩) ?_ ?_
  rotate_left
  · intro w'
    go_simp
    with_reducible rfl
  rotate_left
  · simp only [Act.put, List.setIfInBounds_toArray, List.set_cons_zero, List.set_cons_succ, i64_w, i32_w]
    rfl
  refine pure_ (i := 23) (N := some 155) (v := ?_) (a' := ?_) #[true, true, true, true, true, true, true, true, true, true, true, true, true, true, true, true, true, true, true, true, true, true, true, true, false, false, false, false, false, false] rfl rfl (by kernel_rfl) (fun _ _ _ h => h) (Or.inl ⟨by rfl, ?_⟩) ?_ ?_
  rotate_left
  · intro w'
    go_simp
    with_reducible rfl
  rotate_left
  · simp only [Act.put, List.setIfInBounds_toArray, List.set_cons_zero, List.set_cons_succ, i64_w, i32_w]
    rfl
  refine pure_ (i := 24) (N := some 156) (v := ?_) (a' := ?_) #[true, true, true, true, true, true, true, true, true, true, true, true, true, true, true, true, true, true, true, true, true, true, true, true, true, false, false, false, false, false] rfl rfl (by kernel_rfl) (fun _ _ _ h => h) (Or.inl ⟨by rfl, ?_⟩) ?_ ?_
  rotate_left
  · intro w'
    go_simp
    with_reducible rfl
  rotate_left
  · simp only [Act.put, List.setIfInBounds_toArray, List.set_cons_zero, List.set_cons_succ, i64_w, i32_w]
    rfl
  refine pure_ (i := 26) (N := some 158) (v := ?_) (a' := ?_) #[true, true, true, true, true, true, true, true, true, true, true, true, true, true, true, true, true, true, true, true, true, true, true, true, true, false, true, false, false, false] rfl rfl (by kernel_rfl) (fun _ _ _ h => h) (Or.inl ⟨by rfl, ?_⟩) ?_ ?_
  rotate_left
  · intro w'
    go_simp
    with_reducible rfl
  rotate_left
  · simp only [Act.put, List.setIfInBounds_toArray, List.set_cons_zero, List.set_cons_succ, i64_w, i32_w]
    rfl
  refine take_ (i := 25) (N := some 157) (v := ?_) (a' := ?_) #[true, true, true, true, true, true, true, true, true, true, true, true, true, true, true, true, true, true, true, true, true, true, true, true, true, true, true, false, false, false] rfl rfl (by kernel_rfl) (fun _ _ _ h => h) (Or.inl ⟨by rfl, ?_⟩) hHeld ?_ ?_
  rotate_left
  · rintro w' ⟨s0, s1, s2, s3⟩
    go_simp
    with_reducible rfl
  rotate_left
  · simp only [Act.put, List.setIfInBounds_toArray, List.set_cons_zero, List.set_cons_succ, i64_w, i32_w]
    rfl
  refine one_ (i := 27) (N := some 159) #[true, true, true, true, true, true, true, true, true, true, true, true, true, true, true, true, true, true, true, true, true, true, true, true, true, true, true, true, false, false] rfl rfl (by kernel_rfl) (by decide) (fun K hK => ?_)
  refine goes_ Try.func16 (by kernel_rfl) rfl #[.int .i64 s1] (by rfl) rfl rfl (by simp only [List.map_toArray, List.map_cons, List.map_nil]; rfl) ?_
  with_reducible refine (runnellaw9_num.calls s1 1 s1 _ rfl).mono ?_
  rintro e z2 ⟨rfl, hb_⟩
  refine ⟨_, rfl, ?_⟩
  have Q_z2 := Lib.hid (below_step Q_z1.out hb_)
  have R_z2 := Lib.hid hb_
  clear hb_
  refine hK.out _ _ ⟨pw_cell_below R_z2.out hHeld.1, pw_cell_below R_z2.out hHeld.2.1, pw_cell_below R_z2.out hHeld.2.2.1, pw_cell_below R_z2.out hHeld.2.2.2⟩ (fun hHeld => ?_)
  clear hK K
  refine norm_ (a' := ?_) ?_ ?_
  rotate_left
  · show Act.put _ (some 159) _ = _
    simp only [Act.put, List.setIfInBounds_toArray, List.set_cons_zero, List.set_cons_succ, i64_w, i32_w]
    rfl
  refine pure_ (i := 28) (N := some 160) (v := ?_) (a' := ?_) #[true, true, true, true, true, true, true, true, true, true, true, true, true, true, true, true, true, true, true, true, true, true, true, true, true, true, true, true, true, false] rfl rfl (by kernel_rfl) (fun _ _ _ h => h) (Or.inl ⟨by rfl, ?_⟩) ?_ ?_
  rotate_left
  · intro w'
    go_simp
    with_reducible rfl
  rotate_left
  · simp only [Act.put, List.setIfInBounds_toArray, List.set_cons_zero, List.set_cons_succ, i64_w, i32_w]
    rfl
  refine pure_ (i := 29) (N := some 161) (v := ?_) (a' := ?_) #[true, true, true, true, true, true, true, true, true, true, true, true, true, true, true, true, true, true, true, true, true, true, true, true, true, true, true, true, true, true] rfl rfl (by kernel_rfl) (fun _ _ _ h => h) (Or.inl ⟨by rfl, ?_⟩) ?_ ?_
  rotate_left
  · intro w'
    go_simp
    with_reducible rfl
  rotate_left
  · simp only [Act.put, List.setIfInBounds_toArray, List.set_cons_zero, List.set_cons_succ, i64_w, i32_w]
    rfl
  refine done_ (by kernel_rfl) ?_
  have k_l_0 : z2.cell? ⟨w14.heap.size, 0, none⟩ = some (.int .i64 2) := pw_cell_below Q_z2.out c_l_0
  have k_l_1 : z2.cell? ⟨w14.heap.size, 1, none⟩ = some (.int .i64 lN) := pw_cell_below Q_z2.out c_l_1
  have k_e_0 : z2.cell? ⟨w17.heap.size, 0, none⟩ = some (.int .i64 2) := pw_cell_below Q_z2.out c_e_0
  have k_e_1 : z2.cell? ⟨w17.heap.size, 1, none⟩ = some (.int .i64 sN) := pw_cell_below Q_z2.out c_e_1
  have k_o_0 : z2.cell? ⟨w20.heap.size, 0, none⟩ = some (.int .i64 2) := pw_cell_below Q_z2.out c_o_0
  have k_o_1 : z2.cell? ⟨w20.heap.size, 1, none⟩ = some (.int .i64 mN) := pw_cell_below Q_z2.out c_o_1
  have k_t_0 : z2.cell? ⟨w21.heap.size, 0, none⟩ = some (.int .i64 2) := pw_cell_below Q_z2.out c_t_0
  have k_t_1 : z2.cell? ⟨w21.heap.size, 1, none⟩ = some (.int .i64 nN) := pw_cell_below Q_z2.out c_t_1
  have k_u_0 : z2.cell? ⟨w24.heap.size, 0, none⟩ = some (.int .i64 2) := pw_cell_below Q_z2.out c_u_0
  have k_u_1 : z2.cell? ⟨w24.heap.size, 1, none⟩ = some (.int .i64 nN) := pw_cell_below Q_z2.out c_u_1
  have k_i_0 : z2.cell? ⟨w25.heap.size, 0, none⟩ = some (.int .i64 2) := pw_cell_below Q_z2.out c_i_0
  have k_i_1 : z2.cell? ⟨w25.heap.size, 1, none⟩ = some (.int .i64 nN) := pw_cell_below Q_z2.out c_i_1
  go_wp2_with fail
  go_ret
  exact ⟨rfl, below_step HB.out Q_z2.out⟩
end Go.Proofs.Ytkhlfdcjgooogaa.P
