/- BitsHold, walked. -/
import Derived.Test.YtjcppnleoahaiaaDoorAlike
namespace Go.Proofs.YtjcppnleoahaiaaDoor.P
open Go.RowKit Go.Proofs.YtjcppnleoahaiaaDoorW.PrintWords Go.Proofs.YtjcppnleoahaiaaDoorW.PrintLast Go.Proofs.YtjcppnleoahaiaaDoorW.PrintMore
set_option linter.unusedVariables false
set_option linter.unusedSimpArgs false
theorem refText_is (m : Nat → Bool) (t : List UInt8) (h : textF m = t) (A : Option Addr) (c : Nat) (w : World) (hr : Kd.C (Kd.int .i64) w A (listF m).length (listF m)) (hc : (listF m).length ≤ c) :
    Calls Tryd.prog 22 #[.agg #[.slice A (listF m).length c]] w fun e w' => e = .returned (.string ⟨t.toArray⟩) ∧ Below w.heap.size w w' := by
  rw [← h]; exact refText_any m A c w hr hc
set_option maxRecDepth 100000 in
set_option maxHeartbeats 8000000 in
theorem bitsHold_any (A0 : Option Addr) (c0 : Nat) (l0 : List Int) (n1 : Int) (w : World) (hT : Tabs w) (hr0 : Kd.C (Kd.int .i64) w A0 l0.length l0) (hc0 : l0.length ≤ c0) (hn1 : -9223372036854775808 ≤ n1 ∧ n1 ≤ 9223372036854775807) :
    Calls Tryd.prog 3 #[.slice A0 l0.length c0, .int .i64 n1] w fun e w' => e = .returned (.bool true) ∧ Below w.heap.size w w' := by
  have HT := Lib.hid hT
  have HC0 := Lib.hid hr0
  have HL0 := Lib.hid hc0
  have HN1 := Lib.hid hn1
  clear hT hr0 hc0 hn1
  have HB : Hid (Below w.heap.size w w) := Lib.hid (Below.refl _ _)
  go_enter Tryd.func3, Tryd.ntmps3
  go_wp2_with fail
  refine (shown_any _ (HT.out.below (by (with_reducible repeat (first | apply below_alloc | apply pw_below_drewN | apply below_drew1)); exact HB.out) HT.out.2.2)).mono ?_
  rintro e_ w1 ⟨rfl, hb_⟩
  have nB : Hid (Below w.heap.size w w1) := Lib.hid (below_step (by (with_reducible repeat (first | apply below_alloc | apply pw_below_drewN | apply below_drew1)); exact HB.out) hb_)
  clear HB
  have HB := nB
  clear nB
  clear hb_
  by_cases h300 : l0.length ≤ 300
  case neg =>
    have t1 : decide ((300 : Int) < (l0.length : Int)) = true := by simp; omega
    have t2 : decide (300 < l0.length) = true := by simp; omega
    go_wp2_with fail
    go_ret
    exact ⟨rfl, HB.out⟩
  have t1 : decide ((300 : Int) < (l0.length : Int)) = false := by simp; omega
  have t2 : decide (300 < l0.length) = false := by simp; omega
  go_wp2_with fail
  refine (of_any A0 c0 l0 _ (Kd.C_below HC0.out (by (with_reducible repeat (first | apply below_alloc | apply pw_below_drewN | apply below_drew1)); exact HB.out))).mono ?_
  rintro e_ w2 ⟨rfl, hb_⟩
  have nB : Hid (Below w.heap.size w w2) := Lib.hid (below_step (by (with_reducible repeat (first | apply below_alloc | apply pw_below_drewN | apply below_drew1)); exact HB.out) hb_)
  clear HB
  have HB := nB
  clear nB
  clear hb_
  obtain ⟨ma, hm_⟩ : ∃ m_ : Nat → Bool, m_ = ofF l0 := ⟨_, rfl⟩
  rw [← hm_]
  have M_ma := Lib.hid hm_
  clear hm_
  go_wp2_with (((with_reducible refine gate_dst (N := 6) rfl ?_); refine Stp.out ?_))
  unfold Stp
  refine wpList_var27 rfl rfl rfl rfl rfl _ rfl ma rfl rfl ?_
  intro w3 hk_ hb_
  have K_ma : Hid (w3.heap[w2.heap.size]? = some (.cells (cells ma) 27 (0, 0))) := Lib.hid hk_
  clear hk_
  have nB : Hid (Below w.heap.size w w3) := Lib.hid (below_step (by (with_reducible repeat (first | apply below_alloc | apply pw_below_drewN | apply below_drew1)); exact HB.out) hb_)
  clear HB
  have HB := nB
  clear nB
  clear hb_
  go_wp2_with fail
  refine (refOf_is ma A0 c0 l0 M_ma.out _ (Kd.C_below HC0.out (by (with_reducible repeat (first | apply below_alloc | apply pw_below_drewN | apply below_drew1)); exact HB.out)) HL0.out).mono ?_
  rintro e_ w4 ⟨⟨A_x, c_x, rfl, hC_, hc_⟩, hb_⟩
  have C_x := Lib.hid hc_
  have nB : Hid (Below w.heap.size w w4) := Lib.hid (below_step (by (with_reducible repeat (first | apply below_alloc | apply pw_below_drewN | apply below_drew1)); exact HB.out) hb_)
  clear HB
  have HB := nB
  clear nB
  have n_ma : Hid (w4.heap[w2.heap.size]? = some (.cells (cells ma) 27 (0, 0))) := Lib.hid (blk_below (by (with_reducible repeat (first | refine blk_drewN ?_ _ | refine blk_drew ?_ | refine blk_alloc ?_ _)); exact K_ma.out) hb_)
  clear K_ma
  have K_ma := n_ma
  clear n_ma
  have R_x : Hid (Kd.C (Kd.int .i64) w4 A_x (listF ma).length (listF ma)) := Lib.hid hC_
  clear hb_ hc_ hC_
  go_wp2_with (((with_reducible refine gate_dst (N := 7) rfl ?_); refine Stp.out ?_))
  unfold Stp
  refine wpList_var30 rfl rfl rfl rfl rfl _ rfl (.slice A_x (listF ma).length c_x) rfl rfl rfl ?_
  intro w5 hk_ hb_
  have K_x : Hid (w5.heap[w4.heap.size]? = some (.cells #[.slice A_x (listF ma).length c_x] 30 (0, 0))) := Lib.hid hk_
  clear hk_
  have nB : Hid (Below w.heap.size w w5) := Lib.hid (below_step (by (with_reducible repeat (first | apply below_alloc | apply pw_below_drewN | apply below_drew1)); exact HB.out) hb_)
  clear HB
  have HB := nB
  clear nB
  have n_ma : Hid (w5.heap[w2.heap.size]? = some (.cells (cells ma) 27 (0, 0))) := Lib.hid (blk_below (by (with_reducible repeat (first | refine blk_drewN ?_ _ | refine blk_drew ?_ | refine blk_alloc ?_ _)); exact K_ma.out) hb_)
  clear K_ma
  have K_ma := n_ma
  clear n_ma
  have n_x : Hid (Kd.C (Kd.int .i64) w5 A_x (listF ma).length (listF ma)) := Lib.hid (Kd.C_below (by (with_reducible repeat (first | apply Kd.C_alloc | apply Kd.C_drewN | apply Kd.C_drew)); exact R_x.out) hb_)
  clear R_x
  have R_x := n_x
  clear n_x
  clear hb_
  clear t1 t2
  obtain ⟨hb, h_⟩ : ∃ x_, hasI ma n1 = x_ := ⟨_, rfl⟩
  have Hhb := Lib.hid h_
  clear h_
  obtain ⟨x0, h_⟩ : ∃ x_, nextF ma n1 = x_ := ⟨_, rfl⟩
  have Hx0 := Lib.hid h_
  clear h_
  obtain ⟨tm, h_⟩ : ∃ x_, textF ma = x_ := ⟨_, rfl⟩
  have Htm := Lib.hid h_
  clear h_
  go_wp2_with (((with_reducible refine gate_dst (N := 24) rfl ?_); refine Stp.out ?_))
  unfold Stp
  refine wpList_load27 rfl (.tmp 6) rfl _ rfl ma K_ma.out ?_
  have hcx_ := cell30 K_x.out
  go_wp2_with fail
  refine (alike_any ma A_x c_x _ (HT.out.below (by (with_reducible repeat (first | apply below_alloc | apply pw_below_drewN | apply below_drew1)); exact HB.out) HT.out.2.2) (by (with_reducible repeat (first | apply Kd.C_alloc | apply Kd.C_drewN | apply Kd.C_drew)); exact R_x.out) C_x.out).mono ?_
  rintro e_ w6 ⟨rfl, hb_⟩
  have nB : Hid (Below w.heap.size w w6) := Lib.hid (below_step (by (with_reducible repeat (first | apply below_alloc | apply pw_below_drewN | apply below_drew1)); exact HB.out) hb_)
  clear HB
  have HB := nB
  clear nB
  have n_ma : Hid (w6.heap[w2.heap.size]? = some (.cells (cells ma) 27 (0, 0))) := Lib.hid (blk_below (by (with_reducible repeat (first | refine blk_drewN ?_ _ | refine blk_drew ?_ | refine blk_alloc ?_ _)); exact K_ma.out) hb_)
  clear K_ma
  have K_ma := n_ma
  clear n_ma
  have n_x : Hid (w6.heap[w4.heap.size]? = some (.cells #[.slice A_x (listF ma).length c_x] 30 (0, 0))) := Lib.hid (blk_below (by (with_reducible repeat (first | refine blk_drewN ?_ _ | refine blk_drew ?_ | refine blk_alloc ?_ _)); exact K_x.out) hb_)
  clear K_x
  have K_x := n_x
  clear n_x
  have n_x : Hid (Kd.C (Kd.int .i64) w6 A_x (listF ma).length (listF ma)) := Lib.hid (Kd.C_below (by (with_reducible repeat (first | apply Kd.C_alloc | apply Kd.C_drewN | apply Kd.C_drew)); exact R_x.out) hb_)
  clear R_x
  have R_x := n_x
  clear n_x
  clear hb_
  clear hcx_
  go_wp2_with fail
  refine start_ (n := 8) (S := fun w' => (loadVar 27 ⟨w2.heap.size, 0, none⟩).run Tryd.prog w' = .ok (.agg (cells ma)) w' ∧ w'.cell? ⟨w4.heap.size, 0, none⟩ = some (.slice A_x (listF ma).length c_x)) (ds := []) #[false, false, false, false, false, false, false, false] (by kernel_rfl) rfl rfl ⟨load27 (blk_drew K_ma.out), cell30 (blk_drew K_x.out)⟩ (fun hHeld => ?_)
  refine pure_ (i := 1) (N := some 28) (v := ?_) (a' := ?_) #[false, true, false, false, false, false, false, false] rfl rfl (by kernel_rfl) (fun _ _ _ h => h) (Or.inl ⟨by rfl, ?_⟩) ?_ ?_
  rotate_left
  · intro w'
    go_simp
    with_reducible rfl
  rotate_left
  · simp only [Act.put, List.setIfInBounds_toArray, List.set_cons_zero, List.set_cons_succ, i64_w, i32_w]
    rfl
  refine pure_ (i := 4) (N := some 31) (v := ?_) (a' := ?_) #[false, true, false, false, true, false, false, false] rfl rfl (by kernel_rfl) (fun _ _ _ h => h) (Or.inl ⟨by rfl, ?_⟩) ?_ ?_
  rotate_left
  · intro w'
    go_simp
    with_reducible rfl
  rotate_left
  · simp only [Act.put, List.setIfInBounds_toArray, List.set_cons_zero, List.set_cons_succ, i64_w, i32_w]
    rfl
  refine take_ (i := 0) (N := some 27) (v := ?_) (a' := ?_) #[true, true, false, false, true, false, false, false] rfl rfl (by kernel_rfl) (fun _ _ _ h => h) (Or.inl ⟨by rfl, ?_⟩) hHeld ?_ ?_
  rotate_left
  · rintro w' ⟨s0, s1⟩
    refine (exec_load _ _ 27 (.tmp 6) _ _ _ (by rfl) (by rfl) s0).trans ?_
    with_reducible rfl
  rotate_left
  · simp only [Act.put, List.setIfInBounds_toArray, List.set_cons_zero, List.set_cons_succ, i64_w, i32_w]
    rfl
  refine take_ (i := 3) (N := some 30) (v := ?_) (a' := ?_) #[true, true, false, true, true, false, false, false] rfl rfl (by kernel_rfl) (fun _ _ _ h => h) (Or.inl ⟨by rfl, ?_⟩) hHeld ?_ ?_
  rotate_left
  · rintro w' ⟨s0, s1⟩
    go_simp
    with_reducible rfl
  rotate_left
  · simp only [Act.put, List.setIfInBounds_toArray, List.set_cons_zero, List.set_cons_succ, i64_w, i32_w]
    rfl
  refine one_ (i := 2) (N := some 29) #[true, true, true, true, true, false, false, false] rfl rfl (by kernel_rfl) (by decide) (fun K hK => ?_)
  refine goes_ Tryd.func13 (by kernel_rfl) rfl #[.agg (cells ma), .int .i64 n1] (by rfl) rfl rfl (by simp only [List.map_toArray, List.map_cons, List.map_nil]; rfl) ?_
  with_reducible refine (with_any ma n1 _).mono ?_
  rintro e_ w7 ⟨rfl, hb_⟩
  refine ⟨_, rfl, ?_⟩
  have B_w7 := Lib.hid (below_step ((below_drew HB.out)) hb_)
  have K_ma_w7 := Lib.hid (blk_below (blk_drew K_ma.out) hb_)
  have R_x_w7 := Lib.hid (Kd.C_below (Kd.C_drew R_x.out) hb_)
  have K_x_w7 := Lib.hid (blk_below (blk_drew K_x.out) hb_)
  clear hb_
  refine hK.out _ _ ⟨load27 K_ma_w7.out, cell30 K_x_w7.out⟩ (fun hHeld => ?_)
  clear hK K
  refine norm_ (a' := ?_) ?_ ?_
  rotate_left
  · show Act.put _ (some 29) _ = _
    simp only [Act.put, List.setIfInBounds_toArray, List.set_cons_zero, List.set_cons_succ, i64_w, i32_w]
    rfl
  refine one_ (i := 5) (N := some 32) #[true, true, true, true, true, true, false, false] rfl rfl (by kernel_rfl) (by decide) (fun K hK => ?_)
  refine goes_ Tryd.func14 (by kernel_rfl) rfl #[.agg #[.slice A_x (listF ma).length c_x], .int .i64 n1] (by rfl) rfl rfl (by simp only [List.map_toArray, List.map_cons, List.map_nil]; rfl) ?_
  with_reducible refine (refWith_any ma n1 A_x c_x _ (R_x_w7.out) C_x.out).mono ?_
  rintro e_ w8 ⟨⟨A_u1, c_u1, rfl, hC_, hc_⟩, hb_⟩
  refine ⟨_, rfl, ?_⟩
  have C_u1 := Lib.hid hc_
  have B_w8 := Lib.hid (below_step (B_w7.out) hb_)
  have K_ma_w8 := Lib.hid (blk_below (K_ma_w7.out) hb_)
  have R_x_w8 := Lib.hid (Kd.C_below (R_x_w7.out) hb_)
  have K_x_w8 := Lib.hid (blk_below (K_x_w7.out) hb_)
  have R_u1_w8 := Lib.hid hC_
  clear hb_ hC_ hc_
  clear B_w7 K_ma_w7 R_x_w7
  refine hK.out _ _ ⟨load27 K_ma_w8.out, cell30 K_x_w8.out⟩ (fun hHeld => ?_)
  clear hK K
  refine norm_ (a' := ?_) ?_ ?_
  rotate_left
  · show Act.put _ (some 32) _ = _
    simp only [Act.put, List.setIfInBounds_toArray, List.set_cons_zero, List.set_cons_succ, i64_w, i32_w]
    rfl
  refine one_ (i := 6) (N := some 33) #[true, true, true, true, true, true, true, false] rfl rfl (by kernel_rfl) (by decide) (fun K hK => ?_)
  refine goes_ Tryd.func12 (by kernel_rfl) rfl #[.agg (cells (withI ma n1)), .agg #[.slice A_u1 (listF (withI ma n1)).length c_u1]] (by rfl) rfl rfl (by simp only [List.map_toArray, List.map_cons, List.map_nil]; rfl) ?_
  with_reducible refine (alike_any (withI ma n1) A_u1 c_u1 _ (HT.out.below (B_w8.out) HT.out.three) (R_u1_w8.out) C_u1.out).mono ?_
  rintro e_ w9 ⟨rfl, hb_⟩
  refine ⟨_, rfl, ?_⟩
  have B_w9 := Lib.hid (below_step (B_w8.out) hb_)
  have K_ma_w9 := Lib.hid (blk_below (K_ma_w8.out) hb_)
  have R_x_w9 := Lib.hid (Kd.C_below (R_x_w8.out) hb_)
  have R_u1_w9 := Lib.hid (Kd.C_below (R_u1_w8.out) hb_)
  have K_x_w9 := Lib.hid (blk_below (K_x_w8.out) hb_)
  clear hb_
  clear B_w8 K_ma_w8 R_x_w8 R_u1_w8
  refine hK.out _ _ ⟨load27 K_ma_w9.out, cell30 K_x_w9.out⟩ (fun hHeld => ?_)
  clear hK K
  refine norm_ (a' := ?_) ?_ ?_
  rotate_left
  · show Act.put _ (some 33) _ = _
    simp only [Act.put, List.setIfInBounds_toArray, List.set_cons_zero, List.set_cons_succ, i64_w, i32_w]
    rfl
  refine pure_ (i := 7) (N := some 9) (v := ?_) (a' := ?_) #[true, true, true, true, true, true, true, true] rfl rfl (by kernel_rfl) (fun _ _ _ h => h) (Or.inl ⟨by rfl, ?_⟩) ?_ ?_
  rotate_left
  · intro w'
    go_simp
    with_reducible rfl
  rotate_left
  · simp only [Act.put, List.setIfInBounds_toArray, List.set_cons_zero, List.set_cons_succ, i64_w, i32_w]
    rfl
  refine done_ (by kernel_rfl) ?_
  have nB := Lib.hid (B_w9.out)
  clear HB
  have HB := nB
  clear nB
  have n_ := Lib.hid (K_ma_w9.out)
  clear K_ma
  have K_ma := n_
  clear n_
  have n_ := Lib.hid (K_x_w9.out)
  clear K_x
  have K_x := n_
  clear n_
  have n_ := Lib.hid (R_x_w9.out)
  clear R_x
  have R_x := n_
  clear n_
  go_wp2_with fail
  refine start_ (n := 8) (S := fun w' => (loadVar 27 ⟨w2.heap.size, 0, none⟩).run Tryd.prog w' = .ok (.agg (cells ma)) w' ∧ w'.cell? ⟨w4.heap.size, 0, none⟩ = some (.slice A_x (listF ma).length c_x)) (ds := []) #[false, false, false, false, false, false, false, false] (by kernel_rfl) rfl rfl ⟨load27 (blk_drew K_ma.out), cell30 (blk_drew K_x.out)⟩ (fun hHeld => ?_)
  refine pure_ (i := 1) (N := some 35) (v := ?_) (a' := ?_) #[false, true, false, false, false, false, false, false] rfl rfl (by kernel_rfl) (fun _ _ _ h => h) (Or.inl ⟨by rfl, ?_⟩) ?_ ?_
  rotate_left
  · intro w'
    go_simp
    with_reducible rfl
  rotate_left
  · simp only [Act.put, List.setIfInBounds_toArray, List.set_cons_zero, List.set_cons_succ, i64_w, i32_w]
    rfl
  refine pure_ (i := 4) (N := some 38) (v := ?_) (a' := ?_) #[false, true, false, false, true, false, false, false] rfl rfl (by kernel_rfl) (fun _ _ _ h => h) (Or.inl ⟨by rfl, ?_⟩) ?_ ?_
  rotate_left
  · intro w'
    go_simp
    with_reducible rfl
  rotate_left
  · simp only [Act.put, List.setIfInBounds_toArray, List.set_cons_zero, List.set_cons_succ, i64_w, i32_w]
    rfl
  refine take_ (i := 0) (N := some 34) (v := ?_) (a' := ?_) #[true, true, false, false, true, false, false, false] rfl rfl (by kernel_rfl) (fun _ _ _ h => h) (Or.inl ⟨by rfl, ?_⟩) hHeld ?_ ?_
  rotate_left
  · rintro w' ⟨s0, s1⟩
    refine (exec_load _ _ 27 (.tmp 6) _ _ _ (by rfl) (by rfl) s0).trans ?_
    with_reducible rfl
  rotate_left
  · simp only [Act.put, List.setIfInBounds_toArray, List.set_cons_zero, List.set_cons_succ, i64_w, i32_w]
    rfl
  refine take_ (i := 3) (N := some 37) (v := ?_) (a' := ?_) #[true, true, false, true, true, false, false, false] rfl rfl (by kernel_rfl) (fun _ _ _ h => h) (Or.inl ⟨by rfl, ?_⟩) hHeld ?_ ?_
  rotate_left
  · rintro w' ⟨s0, s1⟩
    go_simp
    with_reducible rfl
  rotate_left
  · simp only [Act.put, List.setIfInBounds_toArray, List.set_cons_zero, List.set_cons_succ, i64_w, i32_w]
    rfl
  refine one_ (i := 2) (N := some 36) #[true, true, true, true, true, false, false, false] rfl rfl (by kernel_rfl) (by decide) (fun K hK => ?_)
  refine goes_ Tryd.func15 (by kernel_rfl) rfl #[.agg (cells ma), .int .i64 n1] (by rfl) rfl rfl (by simp only [List.map_toArray, List.map_cons, List.map_nil]; rfl) ?_
  with_reducible refine (out_any ma n1 _).mono ?_
  rintro e_ w10 ⟨rfl, hb_⟩
  refine ⟨_, rfl, ?_⟩
  have B_w10 := Lib.hid (below_step ((below_drew HB.out)) hb_)
  have K_ma_w10 := Lib.hid (blk_below (blk_drew K_ma.out) hb_)
  have R_x_w10 := Lib.hid (Kd.C_below (Kd.C_drew R_x.out) hb_)
  have K_x_w10 := Lib.hid (blk_below (blk_drew K_x.out) hb_)
  clear hb_
  refine hK.out _ _ ⟨load27 K_ma_w10.out, cell30 K_x_w10.out⟩ (fun hHeld => ?_)
  clear hK K
  refine norm_ (a' := ?_) ?_ ?_
  rotate_left
  · show Act.put _ (some 36) _ = _
    simp only [Act.put, List.setIfInBounds_toArray, List.set_cons_zero, List.set_cons_succ, i64_w, i32_w]
    rfl
  refine one_ (i := 5) (N := some 39) #[true, true, true, true, true, true, false, false] rfl rfl (by kernel_rfl) (by decide) (fun K hK => ?_)
  refine goes_ Tryd.func16 (by kernel_rfl) rfl #[.agg #[.slice A_x (listF ma).length c_x], .int .i64 n1] (by rfl) rfl rfl (by simp only [List.map_toArray, List.map_cons, List.map_nil]; rfl) ?_
  with_reducible refine (refOut_any ma n1 A_x c_x _ (R_x_w10.out) C_x.out).mono ?_
  rintro e_ w11 ⟨⟨A_u2, c_u2, rfl, hC_, hc_⟩, hb_⟩
  refine ⟨_, rfl, ?_⟩
  have C_u2 := Lib.hid hc_
  have B_w11 := Lib.hid (below_step (B_w10.out) hb_)
  have K_ma_w11 := Lib.hid (blk_below (K_ma_w10.out) hb_)
  have R_x_w11 := Lib.hid (Kd.C_below (R_x_w10.out) hb_)
  have K_x_w11 := Lib.hid (blk_below (K_x_w10.out) hb_)
  have R_u2_w11 := Lib.hid hC_
  clear hb_ hC_ hc_
  clear B_w10 K_ma_w10 R_x_w10
  refine hK.out _ _ ⟨load27 K_ma_w11.out, cell30 K_x_w11.out⟩ (fun hHeld => ?_)
  clear hK K
  refine norm_ (a' := ?_) ?_ ?_
  rotate_left
  · show Act.put _ (some 39) _ = _
    simp only [Act.put, List.setIfInBounds_toArray, List.set_cons_zero, List.set_cons_succ, i64_w, i32_w]
    rfl
  refine one_ (i := 6) (N := some 40) #[true, true, true, true, true, true, true, false] rfl rfl (by kernel_rfl) (by decide) (fun K hK => ?_)
  refine goes_ Tryd.func12 (by kernel_rfl) rfl #[.agg (cells (outI ma n1)), .agg #[.slice A_u2 (listF (outI ma n1)).length c_u2]] (by rfl) rfl rfl (by simp only [List.map_toArray, List.map_cons, List.map_nil]; rfl) ?_
  with_reducible refine (alike_any (outI ma n1) A_u2 c_u2 _ (HT.out.below (B_w11.out) HT.out.three) (R_u2_w11.out) C_u2.out).mono ?_
  rintro e_ w12 ⟨rfl, hb_⟩
  refine ⟨_, rfl, ?_⟩
  have B_w12 := Lib.hid (below_step (B_w11.out) hb_)
  have K_ma_w12 := Lib.hid (blk_below (K_ma_w11.out) hb_)
  have R_x_w12 := Lib.hid (Kd.C_below (R_x_w11.out) hb_)
  have R_u2_w12 := Lib.hid (Kd.C_below (R_u2_w11.out) hb_)
  have K_x_w12 := Lib.hid (blk_below (K_x_w11.out) hb_)
  clear hb_
  clear B_w11 K_ma_w11 R_x_w11 R_u2_w11
  refine hK.out _ _ ⟨load27 K_ma_w12.out, cell30 K_x_w12.out⟩ (fun hHeld => ?_)
  clear hK K
  refine norm_ (a' := ?_) ?_ ?_
  rotate_left
  · show Act.put _ (some 40) _ = _
    simp only [Act.put, List.setIfInBounds_toArray, List.set_cons_zero, List.set_cons_succ, i64_w, i32_w]
    rfl
  refine pure_ (i := 7) (N := some 10) (v := ?_) (a' := ?_) #[true, true, true, true, true, true, true, true] rfl rfl (by kernel_rfl) (fun _ _ _ h => h) (Or.inl ⟨by rfl, ?_⟩) ?_ ?_
  rotate_left
  · intro w'
    go_simp
    with_reducible rfl
  rotate_left
  · simp only [Act.put, List.setIfInBounds_toArray, List.set_cons_zero, List.set_cons_succ, i64_w, i32_w]
    rfl
  refine done_ (by kernel_rfl) ?_
  have nB := Lib.hid (B_w12.out)
  clear HB
  have HB := nB
  clear nB
  have n_ := Lib.hid (K_ma_w12.out)
  clear K_ma
  have K_ma := n_
  clear n_
  have n_ := Lib.hid (K_x_w12.out)
  clear K_x
  have K_x := n_
  clear n_
  have n_ := Lib.hid (R_x_w12.out)
  clear R_x
  have R_x := n_
  clear n_
  go_wp2_with fail
  refine start_ (n := 33) (S := fun w' => (loadVar 27 ⟨w2.heap.size, 0, none⟩).run Tryd.prog w' = .ok (.agg (cells ma)) w' ∧ w'.cell? ⟨w4.heap.size, 0, none⟩ = some (.slice A_x (listF ma).length c_x)) (ds := []) #[false, false, false, false, false, false, false, false, false, false, false, false, false, false, false, false, false, false, false, false, false, false, false, false, false, false, false, false, false, false, false, false, false] (by kernel_rfl) rfl rfl ⟨load27 (blk_drew K_ma.out), cell30 (blk_drew K_x.out)⟩ (fun hHeld => ?_)
  refine pure_ (i := 0) (N := some 41) (v := ?_) (a' := ?_) #[true, false, false, false, false, false, false, false, false, false, false, false, false, false, false, false, false, false, false, false, false, false, false, false, false, false, false, false, false, false, false, false, false] rfl rfl (by kernel_rfl) (fun _ _ _ h => h) (Or.inl ⟨by rfl, ?_⟩) ?_ ?_
  rotate_left
  · intro w'
    go_simp
    with_reducible rfl
  rotate_left
  · simp only [Act.put, List.setIfInBounds_toArray, List.set_cons_zero, List.set_cons_succ, i64_w, i32_w]
    rfl
  refine pure_ (i := 1) (N := some 42) (v := ?_) (a' := ?_) #[true, true, false, false, false, false, false, false, false, false, false, false, false, false, false, false, false, false, false, false, false, false, false, false, false, false, false, false, false, false, false, false, false] rfl rfl (by kernel_rfl) (fun _ _ _ h => h) (Or.inl ⟨by rfl, ?_⟩) ?_ ?_
  rotate_left
  · intro w'
    go_simp
    with_reducible rfl
  rotate_left
  · simp only [Act.put, List.setIfInBounds_toArray, List.set_cons_zero, List.set_cons_succ, i64_w, i32_w]
    rfl
  refine pure_ (i := 2) (N := some 43) (v := ?_) (a' := ?_) #[true, true, true, false, false, false, false, false, false, false, false, false, false, false, false, false, false, false, false, false, false, false, false, false, false, false, false, false, false, false, false, false, false] rfl rfl (by kernel_rfl) (fun _ _ _ h => h) (Or.inl ⟨by rfl, ?_⟩) ?_ ?_
  rotate_left
  · intro w'
    go_simp
    with_reducible rfl
  rotate_left
  · simp only [Act.put, List.setIfInBounds_toArray, List.set_cons_zero, List.set_cons_succ, i64_w, i32_w]
    rfl
  refine pure_ (i := 3) (N := some 44) (v := ?_) (a' := ?_) #[true, true, true, true, false, false, false, false, false, false, false, false, false, false, false, false, false, false, false, false, false, false, false, false, false, false, false, false, false, false, false, false, false] rfl rfl (by kernel_rfl) (fun _ _ _ h => h) (Or.inl ⟨by rfl, ?_⟩) ?_ ?_
  rotate_left
  · intro w'
    go_simp
    with_reducible rfl
  rotate_left
  · simp only [Act.put, List.setIfInBounds_toArray, List.set_cons_zero, List.set_cons_succ, i64_w, i32_w]
    rfl
  refine pure_ (i := 4) (N := some 45) (v := ?_) (a' := ?_) #[true, true, true, true, true, false, false, false, false, false, false, false, false, false, false, false, false, false, false, false, false, false, false, false, false, false, false, false, false, false, false, false, false] rfl rfl (by kernel_rfl) (fun _ _ _ h => h) (Or.inl ⟨by rfl, ?_⟩) ?_ ?_
  rotate_left
  · intro w'
    go_simp
    with_reducible rfl
  rotate_left
  · simp only [Act.put, List.setIfInBounds_toArray, List.set_cons_zero, List.set_cons_succ, i64_w, i32_w]
    rfl
  refine pure_ (i := 5) (N := some 46) (v := ?_) (a' := ?_) #[true, true, true, true, true, true, false, false, false, false, false, false, false, false, false, false, false, false, false, false, false, false, false, false, false, false, false, false, false, false, false, false, false] rfl rfl (by kernel_rfl) (fun _ _ _ h => h) (Or.inl ⟨by rfl, ?_⟩) ?_ ?_
  rotate_left
  · intro w'
    go_simp
    with_reducible rfl
  rotate_left
  · simp only [Act.put, List.setIfInBounds_toArray, List.set_cons_zero, List.set_cons_succ, i64_w, i32_w]
    rfl
  refine pure_ (i := 6) (N := some 47) (v := ?_) (a' := ?_) #[true, true, true, true, true, true, true, false, false, false, false, false, false, false, false, false, false, false, false, false, false, false, false, false, false, false, false, false, false, false, false, false, false] rfl rfl (by kernel_rfl) (fun _ _ _ h => h) (Or.inl ⟨by rfl, ?_⟩) ?_ ?_
  rotate_left
  · intro w'
    go_simp
    with_reducible rfl
  rotate_left
  · simp only [Act.put, List.setIfInBounds_toArray, List.set_cons_zero, List.set_cons_succ, i64_w, i32_w]
    rfl
  refine pure_ (i := 7) (N := some 48) (v := ?_) (a' := ?_) #[true, true, true, true, true, true, true, true, false, false, false, false, false, false, false, false, false, false, false, false, false, false, false, false, false, false, false, false, false, false, false, false, false] rfl rfl (by kernel_rfl) (fun _ _ _ h => h) (Or.inl ⟨by rfl, ?_⟩) ?_ ?_
  rotate_left
  · intro w'
    go_simp
    with_reducible rfl
  rotate_left
  · simp only [Act.put, List.setIfInBounds_toArray, List.set_cons_zero, List.set_cons_succ, i64_w, i32_w]
    rfl
  refine pure_ (i := 9) (N := some 50) (v := ?_) (a' := ?_) #[true, true, true, true, true, true, true, true, false, true, false, false, false, false, false, false, false, false, false, false, false, false, false, false, false, false, false, false, false, false, false, false, false] rfl rfl (by kernel_rfl) (fun _ _ _ h => h) (Or.inl ⟨by rfl, ?_⟩) ?_ ?_
  rotate_left
  · intro w'
    go_simp
    with_reducible rfl
  rotate_left
  · simp only [Act.put, List.setIfInBounds_toArray, List.set_cons_zero, List.set_cons_succ, i64_w, i32_w]
    rfl
  refine pure_ (i := 12) (N := some 53) (v := ?_) (a' := ?_) #[true, true, true, true, true, true, true, true, false, true, false, false, true, false, false, false, false, false, false, false, false, false, false, false, false, false, false, false, false, false, false, false, false] rfl rfl (by kernel_rfl) (fun _ _ _ h => h) (Or.inl ⟨by rfl, ?_⟩) ?_ ?_
  rotate_left
  · intro w'
    go_simp
    with_reducible rfl
  rotate_left
  · simp only [Act.put, List.setIfInBounds_toArray, List.set_cons_zero, List.set_cons_succ, i64_w, i32_w]
    rfl
  refine take_ (i := 8) (N := some 49) (v := ?_) (a' := ?_) #[true, true, true, true, true, true, true, true, true, true, false, false, true, false, false, false, false, false, false, false, false, false, false, false, false, false, false, false, false, false, false, false, false] rfl rfl (by kernel_rfl) (fun _ _ _ h => h) (Or.inl ⟨by rfl, ?_⟩) hHeld ?_ ?_
  rotate_left
  · rintro w' ⟨s0, s1⟩
    refine (exec_load _ _ 27 (.tmp 6) _ _ _ (by rfl) (by rfl) s0).trans ?_
    with_reducible rfl
  rotate_left
  · simp only [Act.put, List.setIfInBounds_toArray, List.set_cons_zero, List.set_cons_succ, i64_w, i32_w]
    rfl
  refine take_ (i := 11) (N := some 52) (v := ?_) (a' := ?_) #[true, true, true, true, true, true, true, true, true, true, false, true, true, false, false, false, false, false, false, false, false, false, false, false, false, false, false, false, false, false, false, false, false] rfl rfl (by kernel_rfl) (fun _ _ _ h => h) (Or.inl ⟨by rfl, ?_⟩) hHeld ?_ ?_
  rotate_left
  · rintro w' ⟨s0, s1⟩
    go_simp
    with_reducible rfl
  rotate_left
  · simp only [Act.put, List.setIfInBounds_toArray, List.set_cons_zero, List.set_cons_succ, i64_w, i32_w]
    rfl
  refine one_ (i := 10) (N := some 51) #[true, true, true, true, true, true, true, true, true, true, true, true, true, false, false, false, false, false, false, false, false, false, false, false, false, false, false, false, false, false, false, false, false] rfl rfl (by kernel_rfl) (by decide) (fun K hK => ?_)
  refine goes_ Tryd.func17 (by kernel_rfl) rfl #[.agg (cells ma), .int .i64 n1] (by rfl) rfl rfl (by simp only [List.map_toArray, List.map_cons, List.map_nil]; rfl) ?_
  with_reducible refine (has_is ma n1 hb Hhb.out _).mono ?_
  rintro e_ w13 ⟨rfl, hb_⟩
  refine ⟨_, rfl, ?_⟩
  have B_w13 := Lib.hid (below_step ((below_drew HB.out)) hb_)
  have K_ma_w13 := Lib.hid (blk_below (blk_drew K_ma.out) hb_)
  have R_x_w13 := Lib.hid (Kd.C_below (Kd.C_drew R_x.out) hb_)
  have K_x_w13 := Lib.hid (blk_below (blk_drew K_x.out) hb_)
  clear hb_
  refine hK.out _ _ ⟨load27 K_ma_w13.out, cell30 K_x_w13.out⟩ (fun hHeld => ?_)
  clear hK K
  refine norm_ (a' := ?_) ?_ ?_
  rotate_left
  · show Act.put _ (some 51) _ = _
    simp only [Act.put, List.setIfInBounds_toArray, List.set_cons_zero, List.set_cons_succ, i64_w, i32_w]
    rfl
  refine one_ (i := 13) (N := some 54) #[true, true, true, true, true, true, true, true, true, true, true, true, true, true, false, false, false, false, false, false, false, false, false, false, false, false, false, false, false, false, false, false, false] rfl rfl (by kernel_rfl) (by decide) (fun K hK => ?_)
  refine goes_ Tryd.func18 (by kernel_rfl) rfl #[.agg #[.slice A_x (listF ma).length c_x], .int .i64 n1] (by rfl) rfl rfl (by simp only [List.map_toArray, List.map_cons, List.map_nil]; rfl) ?_
  with_reducible refine (refHas_is ma n1 hb Hhb.out A_x c_x _ (R_x_w13.out) C_x.out).mono ?_
  rintro e_ w14 ⟨rfl, hb_⟩
  refine ⟨_, rfl, ?_⟩
  have B_w14 := Lib.hid (below_step (B_w13.out) hb_)
  have K_ma_w14 := Lib.hid (blk_below (K_ma_w13.out) hb_)
  have R_x_w14 := Lib.hid (Kd.C_below (R_x_w13.out) hb_)
  have K_x_w14 := Lib.hid (blk_below (K_x_w13.out) hb_)
  clear hb_
  clear B_w13 K_ma_w13 R_x_w13
  refine hK.out _ _ ⟨load27 K_ma_w14.out, cell30 K_x_w14.out⟩ (fun hHeld => ?_)
  clear hK K
  refine norm_ (a' := ?_) ?_ ?_
  rotate_left
  · show Act.put _ (some 54) _ = _
    simp only [Act.put, List.setIfInBounds_toArray, List.set_cons_zero, List.set_cons_succ, i64_w, i32_w]
    rfl
  refine pure_ (i := 14) (N := some 55) (v := ?_) (a' := ?_) #[true, true, true, true, true, true, true, true, true, true, true, true, true, true, true, false, false, false, false, false, false, false, false, false, false, false, false, false, false, false, false, false, false] rfl rfl (by kernel_rfl) (fun _ _ _ h => h) (Or.inl ⟨by rfl, ?_⟩) ?_ ?_
  rotate_left
  · intro w'
    go_simp
    with_reducible rfl
  rotate_left
  · simp only [Act.put, List.setIfInBounds_toArray, List.set_cons_zero, List.set_cons_succ, i64_w, i32_w]
    rfl
  refine pure_ (i := 15) (N := some 56) (v := ?_) (a' := ?_) #[true, true, true, true, true, true, true, true, true, true, true, true, true, true, true, true, false, false, false, false, false, false, false, false, false, false, false, false, false, false, false, false, false] rfl rfl (by kernel_rfl) (fun _ _ _ h => h) (Or.inl ⟨by rfl, ?_⟩) ?_ ?_
  rotate_left
  · intro w'
    go_simp
    with_reducible rfl
  rotate_left
  · simp only [Act.put, List.setIfInBounds_toArray, List.set_cons_zero, List.set_cons_succ, i64_w, i32_w]
    rfl
  refine pure_ (i := 16) (N := some 57) (v := ?_) (a' := ?_) #[true, true, true, true, true, true, true, true, true, true, true, true, true, true, true, true, true, false, false, false, false, false, false, false, false, false, false, false, false, false, false, false, false] rfl rfl (by kernel_rfl) (fun _ _ _ h => h) (Or.inl ⟨by rfl, ?_⟩) ?_ ?_
  rotate_left
  · intro w'
    go_simp
    with_reducible rfl
  rotate_left
  · simp only [Act.put, List.setIfInBounds_toArray, List.set_cons_zero, List.set_cons_succ, i64_w, i32_w]
    rfl
  refine pure_ (i := 18) (N := some 59) (v := ?_) (a' := ?_) #[true, true, true, true, true, true, true, true, true, true, true, true, true, true, true, true, true, false, true, false, false, false, false, false, false, false, false, false, false, false, false, false, false] rfl rfl (by kernel_rfl) (fun _ _ _ h => h) (Or.inl ⟨by rfl, ?_⟩) ?_ ?_
  rotate_left
  · intro w'
    go_simp
    with_reducible rfl
  rotate_left
  · simp only [Act.put, List.setIfInBounds_toArray, List.set_cons_zero, List.set_cons_succ, i64_w, i32_w]
    rfl
  refine pure_ (i := 21) (N := some 62) (v := ?_) (a' := ?_) #[true, true, true, true, true, true, true, true, true, true, true, true, true, true, true, true, true, false, true, false, false, true, false, false, false, false, false, false, false, false, false, false, false] rfl rfl (by kernel_rfl) (fun _ _ _ h => h) (Or.inl ⟨by rfl, ?_⟩) ?_ ?_
  rotate_left
  · intro w'
    go_simp
    with_reducible rfl
  rotate_left
  · simp only [Act.put, List.setIfInBounds_toArray, List.set_cons_zero, List.set_cons_succ, i64_w, i32_w]
    rfl
  refine take_ (i := 17) (N := some 58) (v := ?_) (a' := ?_) #[true, true, true, true, true, true, true, true, true, true, true, true, true, true, true, true, true, true, true, false, false, true, false, false, false, false, false, false, false, false, false, false, false] rfl rfl (by kernel_rfl) (fun _ _ _ h => h) (Or.inl ⟨by rfl, ?_⟩) hHeld ?_ ?_
  rotate_left
  · rintro w' ⟨s0, s1⟩
    refine (exec_load _ _ 27 (.tmp 6) _ _ _ (by rfl) (by rfl) s0).trans ?_
    with_reducible rfl
  rotate_left
  · simp only [Act.put, List.setIfInBounds_toArray, List.set_cons_zero, List.set_cons_succ, i64_w, i32_w]
    rfl
  refine take_ (i := 20) (N := some 61) (v := ?_) (a' := ?_) #[true, true, true, true, true, true, true, true, true, true, true, true, true, true, true, true, true, true, true, false, true, true, false, false, false, false, false, false, false, false, false, false, false] rfl rfl (by kernel_rfl) (fun _ _ _ h => h) (Or.inl ⟨by rfl, ?_⟩) hHeld ?_ ?_
  rotate_left
  · rintro w' ⟨s0, s1⟩
    go_simp
    with_reducible rfl
  rotate_left
  · simp only [Act.put, List.setIfInBounds_toArray, List.set_cons_zero, List.set_cons_succ, i64_w, i32_w]
    rfl
  refine one_ (i := 19) (N := some 60) #[true, true, true, true, true, true, true, true, true, true, true, true, true, true, true, true, true, true, true, true, true, true, false, false, false, false, false, false, false, false, false, false, false] rfl rfl (by kernel_rfl) (by decide) (fun K hK => ?_)
  refine goes_ Tryd.func19 (by kernel_rfl) rfl #[.agg (cells ma), .int .i64 n1] (by rfl) rfl rfl (by simp only [List.map_toArray, List.map_cons, List.map_nil]; rfl) ?_
  with_reducible refine (next_is ma n1 x0 Hx0.out _ HN1.out.2 (HT.out.below (B_w14.out) HT.out.three)).mono ?_
  rintro e_ w15 ⟨rfl, hb_⟩
  refine ⟨_, rfl, ?_⟩
  have B_w15 := Lib.hid (below_step (B_w14.out) hb_)
  have K_ma_w15 := Lib.hid (blk_below (K_ma_w14.out) hb_)
  have R_x_w15 := Lib.hid (Kd.C_below (R_x_w14.out) hb_)
  have K_x_w15 := Lib.hid (blk_below (K_x_w14.out) hb_)
  clear hb_
  clear B_w14 K_ma_w14 R_x_w14
  refine hK.out _ _ ⟨load27 K_ma_w15.out, cell30 K_x_w15.out⟩ (fun hHeld => ?_)
  clear hK K
  refine norm_ (a' := ?_) ?_ ?_
  rotate_left
  · show Act.put _ (some 60) _ = _
    simp only [Act.put, List.setIfInBounds_toArray, List.set_cons_zero, List.set_cons_succ, i64_w, i32_w]
    rfl
  refine one_ (i := 22) (N := some 63) #[true, true, true, true, true, true, true, true, true, true, true, true, true, true, true, true, true, true, true, true, true, true, true, false, false, false, false, false, false, false, false, false, false] rfl rfl (by kernel_rfl) (by decide) (fun K hK => ?_)
  refine goes_ Tryd.func20 (by kernel_rfl) rfl #[.agg #[.slice A_x (listF ma).length c_x], .int .i64 n1] (by rfl) rfl rfl (by simp only [List.map_toArray, List.map_cons, List.map_nil]; rfl) ?_
  with_reducible refine (refNext_is ma n1 x0 Hx0.out A_x c_x _ (R_x_w15.out) C_x.out).mono ?_
  rintro e_ w16 ⟨rfl, hb_⟩
  refine ⟨_, rfl, ?_⟩
  have B_w16 := Lib.hid (below_step (B_w15.out) hb_)
  have K_ma_w16 := Lib.hid (blk_below (K_ma_w15.out) hb_)
  have R_x_w16 := Lib.hid (Kd.C_below (R_x_w15.out) hb_)
  have K_x_w16 := Lib.hid (blk_below (K_x_w15.out) hb_)
  clear hb_
  clear B_w15 K_ma_w15 R_x_w15
  refine hK.out _ _ ⟨load27 K_ma_w16.out, cell30 K_x_w16.out⟩ (fun hHeld => ?_)
  clear hK K
  refine norm_ (a' := ?_) ?_ ?_
  rotate_left
  · show Act.put _ (some 63) _ = _
    simp only [Act.put, List.setIfInBounds_toArray, List.set_cons_zero, List.set_cons_succ, i64_w, i32_w]
    rfl
  refine pure_ (i := 23) (N := some 64) (v := ?_) (a' := ?_) #[true, true, true, true, true, true, true, true, true, true, true, true, true, true, true, true, true, true, true, true, true, true, true, true, false, false, false, false, false, false, false, false, false] rfl rfl (by kernel_rfl) (fun _ _ _ h => h) (Or.inl ⟨by rfl, ?_⟩) ?_ ?_
  rotate_left
  · intro w'
    go_simp
    with_reducible rfl
  rotate_left
  · simp only [Act.put, List.setIfInBounds_toArray, List.set_cons_zero, List.set_cons_succ, i64_w, i32_w]
    rfl
  refine pure_ (i := 24) (N := some 65) (v := ?_) (a' := ?_) #[true, true, true, true, true, true, true, true, true, true, true, true, true, true, true, true, true, true, true, true, true, true, true, true, true, false, false, false, false, false, false, false, false] rfl rfl (by kernel_rfl) (fun _ _ _ h => h) (Or.inl ⟨by rfl, ?_⟩) ?_ ?_
  rotate_left
  · intro w'
    go_simp
    with_reducible rfl
  rotate_left
  · simp only [Act.put, List.setIfInBounds_toArray, List.set_cons_zero, List.set_cons_succ, i64_w, i32_w]
    rfl
  refine pure_ (i := 25) (N := some 66) (v := ?_) (a' := ?_) #[true, true, true, true, true, true, true, true, true, true, true, true, true, true, true, true, true, true, true, true, true, true, true, true, true, true, false, false, false, false, false, false, false] rfl rfl (by kernel_rfl) (fun _ _ _ h => h) (Or.inl ⟨by rfl, ?_⟩) ?_ ?_
  rotate_left
  · intro w'
    go_simp
    with_reducible rfl
  rotate_left
  · simp only [Act.put, List.setIfInBounds_toArray, List.set_cons_zero, List.set_cons_succ, i64_w, i32_w]
    rfl
  refine take_ (i := 26) (N := some 67) (v := ?_) (a' := ?_) #[true, true, true, true, true, true, true, true, true, true, true, true, true, true, true, true, true, true, true, true, true, true, true, true, true, true, true, false, false, false, false, false, false] rfl rfl (by kernel_rfl) (fun _ _ _ h => h) (Or.inl ⟨by rfl, ?_⟩) hHeld ?_ ?_
  rotate_left
  · rintro w' ⟨s0, s1⟩
    refine (exec_load _ _ 27 (.tmp 6) _ _ _ (by rfl) (by rfl) s0).trans ?_
    with_reducible rfl
  rotate_left
  · simp only [Act.put, List.setIfInBounds_toArray, List.set_cons_zero, List.set_cons_succ, i64_w, i32_w]
    rfl
  refine take_ (i := 28) (N := some 69) (v := ?_) (a' := ?_) #[true, true, true, true, true, true, true, true, true, true, true, true, true, true, true, true, true, true, true, true, true, true, true, true, true, true, true, false, true, false, false, false, false] rfl rfl (by kernel_rfl) (fun _ _ _ h => h) (Or.inl ⟨by rfl, ?_⟩) hHeld ?_ ?_
  rotate_left
  · rintro w' ⟨s0, s1⟩
    go_simp
    with_reducible rfl
  rotate_left
  · simp only [Act.put, List.setIfInBounds_toArray, List.set_cons_zero, List.set_cons_succ, i64_w, i32_w]
    rfl
  refine one_ (i := 27) (N := some 68) #[true, true, true, true, true, true, true, true, true, true, true, true, true, true, true, true, true, true, true, true, true, true, true, true, true, true, true, true, true, false, false, false, false] rfl rfl (by kernel_rfl) (by decide) (fun K hK => ?_)
  refine goes_ Tryd.func21 (by kernel_rfl) rfl #[.agg (cells ma)] (by rfl) rfl rfl (by simp only [List.map_toArray, List.map_cons, List.map_nil]; rfl) ?_
  with_reducible refine (text_is ma tm Htm.out _ (HT.out.below (B_w16.out) HT.out.three)).mono ?_
  rintro e_ w17 ⟨rfl, hb_⟩
  refine ⟨_, rfl, ?_⟩
  have B_w17 := Lib.hid (below_step (B_w16.out) hb_)
  have K_ma_w17 := Lib.hid (blk_below (K_ma_w16.out) hb_)
  have R_x_w17 := Lib.hid (Kd.C_below (R_x_w16.out) hb_)
  have K_x_w17 := Lib.hid (blk_below (K_x_w16.out) hb_)
  clear hb_
  clear B_w16 K_ma_w16 R_x_w16
  refine hK.out _ _ ⟨load27 K_ma_w17.out, cell30 K_x_w17.out⟩ (fun hHeld => ?_)
  clear hK K
  refine norm_ (a' := ?_) ?_ ?_
  rotate_left
  · show Act.put _ (some 68) _ = _
    simp only [Act.put, List.setIfInBounds_toArray, List.set_cons_zero, List.set_cons_succ, i64_w, i32_w]
    rfl
  refine one_ (i := 29) (N := some 70) #[true, true, true, true, true, true, true, true, true, true, true, true, true, true, true, true, true, true, true, true, true, true, true, true, true, true, true, true, true, true, false, false, false] rfl rfl (by kernel_rfl) (by decide) (fun K hK => ?_)
  refine goes_ Tryd.func22 (by kernel_rfl) rfl #[.agg #[.slice A_x (listF ma).length c_x]] (by rfl) rfl rfl (by simp only [List.map_toArray, List.map_cons, List.map_nil]; rfl) ?_
  with_reducible refine (refText_is ma tm Htm.out A_x c_x _ (R_x_w17.out) C_x.out).mono ?_
  rintro e_ w18 ⟨rfl, hb_⟩
  refine ⟨_, rfl, ?_⟩
  have B_w18 := Lib.hid (below_step (B_w17.out) hb_)
  have K_ma_w18 := Lib.hid (blk_below (K_ma_w17.out) hb_)
  have R_x_w18 := Lib.hid (Kd.C_below (R_x_w17.out) hb_)
  have K_x_w18 := Lib.hid (blk_below (K_x_w17.out) hb_)
  clear hb_
  clear B_w17 K_ma_w17 R_x_w17
  refine hK.out _ _ ⟨load27 K_ma_w18.out, cell30 K_x_w18.out⟩ (fun hHeld => ?_)
  clear hK K
  refine norm_ (a' := ?_) ?_ ?_
  rotate_left
  · show Act.put _ (some 70) _ = _
    simp only [Act.put, List.setIfInBounds_toArray, List.set_cons_zero, List.set_cons_succ, i64_w, i32_w]
    rfl
  refine pure_ (i := 30) (N := some 71) (v := ?_) (a' := ?_) #[true, true, true, true, true, true, true, true, true, true, true, true, true, true, true, true, true, true, true, true, true, true, true, true, true, true, true, true, true, true, true, false, false] rfl rfl (by kernel_rfl) (fun _ _ _ h => h) (Or.inl ⟨by rfl, ?_⟩) ?_ ?_
  rotate_left
  · intro w'
    go_simp
    with_reducible rfl
  rotate_left
  · simp only [Act.put, List.setIfInBounds_toArray, List.set_cons_zero, List.set_cons_succ, i64_w, i32_w]
    rfl
  refine pure_ (i := 31) (N := some 72) (v := ?_) (a' := ?_) #[true, true, true, true, true, true, true, true, true, true, true, true, true, true, true, true, true, true, true, true, true, true, true, true, true, true, true, true, true, true, true, true, false] rfl rfl (by kernel_rfl) (fun _ _ _ h => h) (Or.inl ⟨by rfl, ?_⟩) ?_ ?_
  rotate_left
  · intro w'
    go_simp
    with_reducible rfl
  rotate_left
  · simp only [Act.put, List.setIfInBounds_toArray, List.set_cons_zero, List.set_cons_succ, i64_w, i32_w]
    rfl
  refine pure_ (i := 32) (N := some 4) (v := ?_) (a' := ?_) #[true, true, true, true, true, true, true, true, true, true, true, true, true, true, true, true, true, true, true, true, true, true, true, true, true, true, true, true, true, true, true, true, true] rfl rfl (by kernel_rfl) (fun _ _ _ h => h) (Or.inl ⟨by rfl, ?_⟩) ?_ ?_
  rotate_left
  · intro w'
    go_simp
    with_reducible rfl
  rotate_left
  · simp only [Act.put, List.setIfInBounds_toArray, List.set_cons_zero, List.set_cons_succ, i64_w, i32_w]
    rfl
  refine done_ (by kernel_rfl) ?_
  have nB := Lib.hid (B_w18.out)
  clear HB
  have HB := nB
  clear nB
  have n_ := Lib.hid (K_ma_w18.out)
  clear K_ma
  have K_ma := n_
  clear n_
  have n_ := Lib.hid (K_x_w18.out)
  clear K_x
  have K_x := n_
  clear n_
  have n_ := Lib.hid (R_x_w18.out)
  clear R_x
  have R_x := n_
  clear n_
  go_wp2_with fail
  go_ret
  exact ⟨rfl, HB.out⟩
end Go.Proofs.YtjcppnleoahaiaaDoor.P
