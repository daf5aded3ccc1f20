/- BitsJoin, walked. -/
import Derived.Test.YtjcppnleoahaiaaDoorAlike
namespace Go.Proofs.YtjcppnleoahaiaaDoor.P
open Go.RowKit Go.Proofs.YtjcppnleoahaiaaDoorW.PrintWords Go.Proofs.YtjcppnleoahaiaaDoorW.PrintLast Go.Proofs.YtjcppnleoahaiaaDoorW.PrintMore
set_option linter.unusedVariables false
set_option linter.unusedSimpArgs false

set_option maxRecDepth 100000 in
set_option maxHeartbeats 8000000 in
theorem bitsJoin_any (A0 : Option Addr) (c0 : Nat) (l0 : List Int) (A1 : Option Addr) (c1 : Nat) (l1 : List Int) (w : World) (hT : Tabs w) (hr0 : Kd.C (Kd.int .i64) w A0 l0.length l0) (hc0 : l0.length ≤ c0) (hr1 : Kd.C (Kd.int .i64) w A1 l1.length l1) (hc1 : l1.length ≤ c1) :
    Calls Tryd.prog 5 #[.slice A0 l0.length c0, .slice A1 l1.length c1] w fun e w' => e = .returned (.bool true) ∧ Below w.heap.size w w' := by
  have HT := Lib.hid hT
  have HC0 := Lib.hid hr0
  have HL0 := Lib.hid hc0
  have HC1 := Lib.hid hr1
  have HL1 := Lib.hid hc1
  clear hT hr0 hc0 hr1 hc1
  have HB : Hid (Below w.heap.size w w) := Lib.hid (Below.refl _ _)
  go_enter Tryd.func5, Tryd.ntmps5
  go_wp2_with fail
  refine (shown_any _ (HT.out.below (by (with_reducible repeat (first | apply below_alloc | apply pw_below_drewN | apply below_drew1)); exact HB.out) HT.out.2.2)).mono ?_
  rintro e_ w1 ⟨rfl, hb_⟩
  have nB : Hid (Below w.heap.size w w1) := Lib.hid (below_step (by (with_reducible repeat (first | apply below_alloc | apply pw_below_drewN | apply below_drew1)); exact HB.out) hb_)
  clear HB
  have HB := nB
  clear nB
  clear hb_
  by_cases hsh : shortB l0.length l1.length 0 = true
  · have HS := Lib.hid hsh
    clear hsh
    go_wp2_with fail
    refine (short_any A0 c0 l0 A1 c1 l1 none 0 [] true HS.out _ (Kd.C_below HC0.out (by (with_reducible repeat (first | apply below_alloc | apply pw_below_drewN | apply below_drew1)); exact HB.out)) HL0.out (Kd.C_below HC1.out (by (with_reducible repeat (first | apply below_alloc | apply pw_below_drewN | apply below_drew1)); exact HB.out)) HL1.out (Kd.C_nil _ _) (Nat.le_refl _)).mono ?_
    rintro e_ w2 ⟨rfl, hb_⟩
    have nB : Hid (Below w.heap.size w w2) := Lib.hid (below_step (by (with_reducible repeat (first | apply below_alloc | apply pw_below_drewN | apply below_drew1)); exact HB.out) hb_)
    clear HB
    have HB := nB
    clear nB
    clear hb_
    go_wp2_with fail
    refine (of_any A0 c0 l0 _ (Kd.C_below HC0.out (by (with_reducible repeat (first | apply below_alloc | apply pw_below_drewN | apply below_drew1)); exact HB.out))).mono ?_
    rintro e_ w3 ⟨rfl, hb_⟩
    have nB : Hid (Below w.heap.size w w3) := Lib.hid (below_step (by (with_reducible repeat (first | apply below_alloc | apply pw_below_drewN | apply below_drew1)); exact HB.out) hb_)
    clear HB
    have HB := nB
    clear nB
    clear hb_
    obtain ⟨ma, hm_⟩ : ∃ m_ : Nat → Bool, m_ = ofF l0 := ⟨_, rfl⟩
    rw [← hm_]
    have M_ma := Lib.hid hm_
    clear hm_
    go_wp2_with (((with_reducible refine gate_dst (N := 7) rfl ?_); refine Stp.out ?_))
    unfold Stp
    refine wpList_var27 rfl rfl rfl rfl rfl _ rfl ma rfl rfl ?_
    intro w4 hk_ hb_
    have K_ma : Hid (w4.heap[w3.heap.size]? = some (.cells (cells ma) 27 (0, 0))) := Lib.hid hk_
    clear hk_
    have nB : Hid (Below w.heap.size w w4) := Lib.hid (below_step (by (with_reducible repeat (first | apply below_alloc | apply pw_below_drewN | apply below_drew1)); exact HB.out) hb_)
    clear HB
    have HB := nB
    clear nB
    clear hb_
    go_wp2_with fail
    refine (of_any A1 c1 l1 _ (Kd.C_below HC1.out (by (with_reducible repeat (first | apply below_alloc | apply pw_below_drewN | apply below_drew1)); exact HB.out))).mono ?_
    rintro e_ w5 ⟨rfl, hb_⟩
    have nB : Hid (Below w.heap.size w w5) := Lib.hid (below_step (by (with_reducible repeat (first | apply below_alloc | apply pw_below_drewN | apply below_drew1)); exact HB.out) hb_)
    clear HB
    have HB := nB
    clear nB
    have n_ma : Hid (w5.heap[w3.heap.size]? = some (.cells (cells ma) 27 (0, 0))) := Lib.hid (blk_below (by (with_reducible repeat (first | refine blk_drewN ?_ _ | refine blk_drew ?_ | refine blk_alloc ?_ _)); exact K_ma.out) hb_)
    clear K_ma
    have K_ma := n_ma
    clear n_ma
    clear hb_
    obtain ⟨mb, hm_⟩ : ∃ m_ : Nat → Bool, m_ = ofF l1 := ⟨_, rfl⟩
    rw [← hm_]
    have M_mb := Lib.hid hm_
    clear hm_
    go_wp2_with (((with_reducible refine gate_dst (N := 8) rfl ?_); refine Stp.out ?_))
    unfold Stp
    refine wpList_var27 rfl rfl rfl rfl rfl _ rfl mb rfl rfl ?_
    intro w6 hk_ hb_
    have K_mb : Hid (w6.heap[w5.heap.size]? = some (.cells (cells mb) 27 (0, 0))) := Lib.hid hk_
    clear hk_
    have nB : Hid (Below w.heap.size w w6) := Lib.hid (below_step (by (with_reducible repeat (first | apply below_alloc | apply pw_below_drewN | apply below_drew1)); exact HB.out) hb_)
    clear HB
    have HB := nB
    clear nB
    have n_ma : Hid (w6.heap[w3.heap.size]? = some (.cells (cells ma) 27 (0, 0))) := Lib.hid (blk_below (by (with_reducible repeat (first | refine blk_drewN ?_ _ | refine blk_drew ?_ | refine blk_alloc ?_ _)); exact K_ma.out) hb_)
    clear K_ma
    have K_ma := n_ma
    clear n_ma
    clear hb_
    go_wp2_with fail
    refine (refOf_is ma A0 c0 l0 M_ma.out _ (Kd.C_below HC0.out (by (with_reducible repeat (first | apply below_alloc | apply pw_below_drewN | apply below_drew1)); exact HB.out)) HL0.out).mono ?_
    rintro e_ w7 ⟨⟨A_x, c_x, rfl, hC_, hc_⟩, hb_⟩
    have C_x := Lib.hid hc_
    have nB : Hid (Below w.heap.size w w7) := Lib.hid (below_step (by (with_reducible repeat (first | apply below_alloc | apply pw_below_drewN | apply below_drew1)); exact HB.out) hb_)
    clear HB
    have HB := nB
    clear nB
    have n_ma : Hid (w7.heap[w3.heap.size]? = some (.cells (cells ma) 27 (0, 0))) := Lib.hid (blk_below (by (with_reducible repeat (first | refine blk_drewN ?_ _ | refine blk_drew ?_ | refine blk_alloc ?_ _)); exact K_ma.out) hb_)
    clear K_ma
    have K_ma := n_ma
    clear n_ma
    have n_mb : Hid (w7.heap[w5.heap.size]? = some (.cells (cells mb) 27 (0, 0))) := Lib.hid (blk_below (by (with_reducible repeat (first | refine blk_drewN ?_ _ | refine blk_drew ?_ | refine blk_alloc ?_ _)); exact K_mb.out) hb_)
    clear K_mb
    have K_mb := n_mb
    clear n_mb
    have R_x : Hid (Kd.C (Kd.int .i64) w7 A_x (listF ma).length (listF ma)) := Lib.hid hC_
    clear hb_ hc_ hC_
    go_wp2_with (((with_reducible refine gate_dst (N := 9) rfl ?_); refine Stp.out ?_))
    unfold Stp
    refine wpList_var30 rfl rfl rfl rfl rfl _ rfl (.slice A_x (listF ma).length c_x) rfl rfl rfl ?_
    intro w8 hk_ hb_
    have K_x : Hid (w8.heap[w7.heap.size]? = some (.cells #[.slice A_x (listF ma).length c_x] 30 (0, 0))) := Lib.hid hk_
    clear hk_
    have nB : Hid (Below w.heap.size w w8) := Lib.hid (below_step (by (with_reducible repeat (first | apply below_alloc | apply pw_below_drewN | apply below_drew1)); exact HB.out) hb_)
    clear HB
    have HB := nB
    clear nB
    have n_ma : Hid (w8.heap[w3.heap.size]? = some (.cells (cells ma) 27 (0, 0))) := Lib.hid (blk_below (by (with_reducible repeat (first | refine blk_drewN ?_ _ | refine blk_drew ?_ | refine blk_alloc ?_ _)); exact K_ma.out) hb_)
    clear K_ma
    have K_ma := n_ma
    clear n_ma
    have n_mb : Hid (w8.heap[w5.heap.size]? = some (.cells (cells mb) 27 (0, 0))) := Lib.hid (blk_below (by (with_reducible repeat (first | refine blk_drewN ?_ _ | refine blk_drew ?_ | refine blk_alloc ?_ _)); exact K_mb.out) hb_)
    clear K_mb
    have K_mb := n_mb
    clear n_mb
    have n_x : Hid (Kd.C (Kd.int .i64) w8 A_x (listF ma).length (listF ma)) := Lib.hid (Kd.C_below (by (with_reducible repeat (first | apply Kd.C_alloc | apply Kd.C_drewN | apply Kd.C_drew)); exact R_x.out) hb_)
    clear R_x
    have R_x := n_x
    clear n_x
    clear hb_
    go_wp2_with fail
    refine (refOf_is mb A1 c1 l1 M_mb.out _ (Kd.C_below HC1.out (by (with_reducible repeat (first | apply below_alloc | apply pw_below_drewN | apply below_drew1)); exact HB.out)) HL1.out).mono ?_
    rintro e_ w9 ⟨⟨A_y, c_y, rfl, hC_, hc_⟩, hb_⟩
    have C_y := Lib.hid hc_
    have nB : Hid (Below w.heap.size w w9) := Lib.hid (below_step (by (with_reducible repeat (first | apply below_alloc | apply pw_below_drewN | apply below_drew1)); exact HB.out) hb_)
    clear HB
    have HB := nB
    clear nB
    have n_ma : Hid (w9.heap[w3.heap.size]? = some (.cells (cells ma) 27 (0, 0))) := Lib.hid (blk_below (by (with_reducible repeat (first | refine blk_drewN ?_ _ | refine blk_drew ?_ | refine blk_alloc ?_ _)); exact K_ma.out) hb_)
    clear K_ma
    have K_ma := n_ma
    clear n_ma
    have n_mb : Hid (w9.heap[w5.heap.size]? = some (.cells (cells mb) 27 (0, 0))) := Lib.hid (blk_below (by (with_reducible repeat (first | refine blk_drewN ?_ _ | refine blk_drew ?_ | refine blk_alloc ?_ _)); exact K_mb.out) hb_)
    clear K_mb
    have K_mb := n_mb
    clear n_mb
    have n_x : Hid (w9.heap[w7.heap.size]? = some (.cells #[.slice A_x (listF ma).length c_x] 30 (0, 0))) := Lib.hid (blk_below (by (with_reducible repeat (first | refine blk_drewN ?_ _ | refine blk_drew ?_ | refine blk_alloc ?_ _)); exact K_x.out) hb_)
    clear K_x
    have K_x := n_x
    clear n_x
    have n_x : Hid (Kd.C (Kd.int .i64) w9 A_x (listF ma).length (listF ma)) := Lib.hid (Kd.C_below (by (with_reducible repeat (first | apply Kd.C_alloc | apply Kd.C_drewN | apply Kd.C_drew)); exact R_x.out) hb_)
    clear R_x
    have R_x := n_x
    clear n_x
    have R_y : Hid (Kd.C (Kd.int .i64) w9 A_y (listF mb).length (listF mb)) := Lib.hid hC_
    clear hb_ hc_ hC_
    go_wp2_with (((with_reducible refine gate_dst (N := 10) rfl ?_); refine Stp.out ?_))
    unfold Stp
    refine wpList_var30 rfl rfl rfl rfl rfl _ rfl (.slice A_y (listF mb).length c_y) rfl rfl rfl ?_
    intro w10 hk_ hb_
    have K_y : Hid (w10.heap[w9.heap.size]? = some (.cells #[.slice A_y (listF mb).length c_y] 30 (0, 0))) := Lib.hid hk_
    clear hk_
    have nB : Hid (Below w.heap.size w w10) := Lib.hid (below_step (by (with_reducible repeat (first | apply below_alloc | apply pw_below_drewN | apply below_drew1)); exact HB.out) hb_)
    clear HB
    have HB := nB
    clear nB
    have n_ma : Hid (w10.heap[w3.heap.size]? = some (.cells (cells ma) 27 (0, 0))) := Lib.hid (blk_below (by (with_reducible repeat (first | refine blk_drewN ?_ _ | refine blk_drew ?_ | refine blk_alloc ?_ _)); exact K_ma.out) hb_)
    clear K_ma
    have K_ma := n_ma
    clear n_ma
    have n_mb : Hid (w10.heap[w5.heap.size]? = some (.cells (cells mb) 27 (0, 0))) := Lib.hid (blk_below (by (with_reducible repeat (first | refine blk_drewN ?_ _ | refine blk_drew ?_ | refine blk_alloc ?_ _)); exact K_mb.out) hb_)
    clear K_mb
    have K_mb := n_mb
    clear n_mb
    have n_x : Hid (w10.heap[w7.heap.size]? = some (.cells #[.slice A_x (listF ma).length c_x] 30 (0, 0))) := Lib.hid (blk_below (by (with_reducible repeat (first | refine blk_drewN ?_ _ | refine blk_drew ?_ | refine blk_alloc ?_ _)); exact K_x.out) hb_)
    clear K_x
    have K_x := n_x
    clear n_x
    have n_x : Hid (Kd.C (Kd.int .i64) w10 A_x (listF ma).length (listF ma)) := Lib.hid (Kd.C_below (by (with_reducible repeat (first | apply Kd.C_alloc | apply Kd.C_drewN | apply Kd.C_drew)); exact R_x.out) hb_)
    clear R_x
    have R_x := n_x
    clear n_x
    have n_y : Hid (Kd.C (Kd.int .i64) w10 A_y (listF mb).length (listF mb)) := Lib.hid (Kd.C_below (by (with_reducible repeat (first | apply Kd.C_alloc | apply Kd.C_drewN | apply Kd.C_drew)); exact R_y.out) hb_)
    clear R_y
    have R_y := n_y
    clear n_y
    clear hb_
    obtain ⟨bs, h_⟩ : ∃ x_, sameF ma mb = x_ := ⟨_, rfl⟩
    have Hbs := Lib.hid h_
    clear h_
    obtain ⟨bt, h_⟩ : ∃ x_, sameF (orF ma mb) mb = x_ := ⟨_, rfl⟩
    have Hbt := Lib.hid h_
    clear h_
    go_wp2_with fail
    refine start_ (n := 8) (S := fun w' => (loadVar 27 ⟨w3.heap.size, 0, none⟩).run Tryd.prog w' = .ok (.agg (cells ma)) w' ∧ (loadVar 27 ⟨w5.heap.size, 0, none⟩).run Tryd.prog w' = .ok (.agg (cells mb)) w' ∧ w'.cell? ⟨w7.heap.size, 0, none⟩ = some (.slice A_x (listF ma).length c_x) ∧ w'.cell? ⟨w9.heap.size, 0, none⟩ = some (.slice A_y (listF mb).length c_y)) (ds := []) #[false, false, false, false, false, false, false, false] (by kernel_rfl) rfl rfl ⟨load27 (blk_drew K_ma.out), load27 (blk_drew K_mb.out), cell30 (blk_drew K_x.out), cell30 (blk_drew K_y.out)⟩ (fun hHeld => ?_)
    refine take_ (i := 0) (N := some 33) (v := ?_) (a' := ?_) #[true, false, false, false, false, false, false, false] rfl rfl (by kernel_rfl) (fun _ _ _ h => h) (Or.inl ⟨by rfl, ?_⟩) hHeld ?_ ?_
    rotate_left
    · rintro w' ⟨s0, s1, s2, s3⟩
      refine (exec_load _ _ 27 (.tmp 7) _ _ _ (by rfl) (by rfl) s0).trans ?_
      with_reducible rfl
    rotate_left
    · simp only [Act.put, List.setIfInBounds_toArray, List.set_cons_zero, List.set_cons_succ, i64_w, i32_w]
      rfl
    refine take_ (i := 1) (N := some 34) (v := ?_) (a' := ?_) #[true, true, false, false, false, false, false, false] rfl rfl (by kernel_rfl) (fun _ _ _ h => h) (Or.inl ⟨by rfl, ?_⟩) hHeld ?_ ?_
    rotate_left
    · rintro w' ⟨s0, s1, s2, s3⟩
      refine (exec_load _ _ 27 (.tmp 8) _ _ _ (by rfl) (by rfl) s1).trans ?_
      with_reducible rfl
    rotate_left
    · simp only [Act.put, List.setIfInBounds_toArray, List.set_cons_zero, List.set_cons_succ, i64_w, i32_w]
      rfl
    refine take_ (i := 3) (N := some 36) (v := ?_) (a' := ?_) #[true, true, false, true, false, false, false, false] rfl rfl (by kernel_rfl) (fun _ _ _ h => h) (Or.inl ⟨by rfl, ?_⟩) hHeld ?_ ?_
    rotate_left
    · rintro w' ⟨s0, s1, s2, s3⟩
      go_simp
      with_reducible rfl
    rotate_left
    · simp only [Act.put, List.setIfInBounds_toArray, List.set_cons_zero, List.set_cons_succ, i64_w, i32_w]
      rfl
    refine take_ (i := 4) (N := some 37) (v := ?_) (a' := ?_) #[true, true, false, true, true, false, false, false] rfl rfl (by kernel_rfl) (fun _ _ _ h => h) (Or.inl ⟨by rfl, ?_⟩) hHeld ?_ ?_
    rotate_left
    · rintro w' ⟨s0, s1, s2, s3⟩
      go_simp
      with_reducible rfl
    rotate_left
    · simp only [Act.put, List.setIfInBounds_toArray, List.set_cons_zero, List.set_cons_succ, i64_w, i32_w]
      rfl
    refine one_ (i := 2) (N := some 35) #[true, true, true, true, true, false, false, false] rfl rfl (by kernel_rfl) (by decide) (fun K hK => ?_)
    refine goes_ Tryd.func24 (by kernel_rfl) rfl #[.agg (cells ma), .agg (cells mb)] (by rfl) rfl rfl (by simp only [List.map_toArray, List.map_cons, List.map_nil]; rfl) ?_
    with_reducible refine (or_any ma mb _).mono ?_
    rintro e_ w11 ⟨rfl, hb_⟩
    refine ⟨_, rfl, ?_⟩
    have B_w11 := Lib.hid (below_step ((below_drew HB.out)) hb_)
    have K_ma_w11 := Lib.hid (blk_below (blk_drew K_ma.out) hb_)
    have K_mb_w11 := Lib.hid (blk_below (blk_drew K_mb.out) hb_)
    have R_x_w11 := Lib.hid (Kd.C_below (Kd.C_drew R_x.out) hb_)
    have R_y_w11 := Lib.hid (Kd.C_below (Kd.C_drew R_y.out) hb_)
    have K_x_w11 := Lib.hid (blk_below (blk_drew K_x.out) hb_)
    have K_y_w11 := Lib.hid (blk_below (blk_drew K_y.out) hb_)
    clear hb_
    refine hK.out _ _ ⟨load27 K_ma_w11.out, load27 K_mb_w11.out, cell30 K_x_w11.out, cell30 K_y_w11.out⟩ (fun hHeld => ?_)
    clear hK K
    refine norm_ (a' := ?_) ?_ ?_
    rotate_left
    · show Act.put _ (some 35) _ = _
      simp only [Act.put, List.setIfInBounds_toArray, List.set_cons_zero, List.set_cons_succ, i64_w, i32_w]
      rfl
    refine one_ (i := 5) (N := some 38) #[true, true, true, true, true, true, false, false] rfl rfl (by kernel_rfl) (by decide) (fun K hK => ?_)
    refine goes_ Tryd.func29 (by kernel_rfl) rfl #[.agg #[.slice A_x (listF ma).length c_x], .agg #[.slice A_y (listF mb).length c_y]] (by rfl) rfl rfl (by simp only [List.map_toArray, List.map_cons, List.map_nil]; rfl) ?_
    with_reducible refine (refOr_any ma mb A_x c_x A_y c_y _ (R_x_w11.out) C_x.out (R_y_w11.out) C_y.out).mono ?_
    rintro e_ w12 ⟨⟨A_u1, c_u1, rfl, hC_, hc_⟩, hb_⟩
    refine ⟨_, rfl, ?_⟩
    have C_u1 := Lib.hid hc_
    have B_w12 := Lib.hid (below_step (B_w11.out) hb_)
    have K_ma_w12 := Lib.hid (blk_below (K_ma_w11.out) hb_)
    have K_mb_w12 := Lib.hid (blk_below (K_mb_w11.out) hb_)
    have R_x_w12 := Lib.hid (Kd.C_below (R_x_w11.out) hb_)
    have R_y_w12 := Lib.hid (Kd.C_below (R_y_w11.out) hb_)
    have K_x_w12 := Lib.hid (blk_below (K_x_w11.out) hb_)
    have K_y_w12 := Lib.hid (blk_below (K_y_w11.out) hb_)
    have R_u1_w12 := Lib.hid hC_
    clear hb_ hC_ hc_
    clear B_w11 K_ma_w11 K_mb_w11 R_x_w11 R_y_w11
    refine hK.out _ _ ⟨load27 K_ma_w12.out, load27 K_mb_w12.out, cell30 K_x_w12.out, cell30 K_y_w12.out⟩ (fun hHeld => ?_)
    clear hK K
    refine norm_ (a' := ?_) ?_ ?_
    rotate_left
    · show Act.put _ (some 38) _ = _
      simp only [Act.put, List.setIfInBounds_toArray, List.set_cons_zero, List.set_cons_succ, i64_w, i32_w]
      rfl
    refine one_ (i := 6) (N := some 39) #[true, true, true, true, true, true, true, false] rfl rfl (by kernel_rfl) (by decide) (fun K hK => ?_)
    refine goes_ Tryd.func12 (by kernel_rfl) rfl #[.agg (cells (orF ma mb)), .agg #[.slice A_u1 (listF (orF ma mb)).length c_u1]] (by rfl) rfl rfl (by simp only [List.map_toArray, List.map_cons, List.map_nil]; rfl) ?_
    with_reducible refine (alike_any (orF ma mb) A_u1 c_u1 _ (HT.out.below (B_w12.out) HT.out.three) (R_u1_w12.out) C_u1.out).mono ?_
    rintro e_ w13 ⟨rfl, hb_⟩
    refine ⟨_, rfl, ?_⟩
    have B_w13 := Lib.hid (below_step (B_w12.out) hb_)
    have K_ma_w13 := Lib.hid (blk_below (K_ma_w12.out) hb_)
    have K_mb_w13 := Lib.hid (blk_below (K_mb_w12.out) hb_)
    have R_x_w13 := Lib.hid (Kd.C_below (R_x_w12.out) hb_)
    have R_y_w13 := Lib.hid (Kd.C_below (R_y_w12.out) hb_)
    have R_u1_w13 := Lib.hid (Kd.C_below (R_u1_w12.out) hb_)
    have K_x_w13 := Lib.hid (blk_below (K_x_w12.out) hb_)
    have K_y_w13 := Lib.hid (blk_below (K_y_w12.out) hb_)
    clear hb_
    clear B_w12 K_ma_w12 K_mb_w12 R_x_w12 R_y_w12 R_u1_w12
    refine hK.out _ _ ⟨load27 K_ma_w13.out, load27 K_mb_w13.out, cell30 K_x_w13.out, cell30 K_y_w13.out⟩ (fun hHeld => ?_)
    clear hK K
    refine norm_ (a' := ?_) ?_ ?_
    rotate_left
    · show Act.put _ (some 39) _ = _
      simp only [Act.put, List.setIfInBounds_toArray, List.set_cons_zero, List.set_cons_succ, i64_w, i32_w]
      rfl
    refine pure_ (i := 7) (N := some 11) (v := ?_) (a' := ?_) #[true, true, true, true, true, true, true, true] rfl rfl (by kernel_rfl) (fun _ _ _ h => h) (Or.inl ⟨by rfl, ?_⟩) ?_ ?_
    rotate_left
    · intro w'
      go_simp
      with_reducible rfl
    rotate_left
    · simp only [Act.put, List.setIfInBounds_toArray, List.set_cons_zero, List.set_cons_succ, i64_w, i32_w]
      rfl
    refine done_ (by kernel_rfl) ?_
    have nB := Lib.hid (B_w13.out)
    clear HB
    have HB := nB
    clear nB
    have n_ := Lib.hid (K_ma_w13.out)
    clear K_ma
    have K_ma := n_
    clear n_
    have n_ := Lib.hid (K_mb_w13.out)
    clear K_mb
    have K_mb := n_
    clear n_
    have n_ := Lib.hid (K_x_w13.out)
    clear K_x
    have K_x := n_
    clear n_
    have n_ := Lib.hid (K_y_w13.out)
    clear K_y
    have K_y := n_
    clear n_
    have n_ := Lib.hid (R_x_w13.out)
    clear R_x
    have R_x := n_
    clear n_
    have n_ := Lib.hid (R_y_w13.out)
    clear R_y
    have R_y := n_
    clear n_
    go_wp2_with fail
    refine start_ (n := 8) (S := fun w' => (loadVar 27 ⟨w3.heap.size, 0, none⟩).run Tryd.prog w' = .ok (.agg (cells ma)) w' ∧ (loadVar 27 ⟨w5.heap.size, 0, none⟩).run Tryd.prog w' = .ok (.agg (cells mb)) w' ∧ w'.cell? ⟨w7.heap.size, 0, none⟩ = some (.slice A_x (listF ma).length c_x) ∧ w'.cell? ⟨w9.heap.size, 0, none⟩ = some (.slice A_y (listF mb).length c_y)) (ds := []) #[false, false, false, false, false, false, false, false] (by kernel_rfl) rfl rfl ⟨load27 (blk_drew K_ma.out), load27 (blk_drew K_mb.out), cell30 (blk_drew K_x.out), cell30 (blk_drew K_y.out)⟩ (fun hHeld => ?_)
    refine take_ (i := 0) (N := some 40) (v := ?_) (a' := ?_) #[true, false, false, false, false, false, false, false] rfl rfl (by kernel_rfl) (fun _ _ _ h => h) (Or.inl ⟨by rfl, ?_⟩) hHeld ?_ ?_
    rotate_left
    · rintro w' ⟨s0, s1, s2, s3⟩
      refine (exec_load _ _ 27 (.tmp 7) _ _ _ (by rfl) (by rfl) s0).trans ?_
      with_reducible rfl
    rotate_left
    · simp only [Act.put, List.setIfInBounds_toArray, List.set_cons_zero, List.set_cons_succ, i64_w, i32_w]
      rfl
    refine take_ (i := 1) (N := some 41) (v := ?_) (a' := ?_) #[true, true, false, false, false, false, false, false] rfl rfl (by kernel_rfl) (fun _ _ _ h => h) (Or.inl ⟨by rfl, ?_⟩) hHeld ?_ ?_
    rotate_left
    · rintro w' ⟨s0, s1, s2, s3⟩
      refine (exec_load _ _ 27 (.tmp 8) _ _ _ (by rfl) (by rfl) s1).trans ?_
      with_reducible rfl
    rotate_left
    · simp only [Act.put, List.setIfInBounds_toArray, List.set_cons_zero, List.set_cons_succ, i64_w, i32_w]
      rfl
    refine take_ (i := 3) (N := some 43) (v := ?_) (a' := ?_) #[true, true, false, true, false, false, false, false] rfl rfl (by kernel_rfl) (fun _ _ _ h => h) (Or.inl ⟨by rfl, ?_⟩) hHeld ?_ ?_
    rotate_left
    · rintro w' ⟨s0, s1, s2, s3⟩
      go_simp
      with_reducible rfl
    rotate_left
    · simp only [Act.put, List.setIfInBounds_toArray, List.set_cons_zero, List.set_cons_succ, i64_w, i32_w]
      rfl
    refine take_ (i := 4) (N := some 44) (v := ?_) (a' := ?_) #[true, true, false, true, true, false, false, false] rfl rfl (by kernel_rfl) (fun _ _ _ h => h) (Or.inl ⟨by rfl, ?_⟩) hHeld ?_ ?_
    rotate_left
    · rintro w' ⟨s0, s1, s2, s3⟩
      go_simp
      with_reducible rfl
    rotate_left
    · simp only [Act.put, List.setIfInBounds_toArray, List.set_cons_zero, List.set_cons_succ, i64_w, i32_w]
      rfl
    refine one_ (i := 2) (N := some 42) #[true, true, true, true, true, false, false, false] rfl rfl (by kernel_rfl) (by decide) (fun K hK => ?_)
    refine goes_ Tryd.func26 (by kernel_rfl) rfl #[.agg (cells ma), .agg (cells mb)] (by rfl) rfl rfl (by simp only [List.map_toArray, List.map_cons, List.map_nil]; rfl) ?_
    with_reducible refine (and_any ma mb _).mono ?_
    rintro e_ w14 ⟨rfl, hb_⟩
    refine ⟨_, rfl, ?_⟩
    have B_w14 := Lib.hid (below_step ((below_drew HB.out)) hb_)
    have K_ma_w14 := Lib.hid (blk_below (blk_drew K_ma.out) hb_)
    have K_mb_w14 := Lib.hid (blk_below (blk_drew K_mb.out) hb_)
    have R_x_w14 := Lib.hid (Kd.C_below (Kd.C_drew R_x.out) hb_)
    have R_y_w14 := Lib.hid (Kd.C_below (Kd.C_drew R_y.out) hb_)
    have K_x_w14 := Lib.hid (blk_below (blk_drew K_x.out) hb_)
    have K_y_w14 := Lib.hid (blk_below (blk_drew K_y.out) hb_)
    clear hb_
    refine hK.out _ _ ⟨load27 K_ma_w14.out, load27 K_mb_w14.out, cell30 K_x_w14.out, cell30 K_y_w14.out⟩ (fun hHeld => ?_)
    clear hK K
    refine norm_ (a' := ?_) ?_ ?_
    rotate_left
    · show Act.put _ (some 42) _ = _
      simp only [Act.put, List.setIfInBounds_toArray, List.set_cons_zero, List.set_cons_succ, i64_w, i32_w]
      rfl
    refine one_ (i := 5) (N := some 45) #[true, true, true, true, true, true, false, false] rfl rfl (by kernel_rfl) (by decide) (fun K hK => ?_)
    refine goes_ Tryd.func30 (by kernel_rfl) rfl #[.agg #[.slice A_x (listF ma).length c_x], .agg #[.slice A_y (listF mb).length c_y]] (by rfl) rfl rfl (by simp only [List.map_toArray, List.map_cons, List.map_nil]; rfl) ?_
    with_reducible refine (refAnd_any ma mb A_x c_x A_y c_y _ (R_x_w14.out) C_x.out (R_y_w14.out) C_y.out).mono ?_
    rintro e_ w15 ⟨⟨A_u2, c_u2, rfl, hC_, hc_⟩, hb_⟩
    refine ⟨_, rfl, ?_⟩
    have C_u2 := Lib.hid hc_
    have B_w15 := Lib.hid (below_step (B_w14.out) hb_)
    have K_ma_w15 := Lib.hid (blk_below (K_ma_w14.out) hb_)
    have K_mb_w15 := Lib.hid (blk_below (K_mb_w14.out) hb_)
    have R_x_w15 := Lib.hid (Kd.C_below (R_x_w14.out) hb_)
    have R_y_w15 := Lib.hid (Kd.C_below (R_y_w14.out) hb_)
    have K_x_w15 := Lib.hid (blk_below (K_x_w14.out) hb_)
    have K_y_w15 := Lib.hid (blk_below (K_y_w14.out) hb_)
    have R_u2_w15 := Lib.hid hC_
    clear hb_ hC_ hc_
    clear B_w14 K_ma_w14 K_mb_w14 R_x_w14 R_y_w14
    refine hK.out _ _ ⟨load27 K_ma_w15.out, load27 K_mb_w15.out, cell30 K_x_w15.out, cell30 K_y_w15.out⟩ (fun hHeld => ?_)
    clear hK K
    refine norm_ (a' := ?_) ?_ ?_
    rotate_left
    · show Act.put _ (some 45) _ = _
      simp only [Act.put, List.setIfInBounds_toArray, List.set_cons_zero, List.set_cons_succ, i64_w, i32_w]
      rfl
    refine one_ (i := 6) (N := some 46) #[true, true, true, true, true, true, true, false] rfl rfl (by kernel_rfl) (by decide) (fun K hK => ?_)
    refine goes_ Tryd.func12 (by kernel_rfl) rfl #[.agg (cells (andF ma mb)), .agg #[.slice A_u2 (listF (andF ma mb)).length c_u2]] (by rfl) rfl rfl (by simp only [List.map_toArray, List.map_cons, List.map_nil]; rfl) ?_
    with_reducible refine (alike_any (andF ma mb) A_u2 c_u2 _ (HT.out.below (B_w15.out) HT.out.three) (R_u2_w15.out) C_u2.out).mono ?_
    rintro e_ w16 ⟨rfl, hb_⟩
    refine ⟨_, rfl, ?_⟩
    have B_w16 := Lib.hid (below_step (B_w15.out) hb_)
    have K_ma_w16 := Lib.hid (blk_below (K_ma_w15.out) hb_)
    have K_mb_w16 := Lib.hid (blk_below (K_mb_w15.out) hb_)
    have R_x_w16 := Lib.hid (Kd.C_below (R_x_w15.out) hb_)
    have R_y_w16 := Lib.hid (Kd.C_below (R_y_w15.out) hb_)
    have R_u2_w16 := Lib.hid (Kd.C_below (R_u2_w15.out) hb_)
    have K_x_w16 := Lib.hid (blk_below (K_x_w15.out) hb_)
    have K_y_w16 := Lib.hid (blk_below (K_y_w15.out) hb_)
    clear hb_
    clear B_w15 K_ma_w15 K_mb_w15 R_x_w15 R_y_w15 R_u2_w15
    refine hK.out _ _ ⟨load27 K_ma_w16.out, load27 K_mb_w16.out, cell30 K_x_w16.out, cell30 K_y_w16.out⟩ (fun hHeld => ?_)
    clear hK K
    refine norm_ (a' := ?_) ?_ ?_
    rotate_left
    · show Act.put _ (some 46) _ = _
      simp only [Act.put, List.setIfInBounds_toArray, List.set_cons_zero, List.set_cons_succ, i64_w, i32_w]
      rfl
    refine pure_ (i := 7) (N := some 12) (v := ?_) (a' := ?_) #[true, true, true, true, true, true, true, true] rfl rfl (by kernel_rfl) (fun _ _ _ h => h) (Or.inl ⟨by rfl, ?_⟩) ?_ ?_
    rotate_left
    · intro w'
      go_simp
      with_reducible rfl
    rotate_left
    · simp only [Act.put, List.setIfInBounds_toArray, List.set_cons_zero, List.set_cons_succ, i64_w, i32_w]
      rfl
    refine done_ (by kernel_rfl) ?_
    have nB := Lib.hid (B_w16.out)
    clear HB
    have HB := nB
    clear nB
    have n_ := Lib.hid (K_ma_w16.out)
    clear K_ma
    have K_ma := n_
    clear n_
    have n_ := Lib.hid (K_mb_w16.out)
    clear K_mb
    have K_mb := n_
    clear n_
    have n_ := Lib.hid (K_x_w16.out)
    clear K_x
    have K_x := n_
    clear n_
    have n_ := Lib.hid (K_y_w16.out)
    clear K_y
    have K_y := n_
    clear n_
    have n_ := Lib.hid (R_x_w16.out)
    clear R_x
    have R_x := n_
    clear n_
    have n_ := Lib.hid (R_y_w16.out)
    clear R_y
    have R_y := n_
    clear n_
    go_wp2_with fail
    refine start_ (n := 8) (S := fun w' => (loadVar 27 ⟨w3.heap.size, 0, none⟩).run Tryd.prog w' = .ok (.agg (cells ma)) w' ∧ (loadVar 27 ⟨w5.heap.size, 0, none⟩).run Tryd.prog w' = .ok (.agg (cells mb)) w' ∧ w'.cell? ⟨w7.heap.size, 0, none⟩ = some (.slice A_x (listF ma).length c_x) ∧ w'.cell? ⟨w9.heap.size, 0, none⟩ = some (.slice A_y (listF mb).length c_y)) (ds := []) #[false, false, false, false, false, false, false, false] (by kernel_rfl) rfl rfl ⟨load27 (blk_drew K_ma.out), load27 (blk_drew K_mb.out), cell30 (blk_drew K_x.out), cell30 (blk_drew K_y.out)⟩ (fun hHeld => ?_)
    refine take_ (i := 0) (N := some 47) (v := ?_) (a' := ?_) #[true, false, false, false, false, false, false, false] rfl rfl (by kernel_rfl) (fun _ _ _ h => h) (Or.inl ⟨by rfl, ?_⟩) hHeld ?_ ?_
    rotate_left
    · rintro w' ⟨s0, s1, s2, s3⟩
      refine (exec_load _ _ 27 (.tmp 7) _ _ _ (by rfl) (by rfl) s0).trans ?_
      with_reducible rfl
    rotate_left
    · simp only [Act.put, List.setIfInBounds_toArray, List.set_cons_zero, List.set_cons_succ, i64_w, i32_w]
      rfl
    refine take_ (i := 1) (N := some 48) (v := ?_) (a' := ?_) #[true, true, false, false, false, false, false, false] rfl rfl (by kernel_rfl) (fun _ _ _ h => h) (Or.inl ⟨by rfl, ?_⟩) hHeld ?_ ?_
    rotate_left
    · rintro w' ⟨s0, s1, s2, s3⟩
      refine (exec_load _ _ 27 (.tmp 8) _ _ _ (by rfl) (by rfl) s1).trans ?_
      with_reducible rfl
    rotate_left
    · simp only [Act.put, List.setIfInBounds_toArray, List.set_cons_zero, List.set_cons_succ, i64_w, i32_w]
      rfl
    refine take_ (i := 3) (N := some 50) (v := ?_) (a' := ?_) #[true, true, false, true, false, false, false, false] rfl rfl (by kernel_rfl) (fun _ _ _ h => h) (Or.inl ⟨by rfl, ?_⟩) hHeld ?_ ?_
    rotate_left
    · rintro w' ⟨s0, s1, s2, s3⟩
      go_simp
      with_reducible rfl
    rotate_left
    · simp only [Act.put, List.setIfInBounds_toArray, List.set_cons_zero, List.set_cons_succ, i64_w, i32_w]
      rfl
    refine take_ (i := 4) (N := some 51) (v := ?_) (a' := ?_) #[true, true, false, true, true, false, false, false] rfl rfl (by kernel_rfl) (fun _ _ _ h => h) (Or.inl ⟨by rfl, ?_⟩) hHeld ?_ ?_
    rotate_left
    · rintro w' ⟨s0, s1, s2, s3⟩
      go_simp
      with_reducible rfl
    rotate_left
    · simp only [Act.put, List.setIfInBounds_toArray, List.set_cons_zero, List.set_cons_succ, i64_w, i32_w]
      rfl
    refine one_ (i := 2) (N := some 49) #[true, true, true, true, true, false, false, false] rfl rfl (by kernel_rfl) (by decide) (fun K hK => ?_)
    refine goes_ Tryd.func27 (by kernel_rfl) rfl #[.agg (cells ma), .agg (cells mb)] (by rfl) rfl rfl (by simp only [List.map_toArray, List.map_cons, List.map_nil]; rfl) ?_
    with_reducible refine (minus_any ma mb _).mono ?_
    rintro e_ w17 ⟨rfl, hb_⟩
    refine ⟨_, rfl, ?_⟩
    have B_w17 := Lib.hid (below_step ((below_drew HB.out)) hb_)
    have K_ma_w17 := Lib.hid (blk_below (blk_drew K_ma.out) hb_)
    have K_mb_w17 := Lib.hid (blk_below (blk_drew K_mb.out) hb_)
    have R_x_w17 := Lib.hid (Kd.C_below (Kd.C_drew R_x.out) hb_)
    have R_y_w17 := Lib.hid (Kd.C_below (Kd.C_drew R_y.out) hb_)
    have K_x_w17 := Lib.hid (blk_below (blk_drew K_x.out) hb_)
    have K_y_w17 := Lib.hid (blk_below (blk_drew K_y.out) hb_)
    clear hb_
    refine hK.out _ _ ⟨load27 K_ma_w17.out, load27 K_mb_w17.out, cell30 K_x_w17.out, cell30 K_y_w17.out⟩ (fun hHeld => ?_)
    clear hK K
    refine norm_ (a' := ?_) ?_ ?_
    rotate_left
    · show Act.put _ (some 49) _ = _
      simp only [Act.put, List.setIfInBounds_toArray, List.set_cons_zero, List.set_cons_succ, i64_w, i32_w]
      rfl
    refine one_ (i := 5) (N := some 52) #[true, true, true, true, true, true, false, false] rfl rfl (by kernel_rfl) (by decide) (fun K hK => ?_)
    refine goes_ Tryd.func31 (by kernel_rfl) rfl #[.agg #[.slice A_x (listF ma).length c_x], .agg #[.slice A_y (listF mb).length c_y]] (by rfl) rfl rfl (by simp only [List.map_toArray, List.map_cons, List.map_nil]; rfl) ?_
    with_reducible refine (refMin_any ma mb A_x c_x A_y c_y _ (R_x_w17.out) C_x.out (R_y_w17.out) C_y.out).mono ?_
    rintro e_ w18 ⟨⟨A_u3, c_u3, rfl, hC_, hc_⟩, hb_⟩
    refine ⟨_, rfl, ?_⟩
    have C_u3 := Lib.hid hc_
    have B_w18 := Lib.hid (below_step (B_w17.out) hb_)
    have K_ma_w18 := Lib.hid (blk_below (K_ma_w17.out) hb_)
    have K_mb_w18 := Lib.hid (blk_below (K_mb_w17.out) hb_)
    have R_x_w18 := Lib.hid (Kd.C_below (R_x_w17.out) hb_)
    have R_y_w18 := Lib.hid (Kd.C_below (R_y_w17.out) hb_)
    have K_x_w18 := Lib.hid (blk_below (K_x_w17.out) hb_)
    have K_y_w18 := Lib.hid (blk_below (K_y_w17.out) hb_)
    have R_u3_w18 := Lib.hid hC_
    clear hb_ hC_ hc_
    clear B_w17 K_ma_w17 K_mb_w17 R_x_w17 R_y_w17
    refine hK.out _ _ ⟨load27 K_ma_w18.out, load27 K_mb_w18.out, cell30 K_x_w18.out, cell30 K_y_w18.out⟩ (fun hHeld => ?_)
    clear hK K
    refine norm_ (a' := ?_) ?_ ?_
    rotate_left
    · show Act.put _ (some 52) _ = _
      simp only [Act.put, List.setIfInBounds_toArray, List.set_cons_zero, List.set_cons_succ, i64_w, i32_w]
      rfl
    refine one_ (i := 6) (N := some 53) #[true, true, true, true, true, true, true, false] rfl rfl (by kernel_rfl) (by decide) (fun K hK => ?_)
    refine goes_ Tryd.func12 (by kernel_rfl) rfl #[.agg (cells (minF ma mb)), .agg #[.slice A_u3 (listF (minF ma mb)).length c_u3]] (by rfl) rfl rfl (by simp only [List.map_toArray, List.map_cons, List.map_nil]; rfl) ?_
    with_reducible refine (alike_any (minF ma mb) A_u3 c_u3 _ (HT.out.below (B_w18.out) HT.out.three) (R_u3_w18.out) C_u3.out).mono ?_
    rintro e_ w19 ⟨rfl, hb_⟩
    refine ⟨_, rfl, ?_⟩
    have B_w19 := Lib.hid (below_step (B_w18.out) hb_)
    have K_ma_w19 := Lib.hid (blk_below (K_ma_w18.out) hb_)
    have K_mb_w19 := Lib.hid (blk_below (K_mb_w18.out) hb_)
    have R_x_w19 := Lib.hid (Kd.C_below (R_x_w18.out) hb_)
    have R_y_w19 := Lib.hid (Kd.C_below (R_y_w18.out) hb_)
    have R_u3_w19 := Lib.hid (Kd.C_below (R_u3_w18.out) hb_)
    have K_x_w19 := Lib.hid (blk_below (K_x_w18.out) hb_)
    have K_y_w19 := Lib.hid (blk_below (K_y_w18.out) hb_)
    clear hb_
    clear B_w18 K_ma_w18 K_mb_w18 R_x_w18 R_y_w18 R_u3_w18
    refine hK.out _ _ ⟨load27 K_ma_w19.out, load27 K_mb_w19.out, cell30 K_x_w19.out, cell30 K_y_w19.out⟩ (fun hHeld => ?_)
    clear hK K
    refine norm_ (a' := ?_) ?_ ?_
    rotate_left
    · show Act.put _ (some 53) _ = _
      simp only [Act.put, List.setIfInBounds_toArray, List.set_cons_zero, List.set_cons_succ, i64_w, i32_w]
      rfl
    refine pure_ (i := 7) (N := some 13) (v := ?_) (a' := ?_) #[true, true, true, true, true, true, true, true] rfl rfl (by kernel_rfl) (fun _ _ _ h => h) (Or.inl ⟨by rfl, ?_⟩) ?_ ?_
    rotate_left
    · intro w'
      go_simp
      with_reducible rfl
    rotate_left
    · simp only [Act.put, List.setIfInBounds_toArray, List.set_cons_zero, List.set_cons_succ, i64_w, i32_w]
      rfl
    refine done_ (by kernel_rfl) ?_
    have nB := Lib.hid (B_w19.out)
    clear HB
    have HB := nB
    clear nB
    have n_ := Lib.hid (K_ma_w19.out)
    clear K_ma
    have K_ma := n_
    clear n_
    have n_ := Lib.hid (K_mb_w19.out)
    clear K_mb
    have K_mb := n_
    clear n_
    have n_ := Lib.hid (K_x_w19.out)
    clear K_x
    have K_x := n_
    clear n_
    have n_ := Lib.hid (K_y_w19.out)
    clear K_y
    have K_y := n_
    clear n_
    have n_ := Lib.hid (R_x_w19.out)
    clear R_x
    have R_x := n_
    clear n_
    have n_ := Lib.hid (R_y_w19.out)
    clear R_y
    have R_y := n_
    clear n_
    go_wp2_with fail
    refine start_ (n := 26) (S := fun w' => (loadVar 27 ⟨w3.heap.size, 0, none⟩).run Tryd.prog w' = .ok (.agg (cells ma)) w' ∧ (loadVar 27 ⟨w5.heap.size, 0, none⟩).run Tryd.prog w' = .ok (.agg (cells mb)) w' ∧ w'.cell? ⟨w7.heap.size, 0, none⟩ = some (.slice A_x (listF ma).length c_x) ∧ w'.cell? ⟨w9.heap.size, 0, none⟩ = some (.slice A_y (listF mb).length c_y)) (ds := []) #[false, false, false, false, false, false, false, false, false, false, false, false, false, false, false, false, false, false, false, false, false, false, false, false, false, false] (by kernel_rfl) rfl rfl ⟨load27 (blk_drew K_ma.out), load27 (blk_drew K_mb.out), cell30 (blk_drew K_x.out), cell30 (blk_drew K_y.out)⟩ (fun hHeld => ?_)
    refine pure_ (i := 0) (N := some 54) (v := ?_) (a' := ?_) #[true, false, false, false, false, false, false, false, false, false, false, false, false, false, false, false, false, false, false, false, false, false, false, false, false, false] rfl rfl (by kernel_rfl) (fun _ _ _ h => h) (Or.inl ⟨by rfl, ?_⟩) ?_ ?_
    rotate_left
    · intro w'
      go_simp
      with_reducible rfl
    rotate_left
    · simp only [Act.put, List.setIfInBounds_toArray, List.set_cons_zero, List.set_cons_succ, i64_w, i32_w]
      rfl
    refine pure_ (i := 1) (N := some 55) (v := ?_) (a' := ?_) #[true, true, false, false, false, false, false, false, false, false, false, false, false, false, false, false, false, false, false, false, false, false, false, false, false, false] rfl rfl (by kernel_rfl) (fun _ _ _ h => h) (Or.inl ⟨by rfl, ?_⟩) ?_ ?_
    rotate_left
    · intro w'
      go_simp
      with_reducible rfl
    rotate_left
    · simp only [Act.put, List.setIfInBounds_toArray, List.set_cons_zero, List.set_cons_succ, i64_w, i32_w]
      rfl
    refine pure_ (i := 2) (N := some 56) (v := ?_) (a' := ?_) #[true, true, true, false, false, false, false, false, false, false, false, false, false, false, false, false, false, false, false, false, false, false, false, false, false, false] rfl rfl (by kernel_rfl) (fun _ _ _ h => h) (Or.inl ⟨by rfl, ?_⟩) ?_ ?_
    rotate_left
    · intro w'
      go_simp
      with_reducible rfl
    rotate_left
    · simp only [Act.put, List.setIfInBounds_toArray, List.set_cons_zero, List.set_cons_succ, i64_w, i32_w]
      rfl
    refine pure_ (i := 3) (N := some 57) (v := ?_) (a' := ?_) #[true, true, true, true, false, false, false, false, false, false, false, false, false, false, false, false, false, false, false, false, false, false, false, false, false, false] rfl rfl (by kernel_rfl) (fun _ _ _ h => h) (Or.inl ⟨by rfl, ?_⟩) ?_ ?_
    rotate_left
    · intro w'
      go_simp
      with_reducible rfl
    rotate_left
    · simp only [Act.put, List.setIfInBounds_toArray, List.set_cons_zero, List.set_cons_succ, i64_w, i32_w]
      rfl
    refine pure_ (i := 4) (N := some 58) (v := ?_) (a' := ?_) #[true, true, true, true, true, false, false, false, false, false, false, false, false, false, false, false, false, false, false, false, false, false, false, false, false, false] rfl rfl (by kernel_rfl) (fun _ _ _ h => h) (Or.inl ⟨by rfl, ?_⟩) ?_ ?_
    rotate_left
    · intro w'
      go_simp
      with_reducible rfl
    rotate_left
    · simp only [Act.put, List.setIfInBounds_toArray, List.set_cons_zero, List.set_cons_succ, i64_w, i32_w]
      rfl
    refine pure_ (i := 5) (N := some 59) (v := ?_) (a' := ?_) #[true, true, true, true, true, true, false, false, false, false, false, false, false, false, false, false, false, false, false, false, false, false, false, false, false, false] rfl rfl (by kernel_rfl) (fun _ _ _ h => h) (Or.inl ⟨by rfl, ?_⟩) ?_ ?_
    rotate_left
    · intro w'
      go_simp
      with_reducible rfl
    rotate_left
    · simp only [Act.put, List.setIfInBounds_toArray, List.set_cons_zero, List.set_cons_succ, i64_w, i32_w]
      rfl
    refine pure_ (i := 6) (N := some 60) (v := ?_) (a' := ?_) #[true, true, true, true, true, true, true, false, false, false, false, false, false, false, false, false, false, false, false, false, false, false, false, false, false, false] rfl rfl (by kernel_rfl) (fun _ _ _ h => h) (Or.inl ⟨by rfl, ?_⟩) ?_ ?_
    rotate_left
    · intro w'
      go_simp
      with_reducible rfl
    rotate_left
    · simp only [Act.put, List.setIfInBounds_toArray, List.set_cons_zero, List.set_cons_succ, i64_w, i32_w]
      rfl
    refine pure_ (i := 7) (N := some 61) (v := ?_) (a' := ?_) #[true, true, true, true, true, true, true, true, false, false, false, false, false, false, false, false, false, false, false, false, false, false, false, false, false, false] rfl rfl (by kernel_rfl) (fun _ _ _ h => h) (Or.inl ⟨by rfl, ?_⟩) ?_ ?_
    rotate_left
    · intro w'
      go_simp
      with_reducible rfl
    rotate_left
    · simp only [Act.put, List.setIfInBounds_toArray, List.set_cons_zero, List.set_cons_succ, i64_w, i32_w]
      rfl
    refine take_ (i := 8) (N := some 62) (v := ?_) (a' := ?_) #[true, true, true, true, true, true, true, true, true, false, false, false, false, false, false, false, false, false, false, false, false, false, false, false, false, false] rfl rfl (by kernel_rfl) (fun _ _ _ h => h) (Or.inl ⟨by rfl, ?_⟩) hHeld ?_ ?_
    rotate_left
    · rintro w' ⟨s0, s1, s2, s3⟩
      refine (exec_load _ _ 27 (.tmp 7) _ _ _ (by rfl) (by rfl) s0).trans ?_
      with_reducible rfl
    rotate_left
    · simp only [Act.put, List.setIfInBounds_toArray, List.set_cons_zero, List.set_cons_succ, i64_w, i32_w]
      rfl
    refine take_ (i := 9) (N := some 63) (v := ?_) (a' := ?_) #[true, true, true, true, true, true, true, true, true, true, false, false, false, false, false, false, false, false, false, false, false, false, false, false, false, false] rfl rfl (by kernel_rfl) (fun _ _ _ h => h) (Or.inl ⟨by rfl, ?_⟩) hHeld ?_ ?_
    rotate_left
    · rintro w' ⟨s0, s1, s2, s3⟩
      refine (exec_load _ _ 27 (.tmp 8) _ _ _ (by rfl) (by rfl) s1).trans ?_
      with_reducible rfl
    rotate_left
    · simp only [Act.put, List.setIfInBounds_toArray, List.set_cons_zero, List.set_cons_succ, i64_w, i32_w]
      rfl
    refine take_ (i := 11) (N := some 65) (v := ?_) (a' := ?_) #[true, true, true, true, true, true, true, true, true, true, false, true, false, false, false, false, false, false, false, false, false, false, false, false, false, false] rfl rfl (by kernel_rfl) (fun _ _ _ h => h) (Or.inl ⟨by rfl, ?_⟩) hHeld ?_ ?_
    rotate_left
    · rintro w' ⟨s0, s1, s2, s3⟩
      go_simp
      with_reducible rfl
    rotate_left
    · simp only [Act.put, List.setIfInBounds_toArray, List.set_cons_zero, List.set_cons_succ, i64_w, i32_w]
      rfl
    refine take_ (i := 12) (N := some 66) (v := ?_) (a' := ?_) #[true, true, true, true, true, true, true, true, true, true, false, true, true, false, false, false, false, false, false, false, false, false, false, false, false, false] rfl rfl (by kernel_rfl) (fun _ _ _ h => h) (Or.inl ⟨by rfl, ?_⟩) hHeld ?_ ?_
    rotate_left
    · rintro w' ⟨s0, s1, s2, s3⟩
      go_simp
      with_reducible rfl
    rotate_left
    · simp only [Act.put, List.setIfInBounds_toArray, List.set_cons_zero, List.set_cons_succ, i64_w, i32_w]
      rfl
    refine one_ (i := 10) (N := some 64) #[true, true, true, true, true, true, true, true, true, true, true, true, true, false, false, false, false, false, false, false, false, false, false, false, false, false] rfl rfl (by kernel_rfl) (by decide) (fun K hK => ?_)
    refine goes_ Tryd.func28 (by kernel_rfl) rfl #[.agg (cells ma), .agg (cells mb)] (by rfl) rfl rfl (by simp only [List.map_toArray, List.map_cons, List.map_nil]; rfl) ?_
    with_reducible refine (same_is ma mb bs Hbs.out _).mono ?_
    rintro e_ w20 ⟨rfl, hb_⟩
    refine ⟨_, rfl, ?_⟩
    have B_w20 := Lib.hid (below_step ((below_drew HB.out)) hb_)
    have K_ma_w20 := Lib.hid (blk_below (blk_drew K_ma.out) hb_)
    have K_mb_w20 := Lib.hid (blk_below (blk_drew K_mb.out) hb_)
    have R_x_w20 := Lib.hid (Kd.C_below (Kd.C_drew R_x.out) hb_)
    have R_y_w20 := Lib.hid (Kd.C_below (Kd.C_drew R_y.out) hb_)
    have K_x_w20 := Lib.hid (blk_below (blk_drew K_x.out) hb_)
    have K_y_w20 := Lib.hid (blk_below (blk_drew K_y.out) hb_)
    clear hb_
    refine hK.out _ _ ⟨load27 K_ma_w20.out, load27 K_mb_w20.out, cell30 K_x_w20.out, cell30 K_y_w20.out⟩ (fun hHeld => ?_)
    clear hK K
    refine norm_ (a' := ?_) ?_ ?_
    rotate_left
    · show Act.put _ (some 64) _ = _
      simp only [Act.put, List.setIfInBounds_toArray, List.set_cons_zero, List.set_cons_succ, i64_w, i32_w]
      rfl
    refine one_ (i := 13) (N := some 67) #[true, true, true, true, true, true, true, true, true, true, true, true, true, true, false, false, false, false, false, false, false, false, false, false, false, false] rfl rfl (by kernel_rfl) (by decide) (fun K hK => ?_)
    refine goes_ Tryd.func32 (by kernel_rfl) rfl #[.agg #[.slice A_x (listF ma).length c_x], .agg #[.slice A_y (listF mb).length c_y]] (by rfl) rfl rfl (by simp only [List.map_toArray, List.map_cons, List.map_nil]; rfl) ?_
    with_reducible refine (refSame_is ma mb bs Hbs.out A_x c_x A_y c_y _ (R_x_w20.out) C_x.out (R_y_w20.out) C_y.out).mono ?_
    rintro e_ w21 ⟨rfl, hb_⟩
    refine ⟨_, rfl, ?_⟩
    have B_w21 := Lib.hid (below_step (B_w20.out) hb_)
    have K_ma_w21 := Lib.hid (blk_below (K_ma_w20.out) hb_)
    have K_mb_w21 := Lib.hid (blk_below (K_mb_w20.out) hb_)
    have R_x_w21 := Lib.hid (Kd.C_below (R_x_w20.out) hb_)
    have R_y_w21 := Lib.hid (Kd.C_below (R_y_w20.out) hb_)
    have K_x_w21 := Lib.hid (blk_below (K_x_w20.out) hb_)
    have K_y_w21 := Lib.hid (blk_below (K_y_w20.out) hb_)
    clear hb_
    clear B_w20 K_ma_w20 K_mb_w20 R_x_w20 R_y_w20
    refine hK.out _ _ ⟨load27 K_ma_w21.out, load27 K_mb_w21.out, cell30 K_x_w21.out, cell30 K_y_w21.out⟩ (fun hHeld => ?_)
    clear hK K
    refine norm_ (a' := ?_) ?_ ?_
    rotate_left
    · show Act.put _ (some 67) _ = _
      simp only [Act.put, List.setIfInBounds_toArray, List.set_cons_zero, List.set_cons_succ, i64_w, i32_w]
      rfl
    refine pure_ (i := 14) (N := some 68) (v := ?_) (a' := ?_) #[true, true, true, true, true, true, true, true, true, true, true, true, true, true, true, false, false, false, false, false, false, false, false, false, false, false] rfl rfl (by kernel_rfl) (fun _ _ _ h => h) (Or.inl ⟨by rfl, ?_⟩) ?_ ?_
    rotate_left
    · intro w'
      go_simp
      with_reducible rfl
    rotate_left
    · simp only [Act.put, List.setIfInBounds_toArray, List.set_cons_zero, List.set_cons_succ, i64_w, i32_w]
      rfl
    refine pure_ (i := 15) (N := some 69) (v := ?_) (a' := ?_) #[true, true, true, true, true, true, true, true, true, true, true, true, true, true, true, true, false, false, false, false, false, false, false, false, false, false] rfl rfl (by kernel_rfl) (fun _ _ _ h => h) (Or.inl ⟨by rfl, ?_⟩) ?_ ?_
    rotate_left
    · intro w'
      go_simp
      with_reducible rfl
    rotate_left
    · simp only [Act.put, List.setIfInBounds_toArray, List.set_cons_zero, List.set_cons_succ, i64_w, i32_w]
      rfl
    refine pure_ (i := 16) (N := some 70) (v := ?_) (a' := ?_) #[true, true, true, true, true, true, true, true, true, true, true, true, true, true, true, true, true, false, false, false, false, false, false, false, false, false] rfl rfl (by kernel_rfl) (fun _ _ _ h => h) (Or.inl ⟨by rfl, ?_⟩) ?_ ?_
    rotate_left
    · intro w'
      go_simp
      with_reducible rfl
    rotate_left
    · simp only [Act.put, List.setIfInBounds_toArray, List.set_cons_zero, List.set_cons_succ, i64_w, i32_w]
      rfl
    refine take_ (i := 17) (N := some 71) (v := ?_) (a' := ?_) #[true, true, true, true, true, true, true, true, true, true, true, true, true, true, true, true, true, true, false, false, false, false, false, false, false, false] rfl rfl (by kernel_rfl) (fun _ _ _ h => h) (Or.inl ⟨by rfl, ?_⟩) hHeld ?_ ?_
    rotate_left
    · rintro w' ⟨s0, s1, s2, s3⟩
      refine (exec_load _ _ 27 (.tmp 7) _ _ _ (by rfl) (by rfl) s0).trans ?_
      with_reducible rfl
    rotate_left
    · simp only [Act.put, List.setIfInBounds_toArray, List.set_cons_zero, List.set_cons_succ, i64_w, i32_w]
      rfl
    refine take_ (i := 18) (N := some 72) (v := ?_) (a' := ?_) #[true, true, true, true, true, true, true, true, true, true, true, true, true, true, true, true, true, true, true, false, false, false, false, false, false, false] rfl rfl (by kernel_rfl) (fun _ _ _ h => h) (Or.inl ⟨by rfl, ?_⟩) hHeld ?_ ?_
    rotate_left
    · rintro w' ⟨s0, s1, s2, s3⟩
      refine (exec_load _ _ 27 (.tmp 8) _ _ _ (by rfl) (by rfl) s1).trans ?_
      with_reducible rfl
    rotate_left
    · simp only [Act.put, List.setIfInBounds_toArray, List.set_cons_zero, List.set_cons_succ, i64_w, i32_w]
      rfl
    refine take_ (i := 20) (N := some 74) (v := ?_) (a' := ?_) #[true, true, true, true, true, true, true, true, true, true, true, true, true, true, true, true, true, true, true, false, true, false, false, false, false, false] rfl rfl (by kernel_rfl) (fun _ _ _ h => h) (Or.inl ⟨by rfl, ?_⟩) hHeld ?_ ?_
    rotate_left
    · rintro w' ⟨s0, s1, s2, s3⟩
      go_simp
      with_reducible rfl
    rotate_left
    · simp only [Act.put, List.setIfInBounds_toArray, List.set_cons_zero, List.set_cons_succ, i64_w, i32_w]
      rfl
    refine take_ (i := 21) (N := some 75) (v := ?_) (a' := ?_) #[true, true, true, true, true, true, true, true, true, true, true, true, true, true, true, true, true, true, true, false, true, true, false, false, false, false] rfl rfl (by kernel_rfl) (fun _ _ _ h => h) (Or.inl ⟨by rfl, ?_⟩) hHeld ?_ ?_
    rotate_left
    · rintro w' ⟨s0, s1, s2, s3⟩
      go_simp
      with_reducible rfl
    rotate_left
    · simp only [Act.put, List.setIfInBounds_toArray, List.set_cons_zero, List.set_cons_succ, i64_w, i32_w]
      rfl
    refine one_ (i := 19) (N := some 73) #[true, true, true, true, true, true, true, true, true, true, true, true, true, true, true, true, true, true, true, true, true, true, false, false, false, false] rfl rfl (by kernel_rfl) (by decide) (fun K hK => ?_)
    refine goes_ Tryd.func33 (by kernel_rfl) rfl #[.agg (cells ma), .agg (cells mb)] (by rfl) rfl rfl (by simp only [List.map_toArray, List.map_cons, List.map_nil]; rfl) ?_
    with_reducible refine (subset_is ma mb bt Hbt.out _).mono ?_
    rintro e_ w22 ⟨rfl, hb_⟩
    refine ⟨_, rfl, ?_⟩
    have B_w22 := Lib.hid (below_step (B_w21.out) hb_)
    have K_ma_w22 := Lib.hid (blk_below (K_ma_w21.out) hb_)
    have K_mb_w22 := Lib.hid (blk_below (K_mb_w21.out) hb_)
    have R_x_w22 := Lib.hid (Kd.C_below (R_x_w21.out) hb_)
    have R_y_w22 := Lib.hid (Kd.C_below (R_y_w21.out) hb_)
    have K_x_w22 := Lib.hid (blk_below (K_x_w21.out) hb_)
    have K_y_w22 := Lib.hid (blk_below (K_y_w21.out) hb_)
    clear hb_
    clear B_w21 K_ma_w21 K_mb_w21 R_x_w21 R_y_w21
    refine hK.out _ _ ⟨load27 K_ma_w22.out, load27 K_mb_w22.out, cell30 K_x_w22.out, cell30 K_y_w22.out⟩ (fun hHeld => ?_)
    clear hK K
    refine norm_ (a' := ?_) ?_ ?_
    rotate_left
    · show Act.put _ (some 73) _ = _
      simp only [Act.put, List.setIfInBounds_toArray, List.set_cons_zero, List.set_cons_succ, i64_w, i32_w]
      rfl
    refine one_ (i := 22) (N := some 76) #[true, true, true, true, true, true, true, true, true, true, true, true, true, true, true, true, true, true, true, true, true, true, true, false, false, false] rfl rfl (by kernel_rfl) (by decide) (fun K hK => ?_)
    refine goes_ Tryd.func34 (by kernel_rfl) rfl #[.agg #[.slice A_x (listF ma).length c_x], .agg #[.slice A_y (listF mb).length c_y]] (by rfl) rfl rfl (by simp only [List.map_toArray, List.map_cons, List.map_nil]; rfl) ?_
    with_reducible refine (refSub_is ma mb bt Hbt.out A_x c_x A_y c_y _ (R_x_w22.out) C_x.out (R_y_w22.out) C_y.out).mono ?_
    rintro e_ w23 ⟨rfl, hb_⟩
    refine ⟨_, rfl, ?_⟩
    have B_w23 := Lib.hid (below_step (B_w22.out) hb_)
    have K_ma_w23 := Lib.hid (blk_below (K_ma_w22.out) hb_)
    have K_mb_w23 := Lib.hid (blk_below (K_mb_w22.out) hb_)
    have R_x_w23 := Lib.hid (Kd.C_below (R_x_w22.out) hb_)
    have R_y_w23 := Lib.hid (Kd.C_below (R_y_w22.out) hb_)
    have K_x_w23 := Lib.hid (blk_below (K_x_w22.out) hb_)
    have K_y_w23 := Lib.hid (blk_below (K_y_w22.out) hb_)
    clear hb_
    clear B_w22 K_ma_w22 K_mb_w22 R_x_w22 R_y_w22
    refine hK.out _ _ ⟨load27 K_ma_w23.out, load27 K_mb_w23.out, cell30 K_x_w23.out, cell30 K_y_w23.out⟩ (fun hHeld => ?_)
    clear hK K
    refine norm_ (a' := ?_) ?_ ?_
    rotate_left
    · show Act.put _ (some 76) _ = _
      simp only [Act.put, List.setIfInBounds_toArray, List.set_cons_zero, List.set_cons_succ, i64_w, i32_w]
      rfl
    refine pure_ (i := 23) (N := some 77) (v := ?_) (a' := ?_) #[true, true, true, true, true, true, true, true, true, true, true, true, true, true, true, true, true, true, true, true, true, true, true, true, false, false] rfl rfl (by kernel_rfl) (fun _ _ _ h => h) (Or.inl ⟨by rfl, ?_⟩) ?_ ?_
    rotate_left
    · intro w'
      go_simp
      with_reducible rfl
    rotate_left
    · simp only [Act.put, List.setIfInBounds_toArray, List.set_cons_zero, List.set_cons_succ, i64_w, i32_w]
      rfl
    refine pure_ (i := 24) (N := some 78) (v := ?_) (a' := ?_) #[true, true, true, true, true, true, true, true, true, true, true, true, true, true, true, true, true, true, true, true, true, true, true, true, true, false] rfl rfl (by kernel_rfl) (fun _ _ _ h => h) (Or.inl ⟨by rfl, ?_⟩) ?_ ?_
    rotate_left
    · intro w'
      go_simp
      with_reducible rfl
    rotate_left
    · simp only [Act.put, List.setIfInBounds_toArray, List.set_cons_zero, List.set_cons_succ, i64_w, i32_w]
      rfl
    refine pure_ (i := 25) (N := some 4) (v := ?_) (a' := ?_) #[true, true, true, true, true, true, true, true, true, true, true, true, true, true, true, true, true, true, true, true, true, true, true, true, true, true] rfl rfl (by kernel_rfl) (fun _ _ _ h => h) (Or.inl ⟨by rfl, ?_⟩) ?_ ?_
    rotate_left
    · intro w'
      go_simp
      with_reducible rfl
    rotate_left
    · simp only [Act.put, List.setIfInBounds_toArray, List.set_cons_zero, List.set_cons_succ, i64_w, i32_w]
      rfl
    refine done_ (by kernel_rfl) ?_
    have nB := Lib.hid (B_w23.out)
    clear HB
    have HB := nB
    clear nB
    have n_ := Lib.hid (K_ma_w23.out)
    clear K_ma
    have K_ma := n_
    clear n_
    have n_ := Lib.hid (K_mb_w23.out)
    clear K_mb
    have K_mb := n_
    clear n_
    have n_ := Lib.hid (K_x_w23.out)
    clear K_x
    have K_x := n_
    clear n_
    have n_ := Lib.hid (K_y_w23.out)
    clear K_y
    have K_y := n_
    clear n_
    have n_ := Lib.hid (R_x_w23.out)
    clear R_x
    have R_x := n_
    clear n_
    have n_ := Lib.hid (R_y_w23.out)
    clear R_y
    have R_y := n_
    clear n_
    go_wp2_with fail
    go_ret
    exact ⟨rfl, HB.out⟩
  · have hno : shortB l0.length l1.length 0 = false := by simpa using hsh
    have HS := Lib.hid hno
    clear hsh hno
    go_wp2_with fail
    refine (short_any A0 c0 l0 A1 c1 l1 none 0 [] false HS.out _ (Kd.C_below HC0.out (by (with_reducible repeat (first | apply below_alloc | apply pw_below_drewN | apply below_drew1)); exact HB.out)) HL0.out (Kd.C_below HC1.out (by (with_reducible repeat (first | apply below_alloc | apply pw_below_drewN | apply below_drew1)); exact HB.out)) HL1.out (Kd.C_nil _ _) (Nat.le_refl _)).mono ?_
    rintro e_ w2 ⟨rfl, hb_⟩
    have nB : Hid (Below w.heap.size w w2) := Lib.hid (below_step (by (with_reducible repeat (first | apply below_alloc | apply pw_below_drewN | apply below_drew1)); exact HB.out) hb_)
    clear HB
    have HB := nB
    clear nB
    clear hb_
    go_wp2_with fail
    go_ret
    exact ⟨rfl, HB.out⟩
end Go.Proofs.YtjcppnleoahaiaaDoor.P
